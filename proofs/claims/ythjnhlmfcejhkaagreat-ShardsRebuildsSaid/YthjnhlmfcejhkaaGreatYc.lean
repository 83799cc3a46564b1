/- A part of the proof. Conditions: as each theorem says. -/
import Derived.Test.YthjnhlmfcejhkaaGreatYb
namespace Go.Proofs.YthjnhlmfcejhkaaGreat
set_option linter.unusedVariables false
set_option linter.unusedSimpArgs false
set_option maxRecDepth 10000
def ssz (n : Nat) : Nat := (n + 255) / 256 * 64
theorem stripe_Size_nat (n : Nat) (h : n <= 1000000000) : m_stripe_Size (n : Int) = some ((ssz n : Nat) : Int) := by
 unfold m_stripe_Size ssz
 by_cases h0 : n = 0
 ·subst h0; rfl
 ·rw [if_neg (by omega), ck_of (by omega), obs, dvi_of (by omega) (by omega), obs, ck_of (by omega), obs, ck_of (by omega), obs]
  congr 1; omega
theorem r05_Size_nat (n : Nat) (h : n <= 1000000000) : m_r05_Size (n : Int) = some ((ssz n : Nat) : Int) := by
 unfold m_r05_Size ssz
 rw [if_neg (by omega), dvi_of (by omega) (by omega), obs, rmi_of (by omega) (by omega), obs]
 by_cases h1 : (0 : Int) < (n : Int) % 256
 ·rw [if_pos h1, ck_of (by omega), obs, ck_of (by omega), obs]; congr 1; omega
 ·rw [if_neg h1, ck_of (by omega), obs]; congr 1; omega
def plS (off : Nat) : Nat := off / 64 % 4
def plA (off : Nat) : Nat := off / 64 / 4 * 64 + off % 64
theorem stripe_place_nat (off : Nat) (h : off <= 5000000000000000000) : m_stripe_place (off : Int) = some ((plS off : Int), (plA off : Int)) := by
 unfold m_stripe_place plS plA
 rw [dvi_of (by omega) (by omega), obs, rmi_of (by omega) (by omega), obs, dvi_of (by omega) (by omega), obs, ck_of (by omega), obs, rmi_of (by omega) (by omega), obs, ck_of (by omega), obs]
 try (congr 2 <;> omega)
theorem r05_Place_nat (off : Nat) (h : off <= 5000000000000000000) : m_r05_Place (off : Int) = some ((plS off : Int), (plA off : Int), 0) := by
 unfold m_r05_Place plS plA
 rw [if_neg (by omega), dvi_of (by omega) (by omega), obs, rmi_of (by omega) (by omega), obs, dvi_of (by omega) (by omega), obs, ck_of (by omega), obs, rmi_of (by omega) (by omega), obs, ck_of (by omega), obs]
 simp only [Option.some.injEq, Prod.mk.injEq, and_true]; omega
def pk (off n : Nat) : Nat := min (64 - off % 64) n
theorem pk_pos {off n : Nat} (h : 0 < n) : 0 < pk off n /\ pk off n <= n /\ pk off n <= 64 /\ pk off n <= 64 - off % 64 := by unfold pk; omega
theorem pieces_ind {motive : Nat -> Nat -> Prop} (h0 : ∀ off, motive off 0) (hs : ∀ off n, 0 < n -> motive (off + pk off n) (n - pk off n) -> motive off n) : ∀ n off, motive off n := by
 intro n
 induction n using Nat.strongRecOn with
 | _ n ih =>
  intro off
  rcases Nat.eq_zero_or_pos n with h | h
  ·subst h; exact h0 off
  ·have := pk_pos (off := off) h
   exact hs off n h (ih _ (by omega) _)
theorem apd1 {α : Type} {B : Nat} {l : List α} {x : α} (hB : B <= 100) (hl : l.length <= 100000000) : apd B l [x] = some (l ++ [x]) := by
 refine apd_of ⟨?_, by simp only [List.length_singleton]; omega⟩
 refine Nat.le_trans (Nat.mul_le_mul_left _ hB) ?_
 simp only [List.length_singleton]; omega
def pos (j t : Nat) : Nat := t / 64 * 256 + j * 64 + t % 64
theorem pos_pl (off : Nat) : pos (plS off) (plA off) = off := by unfold pos plS plA; omega
theorem pl_pos {j t : Nat} (h : j < 4) : plS (pos j t) = j /\ plA (pos j t) = t := by unfold pos plS plA; omega
theorem plA_lt {off L : Nat} (h : off < L) : plA off < ssz L := by unfold plA ssz; omega
theorem plS_lt (off : Nat) : plS off < 4 := by unfold plS; omega
def sD (b : List (BitVec 8)) (j t : Nat) : BitVec 8 := b.getD (pos j t) 0#8
def sDi (b : List (BitVec 8)) (i j t : Nat) : BitVec 8 := if pos j t < i then b.getD (pos j t) 0#8 else 0#8
def rows (b : List (BitVec 8)) (i : Nat) : List (List (BitVec 8)) := tb 4 fun j => tb (ssz b.length) (sDi b i j)
theorem split_step (b : List (BitVec 8)) (i : Nat) (hi : i < b.length) :
  tb 4 (st (fun j => tb (ssz b.length) (sDi b i j)) (plS i) (tb (ssz b.length) (st (sDi b i (plS i)) (plA i) (b.getD i 0#8)))) = rows b (i + 1) := by
 refine tb_ext fun j hj => ?_
 by_cases e : j = plS i
 ·subst e
  rw [st_same]
  refine tb_ext fun t _ => ?_
  by_cases e : t = plA i
  ·subst e
   rw [st_same]; unfold sDi; rw [pos_pl, if_pos (by omega)]
  ·rw [st_ne e]; unfold sDi
   have : pos (plS i) t ≠ i := fun h => e (by have := (pl_pos (j := plS i) (t := t) (plS_lt i)).2; rw [h] at this; exact this.symm)
   by_cases h1 : pos (plS i) t < i
   ·rw [if_pos h1, if_pos (by omega)]
   ·rw [if_neg h1, if_neg (by omega)]
 ·rw [st_ne e]
  refine tb_ext fun t _ => ?_
  unfold sDi
  have : pos j t ≠ i := fun h => e (by have := (pl_pos (j := j) (t := t) hj).1; rw [h] at this; exact this.symm)
  by_cases h1 : pos j t < i
  ·rw [if_pos h1, if_pos (by omega)]
  ·rw [if_neg h1, if_neg (by omega)]
theorem split_l3 (b : List (BitVec 8)) (hb : b.length <= 100000) (d : Nat) : ∀ (i q : Nat), i + d = b.length -> d < q -> m_r05_Split_l3 b q (rows b i) (i : Int) = some (rows b b.length) := by
 induction d with
 | zero =>
  intro i q hi hq
  obtain ⟨q, rfl⟩ : ∃ q', q = q' + 1 := ⟨q - 1, by omega⟩
  unfold m_r05_Split_l3
  rw [if_neg (by omega), show i = b.length by omega]; rfl
 | succ d ih =>
  intro i q hi hq
  obtain ⟨q, rfl⟩ : ∃ q', q = q' + 1 := ⟨q - 1, by omega⟩
  have h1 : i < b.length := by omega
  unfold m_r05_Split_l3
  rw [if_pos (by omega), r05_Place_nat i (by omega), obs]
  show Option.bind (idx (rows b i) (plS i : Int)) _ = _
  unfold rows
  rw [idx_tb (plS_lt i), obs, idx_nat, List.getElem?_eq_getElem h1, obs]
  show Option.bind (idx (tb (ssz b.length) (sDi b i (plS i))) (plA i : Int)) _ = _
  rw [idx_tb (plA_lt h1), obs]
  show Option.bind (upd (tb (ssz b.length) (sDi b i (plS i))) (plA i : Int) _) _ = _
  rw [upd_tb (plA_lt h1), obs]
  show Option.bind (upd (tb 4 fun j => tb (ssz b.length) (sDi b i j)) (plS i : Int) _) _ = _
  rw [upd_tb (plS_lt i), obs, ck_of (by omega), obs, show b[i] = b.getD i 0#8 by rw [List.getD_eq_getElem?_getD, List.getElem?_eq_getElem h1]; rfl, split_step b i h1]
  exact ih (i + 1) q (by omega) (by omega)
theorem split_l1 (b : List (BitVec 8)) (hb : b.length <= 100000) (d : Nat) : ∀ (i q : Nat), i + d = 4 -> d < q -> m_r05_Split_l1 b q (tb i fun j => tb (ssz b.length) fun _ => 0#8) (i : Int) = m_r05_Split_j0 b (tb 4 fun j => tb (ssz b.length) fun _ => 0#8) := by
 induction d with
 | zero =>
  intro i q hi hq
  obtain ⟨q, rfl⟩ : ∃ q', q = q' + 1 := ⟨q - 1, by omega⟩
  unfold m_r05_Split_l1
  rw [if_neg (by omega), show i = 4 by omega]
 | succ d ih =>
  intro i q hi hq
  obtain ⟨q, rfl⟩ : ∃ q', q = q' + 1 := ⟨q - 1, by omega⟩
  unfold m_r05_Split_l1
  rw [if_pos (by omega), r05_Size_nat _ (by omega), obs, mks_tb (by omega) (by unfold ssz; omega), obs, apd_tb (F := fun _ => tb (ssz b.length) fun _ => 0#8) (by omega) (by omega) rfl, obs, ck_of (by omega), obs]
  exact ih (i + 1) q (by omega) (by omega)
theorem split_ok (b : List (BitVec 8)) (hb : b.length <= 100000) : m_r05_Split b = some (tb 4 fun j => tb (ssz b.length) (sD b j)) := by
 unfold m_r05_Split
 refine (split_l1 b hb 4 0 forever (by omega) (by unfold forever; omega)).trans ?_
 unfold m_r05_Split_j0
 have e0 : (tb 4 fun j => tb (ssz b.length) fun _ => 0#8) = rows b 0 := tb_ext fun j _ => tb_ext fun t _ => by unfold sDi; rw [if_neg (by omega)]
 rw [e0]
 refine (split_l3 b hb b.length 0 forever (by omega) (by unfold forever; omega)).trans ?_
 congr 1
 refine tb_ext fun j hj => tb_ext fun t ht => ?_
 unfold sDi sD
 by_cases h : pos j t < b.length
 ·rw [if_pos h]
 ·rw [if_neg h, List.getD_eq_getElem?_getD, List.getElem?_eq_none (by omega)]; rfl
abbrev Item := Sapi_Item
def sval (a b c : Int) : Bool := decide (0 <= a /\ a < 4 /\ 1 <= b /\ b <= 8 /\ 0 <= c /\ c <= 4294967295)
theorem superblock_Valid_eq (a b c : Int) : m_superblock_Valid a b c = some (sval a b c) := by
 unfold m_superblock_Valid sval
 repeat' split
 all_goals first | (congr 1; exact decide_eq_decide.2 ⟨fun _ => by omega, fun _ => by omega⟩) | (congr 1; exact (decide_eq_false (by omega)).symm)
theorem r07_Valid_eq (a b c : Int) : m_r07_Valid a b c = some (sval a b c) := by
 unfold m_r07_Valid sval
 repeat' split
 all_goals first | (congr 1; exact decide_eq_decide.2 ⟨fun _ => by omega, fun _ => by omega⟩) | (congr 1; exact (decide_eq_false (by omega)).symm)
def vItem (x : Item) : Prop := 16 <= x.fOff /\ x.fOff <= 1048576 /\ x.fOff % 8 = 0 /\ 0 <= x.fSize /\ x.fSize <= 4096
instance (x : Item) : Decidable (vItem x) := inferInstanceAs (Decidable (_ /\ _))
theorem index_valid_eq (x : Item) : m_index_valid x.fKey x.fCookie x.fOff x.fSize = some (decide (vItem x)) := by
 unfold m_index_valid vItem
 by_cases h1 : (16 : Int) <= x.fOff
 ·rw [if_pos h1]
  by_cases h2 : x.fOff <= (1048576 : Int)
  ·rw [if_pos h2, rmi_of (by omega) (by omega), obs]
   by_cases h3 : x.fOff % 8 = 0
   ·rw [if_pos h3]
    by_cases h4 : (0 : Int) <= x.fSize
    ·rw [if_pos h4]; refine congrArg some ?_; simp [h1, h2, h3, h4]
    ·rw [if_neg h4]; refine congrArg some ?_; simp [h4]
   ·rw [if_neg h3]; refine congrArg some ?_; simp [h3]
  ·rw [if_neg h2]; refine congrArg some ?_; simp [h2]
 ·rw [if_neg h1]; refine congrArg some ?_; simp [h1]
theorem r08_ValidItem_eq (x : Item) : m_r08_ValidItem x.fKey x.fCookie x.fOff x.fSize = some (decide (vItem x)) := index_valid_eq x
def gtB : Option (BitVec 64) -> Item -> Bool
 | none, _ => true
 | some k, x => decide (k < x.fKey)
def ascB : Option (BitVec 64) -> List Item -> Bool
 | _, [] => true
 | p, x :: l => gtB p x && ascB (some x.fKey) l
theorem ascB_cons (p : Option (BitVec 64)) (x : Item) (l : List Item) : ascB p (x :: l) = (gtB p x && ascB (some x.fKey) l) := rfl
def ivalB (l : List Item) : Bool := ascB none l && l.all fun x => decide (vItem x)
def prev (l : List Item) (i : Nat) : Option (BitVec 64) := if i = 0 then none else (l[i - 1]?).map (·.fKey)
theorem drop_one {α : Type} {l : List α} {i : Nat} (h : i < l.length) : l.drop i = l[i] :: l.drop (i + 1) := List.drop_eq_getElem_cons h
theorem prev_succ {l : List Item} {i : Nat} (h : i < l.length) : prev l (i + 1) = some l[i].fKey := by
 unfold prev; rw [if_neg (by omega), Nat.add_sub_cancel, List.getElem?_eq_getElem h]; rfl
theorem ascending_loop (l : List Item) (hl : l.length <= 9223372036854775806) (d : Nat) : ∀ (i q : Nat), i + d = l.length -> d < q -> m_index_ascending_l1 l q (i : Int) = some (ascB (prev l i) (l.drop i)) := by
 induction d with
 | zero =>
  intro i q hi hq
  obtain ⟨q, rfl⟩ : ∃ q', q = q' + 1 := ⟨q - 1, by omega⟩
  unfold m_index_ascending_l1
  rw [if_neg (by omega), List.drop_of_length_le (by omega)]; rfl
 | succ d ih =>
  intro i q hi hq
  obtain ⟨q, rfl⟩ : ∃ q', q = q' + 1 := ⟨q - 1, by omega⟩
  have h1 : i < l.length := by omega
  have e1 : ck ((i : Int) + 1) = some ((i + 1 : Nat) : Int) := by rw [ck_of (by omega)]; rfl
  unfold m_index_ascending_l1
  rw [if_pos (by omega), idx_nat, List.getElem?_eq_getElem h1, obs, drop_one h1, ascB_cons, <- prev_succ h1]
  by_cases h0 : i = 0
  ·subst h0
   rw [if_neg (by omega), e1, obs, ih (0 + 1) q (by omega) (by omega)]; rfl
  ·have e2 : ck ((i : Int) - 1) = some ((i - 1 : Nat) : Int) := by rw [ck_of (by omega)]; refine congrArg some ?_; omega
   have hp : prev l i = some l[i - 1].fKey := by unfold prev; rw [if_neg h0, List.getElem?_eq_getElem (by omega)]; rfl
   rw [if_pos (by omega), e2, obs, idx_nat, List.getElem?_eq_getElem (show i - 1 < l.length by omega), obs, hp]
   by_cases hk : l[i].fKey <= l[i - 1].fKey
   ·rw [if_pos hk]; refine congrArg some ?_; symm
    have : ¬ l[i - 1].fKey < l[i].fKey := by rw [BitVec.lt_def]; rw [BitVec.le_def] at hk; omega
    simp [gtB, this]
   ·rw [if_neg hk, e1, obs, ih (i + 1) q (by omega) (by omega)]; refine congrArg some ?_
    have : l[i - 1].fKey < l[i].fKey := by rw [BitVec.lt_def]; rw [BitVec.le_def] at hk; omega
    simp [gtB, this]
theorem all_loop (l : List Item) (hl : l.length <= 9223372036854775806) (d : Nat) : ∀ (i q : Nat), i + d = l.length -> d < q -> m_index_Valid_l1 l q (i : Int) = some ((l.drop i).all fun x => decide (vItem x)) := by
 induction d with
 | zero =>
  intro i q hi hq
  obtain ⟨q, rfl⟩ : ∃ q', q = q' + 1 := ⟨q - 1, by omega⟩
  unfold m_index_Valid_l1
  rw [if_neg (by omega), List.drop_of_length_le (by omega)]; rfl
 | succ d ih =>
  intro i q hi hq
  obtain ⟨q, rfl⟩ : ∃ q', q = q' + 1 := ⟨q - 1, by omega⟩
  have h1 : i < l.length := by omega
  have e1 : ck ((i : Int) + 1) = some ((i + 1 : Nat) : Int) := by rw [ck_of (by omega)]; rfl
  unfold m_index_Valid_l1
  rw [if_pos (by omega), idx_nat, List.getElem?_eq_getElem h1, obs, index_valid_eq, obs, drop_one h1, List.all_cons]
  by_cases hv : vItem l[i]
  ·rw [if_pos (decide_eq_true hv), e1, obs, ih (i + 1) q (by omega) (by omega), decide_eq_true hv, Bool.true_and]
  ·rw [if_neg (by simpa using hv), decide_eq_false hv, Bool.false_and]; refine congrArg some ?_; simp; try omega
theorem index_Valid_eq (l : List Item) (hl : l.length <= 9223372036854775806) : m_index_Valid l = some (ivalB l) := by
 unfold m_index_Valid m_index_ascending ivalB
 have e := ascending_loop l hl l.length 0 forever (by omega) (by unfold forever; omega)
 have e2 := all_loop l hl l.length 0 forever (by omega) (by unfold forever; omega)
 rw [List.drop_zero] at e e2
 rw [show ((0 : Int)) = ((0 : Nat) : Int) from rfl, e, obs, e2]
 show (if ascB none l = true then _ else _) = _
 cases h : ascB none l
 ·rfl
 ·rfl
theorem r08_loop (l : List Item) (hl : l.length <= 9223372036854775806) (d : Nat) : ∀ (i q : Nat), i + d = l.length -> d < q -> m_r08_Valid_l1 l q (i : Int) = some (ascB (prev l i) (l.drop i) && (l.drop i).all fun x => decide (vItem x)) := by
 induction d with
 | zero =>
  intro i q hi hq
  obtain ⟨q, rfl⟩ : ∃ q', q = q' + 1 := ⟨q - 1, by omega⟩
  unfold m_r08_Valid_l1
  rw [if_neg (by omega), List.drop_of_length_le (by omega)]; rfl
 | succ d ih =>
  intro i q hi hq
  obtain ⟨q, rfl⟩ : ∃ q', q = q' + 1 := ⟨q - 1, by omega⟩
  have h1 : i < l.length := by omega
  have e1 : ck ((i : Int) + 1) = some ((i + 1 : Nat) : Int) := by rw [ck_of (by omega)]; rfl
  unfold m_r08_Valid_l1
  rw [if_pos (by omega), idx_nat, List.getElem?_eq_getElem h1, obs, r08_ValidItem_eq, obs, drop_one h1, List.all_cons, ascB_cons, <- prev_succ h1]
  by_cases hv : vItem l[i]
  ·rw [if_pos (decide_eq_true hv), decide_eq_true hv, Bool.true_and]
   by_cases h0 : i = 0
   ·subst h0
    rw [if_neg (by omega), e1, obs, ih (0 + 1) q (by omega) (by omega)]; rfl
   ·have e2 : ck ((i : Int) - 1) = some ((i - 1 : Nat) : Int) := by rw [ck_of (by omega)]; refine congrArg some ?_; omega
    have hp : prev l i = some l[i - 1].fKey := by unfold prev; rw [if_neg h0, List.getElem?_eq_getElem (by omega)]; rfl
    rw [if_pos (by omega), obs, e2, obs, idx_nat, List.getElem?_eq_getElem (show i - 1 < l.length by omega), obs, hp]
    by_cases hk : l[i].fKey <= l[i - 1].fKey
    ·rw [if_pos hk]; refine congrArg some ?_; symm
     have : ¬ l[i - 1].fKey < l[i].fKey := by rw [BitVec.lt_def]; rw [BitVec.le_def] at hk; omega
     simp [gtB, this]
    ·rw [if_neg hk, e1, obs, ih (i + 1) q (by omega) (by omega)]; refine congrArg some ?_
     have : l[i - 1].fKey < l[i].fKey := by rw [BitVec.lt_def]; rw [BitVec.le_def] at hk; omega
     simp [gtB, this]
  ·rw [if_neg (by simpa using hv), decide_eq_false hv]; refine congrArg some ?_; simp
theorem r08_Valid_eq (l : List Item) (hl : l.length <= 9223372036854775806) : m_r08_Valid l = some (ivalB l) := by
 unfold m_r08_Valid ivalB
 have e := r08_loop l hl l.length 0 forever (by omega) (by unfold forever; omega)
 rw [List.drop_zero] at e
 exact e
theorem ivalB_all {l : List Item} (h : ivalB l = true) : ∀ x ∈ l, vItem x := by
 unfold ivalB at h
 rw [Bool.and_eq_true] at h
 intro x hx
 have := List.all_eq_true.1 h.2 x hx
 simpa using this
theorem ascB_of : ∀ (p : Option (BitVec 64)) (l : List Item), (∀ k, p = some k -> ∀ x ∈ l, k < x.fKey) -> l.Pairwise (fun a b => a.fKey < b.fKey) -> ascB p l = true
 | _, [], _, _ => rfl
 | p, x :: l, hp, h => by
  rw [ascB_cons, Bool.and_eq_true]
  obtain ⟨h1, h2⟩ := List.pairwise_cons.1 h
  refine ⟨?_, ascB_of _ l (fun k hk y hy => by injection hk with hk; subst hk; exact h1 y hy) h2⟩
  cases p with
  | none => rfl
  | some k => exact decide_eq_true (hp k rfl x (List.mem_cons_self ..))
theorem ivalB_of {l : List Item} (h1 : ∀ x ∈ l, vItem x) (h2 : l.Pairwise fun a b => a.fKey < b.fKey) : ivalB l = true := by
 unfold ivalB
 rw [ascB_of none l (fun k hk => by cases hk) h2, Bool.true_and]
 exact List.all_eq_true.2 fun x hx => decide_eq_true (h1 x hx)
def fits (n : Int) (x : Item) : Prop := x.fOff + sizeZ x.fSize <= n
instance (n : Int) (x : Item) : Decidable (fits n x) := inferInstanceAs (Decidable (_ <= _))
theorem sizeZ_bd (z : Int) : 0 <= sizeZ z /\ sizeZ z <= 4200 := by
 unfold sizeZ; split
 ·have := nsize_lo z.toNat; omega
 ·omega
def hvalB (a b c n : Int) (l : List Item) : Bool := sval a b c && decide (16 <= n /\ n <= 524288) && ivalB l && l.all fun x => decide (fits n x)
theorem shards_loop (l : List Item) (n : Int) (hl : l.length <= 9223372036854775806) (hv : ∀ x ∈ l, vItem x) (d : Nat) : ∀ (i q : Nat), i + d = l.length -> d < q -> m_shards_Valid_l1 l n q (i : Int) = some ((l.drop i).all fun x => decide (fits n x)) := by
 induction d with
 | zero =>
  intro i q hi hq
  obtain ⟨q, rfl⟩ : ∃ q', q = q' + 1 := ⟨q - 1, by omega⟩
  unfold m_shards_Valid_l1
  rw [if_neg (by omega), List.drop_of_length_le (by omega)]; rfl
 | succ d ih =>
  intro i q hi hq
  obtain ⟨q, rfl⟩ : ∃ q', q = q' + 1 := ⟨q - 1, by omega⟩
  have h1 : i < l.length := by omega
  have e1 : ck ((i : Int) + 1) = some ((i + 1 : Nat) : Int) := by rw [ck_of (by omega)]; rfl
  have hx := hv l[i] (List.getElem_mem h1)
  have hs := sizeZ_bd l[i].fSize
  unfold vItem at hx
  unfold m_shards_Valid_l1
  rw [if_pos (by omega), idx_nat, List.getElem?_eq_getElem h1, obs, needle_Size_eq, obs, ck_of (by omega), obs, drop_one h1, List.all_cons]
  by_cases hk : n < l[i].fOff + sizeZ l[i].fSize
  ·rw [if_pos hk, decide_eq_false (show ¬ fits n l[i] by unfold fits; omega), Bool.false_and]; refine congrArg some ?_; simp; try omega
  ·rw [if_neg hk, e1, obs, ih (i + 1) q (by omega) (by omega), decide_eq_true (show fits n l[i] by unfold fits; omega), Bool.true_and]
theorem r17_loop (l : List Item) (n : Int) (hl : l.length <= 9223372036854775806) (hv : ∀ x ∈ l, vItem x) (d : Nat) : ∀ (i q : Nat), i + d = l.length -> d < q -> m_r17_Valid_l2 l n q (i : Int) = some ((l.drop i).all fun x => decide (fits n x)) := by
 induction d with
 | zero =>
  intro i q hi hq
  obtain ⟨q, rfl⟩ : ∃ q', q = q' + 1 := ⟨q - 1, by omega⟩
  unfold m_r17_Valid_l2
  rw [if_neg (by omega), List.drop_of_length_le (by omega)]; rfl
 | succ d ih =>
  intro i q hi hq
  obtain ⟨q, rfl⟩ : ∃ q', q = q' + 1 := ⟨q - 1, by omega⟩
  have h1 : i < l.length := by omega
  have e1 : ck ((i : Int) + 1) = some ((i + 1 : Nat) : Int) := by rw [ck_of (by omega)]; rfl
  have hx := hv l[i] (List.getElem_mem h1)
  have hs := sizeZ_bd l[i].fSize
  unfold vItem at hx
  unfold m_r17_Valid_l2
  rw [if_pos (by omega), idx_nat, List.getElem?_eq_getElem h1, obs, obs, r06_Size_eq, obs, ck_of (by omega), obs, drop_one h1, List.all_cons]
  by_cases hk : n < l[i].fOff + sizeZ l[i].fSize
  ·rw [if_pos hk, decide_eq_false (show ¬ fits n l[i] by unfold fits; omega), Bool.false_and]
  ·rw [if_neg hk, e1, obs, ih (i + 1) q (by omega) (by omega), decide_eq_true (show fits n l[i] by unfold fits; omega), Bool.true_and]
theorem shards_Valid_eq (a b c n : Int) (c0 c1 c2 c3 c4 c5 : BitVec 32) (l : List Item) (hl : l.length <= 9223372036854775806) : m_shards_Valid a b c n c0 c1 c2 c3 c4 c5 l = some (hvalB a b c n l) := by
 unfold m_shards_Valid hvalB
 rw [superblock_Valid_eq, obs]
 by_cases h1 : sval a b c = true
 ·rw [if_pos h1, h1, Bool.true_and]
  by_cases h2 : n < 16
  ·rw [if_pos h2, decide_eq_false (by omega)]; rfl
  ·by_cases h3 : (524288 : Int) < n
   ·rw [if_neg h2, if_pos h3, decide_eq_false (by omega)]; rfl
   ·rw [if_neg h2, if_neg h3, decide_eq_true (by omega), Bool.true_and, index_Valid_eq l hl, obs]
    by_cases h4 : ivalB l = true
    ·rw [if_pos h4, h4, Bool.true_and]
     have := shards_loop l n hl (ivalB_all h4) l.length 0 forever (by omega) (by unfold forever; omega)
     rw [List.drop_zero] at this; exact this
    ·rw [if_neg h4]; simp [Bool.eq_false_iff.2 h4]
 ·rw [if_neg h1]; simp [Bool.eq_false_iff.2 h1]
theorem r17_Valid_eq (a b c n : Int) (c0 c1 c2 c3 c4 c5 : BitVec 32) (l : List Item) (hl : l.length <= 9223372036854775806) : m_r17_Valid a b c n c0 c1 c2 c3 c4 c5 l = some (hvalB a b c n l) := by
 unfold m_r17_Valid hvalB
 rw [r07_Valid_eq, obs]
 by_cases h1 : sval a b c = true
 ·rw [if_pos h1, h1, Bool.true_and]
  by_cases h2 : n < 16
  ·rw [if_pos h2, decide_eq_false (by omega)]; rfl
  ·by_cases h3 : (524288 : Int) < n
   ·rw [if_neg h2, if_pos h3, decide_eq_false (by omega)]; rfl
   ·rw [if_neg h2, if_neg h3, decide_eq_true (by omega), Bool.true_and, r08_Valid_eq l hl, obs]
    by_cases h4 : ivalB l = true
    ·rw [if_pos h4, h4, Bool.true_and]
     have := r17_loop l n hl (ivalB_all h4) l.length 0 forever (by omega) (by unfold forever; omega)
     rw [List.drop_zero] at this; exact this
    ·rw [if_neg h4]; simp [Bool.eq_false_iff.2 h4]
 ·rw [if_neg h1]; simp [Bool.eq_false_iff.2 h1]
theorem hvalB_len {a b c n : Int} {l : List Item} (h : hvalB a b c n l = true) : 16 <= n /\ n <= 524288 := by
 unfold hvalB at h; simp only [Bool.and_eq_true] at h; exact of_decide_eq_true h.1.1.2
def Asc (l : List Item) : Prop := l.Pairwise fun a b => a.fKey < b.fKey
theorem bv_lt {a b : BitVec 64} : a < b ↔ a.toNat < b.toNat := BitVec.lt_def
theorem bv_le {a b : BitVec 64} : a <= b ↔ a.toNat <= b.toNat := BitVec.le_def
theorem bv_ne {a b : BitVec 64} : a = b ↔ a.toNat = b.toNat := ⟨fun h => by rw [h], BitVec.eq_of_toNat_eq⟩
theorem apdI {a b : List Item} (h : a.length + b.length <= 1000000) : apd 32 a b = some (a ++ b) := apd_of ⟨by omega, by omega⟩
theorem sorted_l4 (x00 x16 : List Item) (x17 : Nat) (r1 : List Item -> Int -> Option (List Item)) (hx : x17 < x00.length) (hs : ∀ y ∈ x16, y.fKey < x00[x17].fKey) (hl : x16.length <= 100000) (d : Nat) : ∀ (i q : Nat), i + d = x16.length -> d < q ->
  m_r08_Sorted_l4 x00 x16 (x17 : Int) r1 q (i : Int) = m_r08_Sorted_j3 x00 x16 (x17 : Int) r1 (x16.length : Int) := by
 induction d with
 | zero =>
  intro i q hi hq
  obtain ⟨q, rfl⟩ : ∃ q', q = q' + 1 := ⟨q - 1, by omega⟩
  unfold m_r08_Sorted_l4
  rw [if_neg (by omega), show (i : Int) = (x16.length : Int) by omega]
 | succ d ih =>
  intro i q hi hq
  obtain ⟨q, rfl⟩ : ∃ q', q = q' + 1 := ⟨q - 1, by omega⟩
  have h1 : i < x16.length := by omega
  unfold m_r08_Sorted_l4
  rw [if_pos (by omega), idx_nat, List.getElem?_eq_getElem h1, obs, idx_nat, List.getElem?_eq_getElem hx, obs, if_pos (hs _ (List.getElem_mem h1)), ck_of (by omega), obs]
  exact ih (i + 1) q (by omega) (by omega)
theorem sorted_l1 (l : List Item) (ha : Asc l) (hl : l.length <= 100000) (d : Nat) : ∀ (i q : Nat), i + d = l.length -> d < q -> m_r08_Sorted_l1 l q (l.take i) (i : Int) = some l := by
 induction d with
 | zero =>
  intro i q hi hq
  obtain ⟨q, rfl⟩ : ∃ q', q = q' + 1 := ⟨q - 1, by omega⟩
  unfold m_r08_Sorted_l1
  rw [if_neg (by omega), List.take_of_length_le (by omega)]; rfl
 | succ d ih =>
  intro i q hi hq
  obtain ⟨q, rfl⟩ : ∃ q', q = q' + 1 := ⟨q - 1, by omega⟩
  have h1 : i < l.length := by omega
  have ht : (l.take i).length = i := by rw [List.length_take]; omega
  have hs : ∀ y ∈ l.take i, y.fKey < l[i].fKey := by
   intro y hy
   obtain ⟨j, hj, rfl⟩ := List.mem_iff_getElem.1 hy
   rw [List.getElem_take]
   exact List.pairwise_iff_getElem.1 ha j i (by omega) h1 (by omega)
  unfold m_r08_Sorted_l1
  rw [if_pos (by omega)]
  refine (sorted_l4 l (l.take i) i _ h1 hs (by omega) i 0 forever (by omega) (by unfold forever; omega)).trans ?_
  unfold m_r08_Sorted_j3
  have e1 : slc (l.take i) ((l.take i).length : Int) ((l.take i).length : Int) = some [] := by
   rw [slc_of (by omega)]; simp
  have e2 : slc (l.take i) 0 ((l.take i).length : Int) = some (l.take i) := by
   rw [slc_of (by omega), show (0 : Int).toNat = 0 from rfl, List.drop_zero, List.take_of_length_le (by omega)]
  rw [e1, obs, apdI (by simp), obs, if_neg (by simp), e2, obs, idx_nat, List.getElem?_eq_getElem h1, obs, apdI (by simp; omega), obs, apdI (by simp; omega), obs]
  unfold m_r08_Sorted_j2
  rw [ck_of (by omega), obs, List.append_nil, List.append_nil]
  have := ih (i + 1) q (by omega) (by omega)
  rw [List.take_succ_eq_append_getElem h1] at this
  exact this
theorem sorted_ok {l : List Item} (ha : Asc l) (hl : l.length <= 100000) : m_r08_Sorted l = some l :=
 sorted_l1 l ha hl l.length 0 forever (by omega) (by unfold forever; omega)
def putL (l : List Item) (x : Item) : List Item := l.filter (fun y => decide (y.fKey < x.fKey)) ++ [x] ++ l.filter (fun y => decide (x.fKey < y.fKey))
def dropL (l : List Item) (k : BitVec 64) : List Item := l.filter fun y => decide (y.fKey ≠ k)
theorem putL_asc {l : List Item} (x : Item) (h : Asc l) : Asc (putL l x) := by
 unfold putL Asc
 refine List.pairwise_append.2 ⟨List.pairwise_append.2 ⟨h.filter _, List.pairwise_singleton _ _, fun a ha b hb => ?_⟩, h.filter _, fun a ha b hb => ?_⟩
 ·rw [List.mem_singleton] at hb; subst hb
  exact of_decide_eq_true (List.mem_filter.1 ha).2
 ·have h2 : x.fKey < b.fKey := of_decide_eq_true (List.mem_filter.1 hb).2
  rcases List.mem_append.1 ha with ha | ha
  ·have h1 : a.fKey < x.fKey := of_decide_eq_true (List.mem_filter.1 ha).2
   rw [bv_lt] at *; omega
  ·rw [List.mem_singleton] at ha; subst ha; exact h2
theorem putL_mem {l : List Item} {x y : Item} (h : y ∈ putL l x) : y = x ∨ y ∈ l := by
 unfold putL at h
 rcases List.mem_append.1 h with h | h
 ·rcases List.mem_append.1 h with h | h
  ·exact .inr (List.mem_filter.1 h).1
  ·exact .inl (List.mem_singleton.1 h)
 ·exact .inr (List.mem_filter.1 h).1
theorem two_filters {p r : Item -> Bool} (h : ∀ y, p y = true -> r y = false) : ∀ l : List Item, (l.filter p).length + (l.filter r).length <= l.length
 | [] => by simp
 | y :: l => by
  have ih := two_filters h l
  by_cases hp : p y = true
  ·rw [List.filter_cons_of_pos hp, List.filter_cons_of_neg (by rw [h y hp]; simp), List.length_cons, List.length_cons]; omega
  ·rw [List.filter_cons_of_neg hp]
   by_cases hr : r y = true
   ·rw [List.filter_cons_of_pos hr, List.length_cons, List.length_cons]; omega
   ·rw [List.filter_cons_of_neg hr, List.length_cons]; omega
theorem putL_len (l : List Item) (x : Item) : (putL l x).length <= l.length + 1 := by
 have := two_filters (p := fun y => decide (y.fKey < x.fKey)) (r := fun y => decide (x.fKey < y.fKey)) (fun y hy => decide_eq_false fun h => by have := of_decide_eq_true hy; rw [bv_lt] at *; omega) l
 unfold putL
 simp only [List.length_append, List.length_singleton]
 omega
theorem dropL_asc {l : List Item} (k : BitVec 64) (h : Asc l) : Asc (dropL l k) := h.filter _
theorem dropL_mem {l : List Item} {k : BitVec 64} {y : Item} (h : y ∈ dropL l k) : y ∈ l := (List.mem_filter.1 h).1
theorem dropL_len (l : List Item) (k : BitVec 64) : (dropL l k).length <= l.length := List.length_filter_le _ _
theorem drop_loop (k : BitVec 64) (l : List Item) (hl : l.length <= 100000) (d : Nat) : ∀ (i q : Nat) (acc : List Item), i + d = l.length -> d < q -> acc.length <= i -> m_r08_Drop_l1 k l q acc (i : Int) = some (acc ++ dropL (l.drop i) k) := by
 induction d with
 | zero =>
  intro i q acc hi hq hc
  obtain ⟨q, rfl⟩ : ∃ q', q = q' + 1 := ⟨q - 1, by omega⟩
  unfold m_r08_Drop_l1
  rw [if_neg (by omega), List.drop_of_length_le (by omega)]; simp [m_r08_Drop_j0, dropL]
 | succ d ih =>
  intro i q acc hi hq hc
  obtain ⟨q, rfl⟩ : ∃ q', q = q' + 1 := ⟨q - 1, by omega⟩
  have h1 : i < l.length := by omega
  unfold m_r08_Drop_l1
  rw [if_pos (by omega), idx_nat, List.getElem?_eq_getElem h1, obs, drop_one h1]
  unfold dropL
  by_cases hk : l[i].fKey = k
  ·rw [if_pos hk, ck_of (by omega), obs, List.filter_cons_of_neg (by simpa using hk)]
   exact ih (i + 1) q acc (by omega) (by omega) (by omega)
  ·rw [if_neg hk, obs, apdI (by simp; omega), obs, ck_of (by omega), obs, List.filter_cons_of_pos (by simpa using hk)]
   have := ih (i + 1) q (acc ++ [l[i]]) (by omega) (by omega) (by simp; omega)
   rw [List.append_assoc] at this
   exact this
theorem drop_ok {l : List Item} (k : BitVec 64) (ha : Asc l) (hl : l.length <= 100000) : m_r08_Drop l k = some (dropL l k) := by
 unfold m_r08_Drop
 rw [sorted_ok ha hl, obs]
 have := drop_loop k l hl l.length 0 forever [] (by omega) (by unfold forever; omega) (by simp)
 rw [List.drop_zero, List.nil_append] at this
 exact this
theorem put_done (x : Item) (l : List Item) (hl : l.length <= 100000) (d : Nat) : ∀ (i q : Nat) (acc : List Item), i + d = l.length -> d < q -> acc.length <= i + 1 -> m_r08_Put_l1 x.fKey x.fCookie x.fOff x.fSize l q acc true (i : Int) = some (acc ++ dropL (l.drop i) x.fKey) := by
 induction d with
 | zero =>
  intro i q acc hi hq hc
  obtain ⟨q, rfl⟩ : ∃ q', q = q' + 1 := ⟨q - 1, by omega⟩
  unfold m_r08_Put_l1
  rw [if_neg (by omega), List.drop_of_length_le (by omega)]; simp [m_r08_Put_j0, dropL]
 | succ d ih =>
  intro i q acc hi hq hc
  obtain ⟨q, rfl⟩ : ∃ q', q = q' + 1 := ⟨q - 1, by omega⟩
  have h1 : i < l.length := by omega
  unfold m_r08_Put_l1
  rw [if_pos (by omega), if_pos rfl, idx_nat, List.getElem?_eq_getElem h1, obs, drop_one h1]
  unfold dropL
  by_cases hk : l[i].fKey = x.fKey
  ·rw [if_pos hk, ck_of (by omega), obs, List.filter_cons_of_neg (by simpa using hk)]
   exact ih (i + 1) q acc (by omega) (by omega) (by omega)
  ·rw [if_neg hk, obs, apdI (by simp; omega), obs, ck_of (by omega), obs, List.filter_cons_of_pos (by simpa using hk)]
   have := ih (i + 1) q (acc ++ [l[i]]) (by omega) (by omega) (by simp; omega)
   rw [List.append_assoc] at this
   exact this
theorem filter_none {p : Item -> Bool} {l : List Item} (h : ∀ y ∈ l, p y = false) : l.filter p = [] := List.filter_eq_nil_iff.2 fun y hy => by rw [h y hy]; simp
theorem putL_here {y x : Item} {s : List Item} (ha : Asc (y :: s)) (hk : x.fKey <= y.fKey) : putL (y :: s) x = [x] ++ dropL (y :: s) x.fKey := by
 obtain ⟨h1, h2⟩ := List.pairwise_cons.1 ha
 have hlt : ∀ z ∈ s, x.fKey < z.fKey := fun z hz => by have := h1 z hz; rw [bv_lt] at *; rw [bv_le] at hk; omega
 unfold putL dropL
 rw [filter_none (p := fun y => decide (y.fKey < x.fKey)) (fun z hz => ?_), List.nil_append]
 ·congr 1
  refine List.filter_congr fun z hz => ?_
  rcases List.mem_cons.1 hz with rfl | hz
  ·by_cases e : z.fKey = x.fKey
   ·have : ¬ x.fKey < z.fKey := by rw [bv_lt]; rw [bv_ne] at e; omega
    simp [e, this]
   ·have : x.fKey < z.fKey := by rw [bv_lt]; rw [bv_ne] at e; rw [bv_le] at hk; omega
    simp [e, this]
  ·have h3 := hlt z hz
   have h4 : z.fKey ≠ x.fKey := fun e => by rw [bv_lt] at h3; rw [bv_ne] at e; omega
   simp [h3, h4]
 ·refine decide_eq_false fun h => ?_
  rcases List.mem_cons.1 hz with rfl | hz
  ·rw [bv_lt] at h; rw [bv_le] at hk; omega
  ·have := hlt z hz; rw [bv_lt] at *; omega
theorem putL_later {y x : Item} {s : List Item} (hk : ¬ x.fKey <= y.fKey) : putL (y :: s) x = y :: putL s x := by
 have h1 : y.fKey < x.fKey := by rw [bv_lt]; rw [bv_le] at hk; omega
 have h2 : ¬ x.fKey < y.fKey := by rw [bv_lt] at *; omega
 unfold putL
 rw [List.filter_cons_of_pos (by simpa using h1), List.filter_cons_of_neg (by simpa using h2)]; rfl
theorem put_loop (x : Item) (l : List Item) (ha : Asc l) (hl : l.length <= 100000) (d : Nat) : ∀ (i q : Nat) (acc : List Item), i + d = l.length -> d < q -> acc.length <= i -> m_r08_Put_l1 x.fKey x.fCookie x.fOff x.fSize l q acc false (i : Int) = some (acc ++ putL (l.drop i) x) := by
 induction d with
 | zero =>
  intro i q acc hi hq hc
  obtain ⟨q, rfl⟩ : ∃ q', q = q' + 1 := ⟨q - 1, by omega⟩
  unfold m_r08_Put_l1
  rw [if_neg (by omega), List.drop_of_length_le (by omega), m_r08_Put_j0, if_neg (by simp), apdI (by simp; omega), obs]; rfl
 | succ d ih =>
  intro i q acc hi hq hc
  obtain ⟨q, rfl⟩ : ∃ q', q = q' + 1 := ⟨q - 1, by omega⟩
  have h1 : i < l.length := by omega
  unfold m_r08_Put_l1
  rw [if_pos (by omega), if_neg (by simp), idx_nat, List.getElem?_eq_getElem h1, obs, drop_one h1]
  by_cases hk : x.fKey <= l[i].fKey
  ·have hd : Asc (l[i] :: l.drop (i + 1)) := by rw [<- drop_one h1]; exact ha.sublist (List.drop_sublist _ _)
   rw [if_pos hk, show (⟨x.fKey, x.fCookie, x.fOff, x.fSize⟩ : Item) = x from rfl, apdI (by simp; omega), obs, obs, putL_here hd hk]
   unfold dropL
   by_cases he : l[i].fKey = x.fKey
   ·rw [if_pos he, ck_of (by omega), obs, List.filter_cons_of_neg (by simpa using he)]
    have := put_done x l hl d (i + 1) q (acc ++ [x]) (by omega) (by omega) (by simp; omega)
    rw [List.append_assoc] at this
    exact this
   ·rw [if_neg he, obs, apdI (by simp; omega), obs, ck_of (by omega), obs, List.filter_cons_of_pos (by simpa using he)]
    have := put_done x l hl d (i + 1) q (acc ++ [x] ++ [l[i]]) (by omega) (by omega) (by simp; omega)
    exact this.trans (by simp [dropL])
  ·have hne : ¬ l[i].fKey = x.fKey := fun e => hk (by rw [e]; rw [bv_le]; omega)
   rw [if_neg hk, obs, if_neg hne, obs, apdI (by simp; omega), obs, ck_of (by omega), obs, putL_later hk]
   have := ih (i + 1) q (acc ++ [l[i]]) (by omega) (by omega) (by simp; omega)
   rw [List.append_assoc] at this
   exact this
theorem put_ok {l : List Item} (x : Item) (ha : Asc l) (hl : l.length <= 100000) : m_r08_Put l x.fKey x.fCookie x.fOff x.fSize = some (putL l x) := by
 unfold m_r08_Put
 rw [sorted_ok ha hl, obs]
 have := put_loop x l ha hl l.length 0 forever [] (by omega) (by unfold forever; omega) (by simp)
 rw [List.drop_zero, List.nil_append] at this
 exact this
abbrev Rec := Sneedlestoreref09_Record
def itemOf (r : Rec) : Item := ⟨r.fNeedle.fKey, r.fNeedle.fCookie, r.fOff, (r.fNeedle.fData.length : Int)⟩
def step1 (l : List Item) (r : Rec) : List Item := if r.fNeedle.fDeleted = true then dropL l r.fNeedle.fKey else putL l (itemOf r)
def itemsL (rs : List Rec) : List Item := rs.foldl step1 []
theorem step1_asc {l : List Item} (r : Rec) (h : Asc l) : Asc (step1 l r) := by
 unfold step1; split
 ·exact dropL_asc _ h
 ·exact putL_asc _ h
theorem step1_len (l : List Item) (r : Rec) : (step1 l r).length <= l.length + 1 := by
 unfold step1; split
 ·have := dropL_len l r.fNeedle.fKey; omega
 ·exact putL_len _ _
theorem step1_mem {l : List Item} {r : Rec} {y : Item} (h : y ∈ step1 l r) : (r.fNeedle.fDeleted = false /\ y = itemOf r) ∨ y ∈ l := by
 unfold step1 at h
 split at h
 ·exact .inr (dropL_mem h)
 ·rename_i hd
  rcases putL_mem h with e | e
  ·exact .inl ⟨by simpa using hd, e⟩
  ·exact .inr e
theorem fold_asc : ∀ (rs : List Rec) (l : List Item), Asc l -> Asc (rs.foldl step1 l)
 | [], _, h => h
 | r :: rs, l, h => fold_asc rs _ (step1_asc r h)
theorem fold_len : ∀ (rs : List Rec) (l : List Item), (rs.foldl step1 l).length <= l.length + rs.length
 | [], l => by simp
 | r :: rs, l => by
  have := fold_len rs (step1 l r); have := step1_len l r
  rw [List.foldl_cons, List.length_cons]; omega
theorem fold_mem : ∀ (rs : List Rec) (l : List Item) {y : Item}, y ∈ rs.foldl step1 l -> (∃ r ∈ rs, r.fNeedle.fDeleted = false /\ y = itemOf r) ∨ y ∈ l
 | [], l, y, h => .inr h
 | r :: rs, l, y, h => by
  rcases fold_mem rs (step1 l r) h with ⟨r', hr, hh⟩ | h
  ·exact .inl ⟨r', List.mem_cons_of_mem _ hr, hh⟩
  ·rcases step1_mem h with hh | hh
   ·exact .inl ⟨r, List.mem_cons_self .., hh⟩
   ·exact .inr hh
theorem items_asc (rs : List Rec) : Asc (itemsL rs) := fold_asc rs [] List.Pairwise.nil
theorem items_len (rs : List Rec) : (itemsL rs).length <= rs.length := by have := fold_len rs []; simpa [itemsL] using this
theorem items_mem {rs : List Rec} {y : Item} (h : y ∈ itemsL rs) : ∃ r ∈ rs, r.fNeedle.fDeleted = false /\ y = itemOf r := by
 rcases fold_mem rs [] h with hh | hh
 ·exact hh
 ·cases hh
theorem items_loop (rs : List Rec) (hl : rs.length <= 50000) (d : Nat) : ∀ (i q : Nat) (acc : List Item), i + d = rs.length -> d < q -> Asc acc -> acc.length <= i -> m_r09_Items_l1 rs q acc (i : Int) = some ((rs.drop i).foldl step1 acc) := by
 induction d with
 | zero =>
  intro i q acc hi hq ha hc
  obtain ⟨q, rfl⟩ : ∃ q', q = q' + 1 := ⟨q - 1, by omega⟩
  unfold m_r09_Items_l1
  rw [if_neg (by omega), List.drop_of_length_le (by omega)]; rfl
 | succ d ih =>
  intro i q acc hi hq ha hc
  obtain ⟨q, rfl⟩ : ∃ q', q = q' + 1 := ⟨q - 1, by omega⟩
  have h1 : i < rs.length := by omega
  have hstep := step1_len acc rs[i]
  unfold m_r09_Items_l1
  rw [if_pos (by omega), idx_nat, List.getElem?_eq_getElem h1, obs, List.drop_eq_getElem_cons h1, List.foldl_cons]
  by_cases hd : rs[i].fNeedle.fDeleted = true
  ·have e : step1 acc rs[i] = dropL acc rs[i].fNeedle.fKey := if_pos hd
   rw [if_pos hd, drop_ok _ ha (by omega), obs, ck_of (by omega), obs, e]
   exact ih (i + 1) q _ (by omega) (by omega) (dropL_asc _ ha) (by rw [<- e]; omega)
  ·have e : step1 acc rs[i] = putL acc (itemOf rs[i]) := if_neg hd
   have hp := put_ok (itemOf rs[i]) ha (show acc.length <= 100000 by omega)
   rw [if_neg hd, obs]
   refine (congrArg (fun o => Option.bind o _) hp).trans ?_
   rw [obs, ck_of (by omega), obs, e]
   exact ih (i + 1) q _ (by omega) (by omega) (putL_asc _ ha) (by rw [<- e]; omega)
theorem items_ok (rs : List Rec) (hl : rs.length <= 50000) : m_r09_Items rs = some (itemsL rs) := by
 unfold m_r09_Items
 have := items_loop rs hl rs.length 0 forever [] (by omega) (by unfold forever; omega) List.Pairwise.nil (by simp)
 rw [List.drop_zero] at this
 exact this
def hd7 : List (BitVec 8) := [78#8, 86#8, 79#8, 76#8, 0#8, 1#8, 0#8, 2#8, 0#8, 0#8, 0#8, 3#8]
def sb7 (c : BitVec 32) : List (BitVec 8) := hd7 ++ le4 c
theorem sb7_len (c : BitVec 32) : (sb7 c).length = 16 := rfl
theorem r07_enc {c : BitVec 32} (hc : crcSum hd7 = c) : m_r07_Encode 1 2 3 = some (sb7 c, 0) := by
 unfold m_r07_Encode
 rw [r07_Valid_eq, obs, if_pos (show sval 1 2 3 = true by decide)]
 rw [show m_r06_Number (BitVec.ofInt 64 1) (2 : Int) = some (be 2 (BitVec.ofInt 64 1)) from r06_Number_eq _ 2 (by omega), obs,
  show apg 1 ([78#8, 86#8, 79#8, 76#8] : List (BitVec 8)) (be 2 (BitVec.ofInt 64 1)) = some [78#8, 86#8, 79#8, 76#8, 0#8, 1#8] by decide, obs,
  show m_r06_Number (BitVec.ofInt 64 2) (2 : Int) = some (be 2 (BitVec.ofInt 64 2)) from r06_Number_eq _ 2 (by omega), obs,
  show apd 1 ([78#8, 86#8, 79#8, 76#8, 0#8, 1#8] : List (BitVec 8)) (be 2 (BitVec.ofInt 64 2)) = some [78#8, 86#8, 79#8, 76#8, 0#8, 1#8, 0#8, 2#8] by decide, obs,
  show m_r06_Number (BitVec.ofInt 64 3) (4 : Int) = some (be 4 (BitVec.ofInt 64 3)) from r06_Number_eq _ 4 (by omega), obs,
  show apd 1 ([78#8, 86#8, 79#8, 76#8, 0#8, 1#8, 0#8, 2#8] : List (BitVec 8)) (be 4 (BitVec.ofInt 64 3)) = some hd7 by decide, obs,
  r06_Check_eq _ (by decide), obs, hc]
 rw [apd_of (by rw [show (le4 c).length = 4 from rfl]; decide), obs]; rfl
theorem slc_lit {α : Type} (xs : List α) (lo hi : Nat) (h : lo <= hi /\ hi <= xs.length) : slc xs (lo : Int) (hi : Int) = some ((xs.drop lo).take (hi - lo)) := slc_nat xs lo hi h
theorem r07_dec {c : BitVec 32} (hc : crcSum hd7 = c) (rest : List (BitVec 8)) : m_r07_Decode (sb7 c ++ rest) = some (1, 2, 3, 0) := by
 have hl : (sb7 c ++ rest).length = 16 + rest.length := by rw [List.length_append, sb7_len]
 have e04 : slc (sb7 c ++ rest) 0 (4 : Int) = some [78#8, 86#8, 79#8, 76#8] := (slc_lit _ 0 4 (by omega)).trans rfl
 have e012 : slc (sb7 c ++ rest) 0 (12 : Int) = some hd7 := (slc_lit _ 0 12 (by omega)).trans rfl
 have e1216 : slc (sb7 c ++ rest) (12 : Int) (16 : Int) = some (le4 c) := (slc_lit _ 12 16 (by omega)).trans rfl
 have e46 : slc (sb7 c ++ rest) (4 : Int) (6 : Int) = some [0#8, 1#8] := (slc_lit _ 4 6 (by omega)).trans rfl
 have e68 : slc (sb7 c ++ rest) (6 : Int) (8 : Int) = some [0#8, 2#8] := (slc_lit _ 6 8 (by omega)).trans rfl
 have e812 : slc (sb7 c ++ rest) (8 : Int) (12 : Int) = some [0#8, 0#8, 0#8, 3#8] := (slc_lit _ 8 12 (by omega)).trans rfl
 unfold m_r07_Decode
 rw [if_neg (by omega), e04, obs, if_pos rfl, e012, obs, r06_Check_eq _ (by decide), obs, hc, e1216, obs, if_pos rfl,
  e46, obs, r06_Value_eq _ (by decide), obs, e68, obs, r06_Value_eq _ (by decide), obs, e812, obs, r06_Value_eq _ (by decide), obs,
  r07_Valid_eq, obs, if_pos (by decide)]
 rfl
abbrev Nd := Sapi_Needle
def okN (x : Nd) : Prop := nvalid x.fDeleted x.fData = true /\ x.fData.length <= 200
def encN (x : Nd) : List (BitVec 8) := nenc x.fKey x.fCookie x.fDeleted x.fData
def sizeN (x : Nd) : Nat := nsize x.fData.length
theorem encN_len (x : Nd) : (encN x).length = sizeN x := nenc_length _ _ _ _
theorem sizeN_bd {x : Nd} (h : okN x) : 24 <= sizeN x /\ sizeN x <= 231 /\ sizeN x % 8 = 0 := by
 have := nsize_lo x.fData.length; have := h.2; unfold sizeN; omega
theorem encR_ok {x : Nd} (h : okN x) : m_r06_Encode x.fKey x.fCookie x.fDeleted x.fData = some (encN x, 0) := by rw [r06_Encode_eq, nencR_val h.1]; rfl
theorem decR_ok {x : Nd} (h : okN x) (tail : List (BitVec 8)) (ht : tail.length <= 1000000) : m_r06_Decode (encN x ++ tail) = some (x.fKey, x.fCookie, x.fDeleted, x.fData, ((sizeN x : Nat) : Int), 0) := by
 have := sizeN_bd h
 rw [r06_Decode_eq _ (by rw [List.length_append, encN_len]; omega)]
 unfold encN; rw [ndec_enc _ _ _ _ _ h.1]; rfl
def encs (ns : List Nd) : List (BitVec 8) := ns.flatMap encN
theorem encs_cons (x : Nd) (ns : List Nd) : encs (x :: ns) = encN x ++ encs ns := rfl
theorem encs_snoc (ns : List Nd) (x : Nd) : encs (ns ++ [x]) = encs ns ++ encN x := by simp [encs]
theorem encs_len : ∀ (ns : List Nd), (∀ x ∈ ns, okN x) -> (encs ns).length <= 231 * ns.length
 | [], _ => Nat.le_refl _
 | x :: ns, h => by
  have := encs_len ns fun y hy => h y (List.mem_cons_of_mem _ hy)
  have := sizeN_bd (h x (List.mem_cons_self ..))
  rw [encs_cons, List.length_append, encN_len, List.length_cons]; omega
def recsOf : Nat -> List Nd -> List Rec
 | _, [] => []
 | off, x :: ns => ⟨(off : Int), x⟩ :: recsOf (off + sizeN x) ns
theorem recsOf_len : ∀ (ns : List Nd) (off : Nat), (recsOf off ns).length = ns.length
 | [], _ => rfl
 | _ :: ns, off => by rw [recsOf, List.length_cons, recsOf_len ns, List.length_cons]
theorem recsOf_mem : ∀ (ns : List Nd) (off : Nat), (∀ x ∈ ns, okN x) -> ∀ r ∈ recsOf off ns, okN r.fNeedle /\ ∃ a : Nat, ∃ tail : List (BitVec 8), r.fOff = ((off + a : Nat) : Int) /\ a % 8 = 0 /\ a + sizeN r.fNeedle <= (encs ns).length /\ (encs ns).drop a = encN r.fNeedle ++ tail
 | [], _, _, r, h => by cases h
 | x :: ns, off, ho, r, h => by
  have hx := ho x (List.mem_cons_self ..)
  have hb := sizeN_bd hx
  rw [recsOf] at h
  rcases List.mem_cons.1 h with rfl | h
  ·refine ⟨hx, 0, encs ns, rfl, rfl, ?_, rfl⟩
   rw [encs_cons, List.length_append, encN_len]; simp only; omega
  ·obtain ⟨h1, a, tail, h2, h3, h4, h5⟩ := recsOf_mem ns (off + sizeN x) (fun y hy => ho y (List.mem_cons_of_mem _ hy)) r h
   refine ⟨h1, sizeN x + a, tail, by rw [h2, Nat.add_assoc], by omega, ?_, ?_⟩
   ·rw [encs_cons, List.length_append, encN_len]; omega
   ·rw [encs_cons, <- List.drop_drop, drop_app (encN_len x)]; exact h5
theorem records_loop (b : List (BitVec 8)) (hb : b.length <= 100000) : ∀ (ns : List Nd) (off q : Nat) (acc : List Rec), (∀ x ∈ ns, okN x) -> b.drop off = encs ns -> off <= b.length -> ns.length < q -> acc.length + ns.length <= 1000 ->
  m_r09_Records_l1 b q (off : Int) acc = some (acc ++ recsOf off ns, (b.length : Int))
 | [], off, q, acc, ho, hd, hle, hq, ha => by
  obtain ⟨q, rfl⟩ : ∃ q', q = q' + 1 := ⟨q - 1, by omega⟩
  have e : off = b.length := by
   have := congrArg List.length hd
   rw [List.length_drop] at this
   have h0 : (encs []).length = 0 := rfl
   omega
  have e2 : slc b (off : Int) (b.length : Int) = some [] := by rw [slc_nat _ _ _ ⟨by omega, by omega⟩, hd, List.take_of_length_le (by rw [show (encs []).length = 0 from rfl]; omega)]; rfl
  unfold m_r09_Records_l1
  rw [if_pos (by omega), e2, obs, r06_Decode_eq _ (by simp), obs, if_neg (by decide)]
  unfold m_r09_Records_j0
  rw [recsOf, List.append_nil, e]
 | x :: ns, off, q, acc, ho, hd, hle, hq, ha => by
  obtain ⟨q, rfl⟩ : ∃ q', q = q' + 1 := ⟨q - 1, by omega⟩
  rw [List.length_cons] at hq ha
  have hx := ho x (List.mem_cons_self ..)
  have hbd := sizeN_bd hx
  have hlen := congrArg List.length hd
  rw [List.length_drop, encs_cons, List.length_append, encN_len] at hlen
  have e2 : slc b (off : Int) (b.length : Int) = some (encN x ++ encs ns) := by rw [slc_nat _ _ _ ⟨by omega, by omega⟩, hd, List.take_of_length_le (by rw [encs_cons, List.length_append, encN_len]; omega)]; rfl
  unfold m_r09_Records_l1
  rw [if_pos (by omega), e2, obs, decR_ok hx _ (by omega), obs, if_pos rfl]
  show Option.bind (apd 48 acc [(⟨(off : Int), x⟩ : Rec)]) _ = _
  rw [apd1 (by omega) (by omega), obs]
  show Option.bind (ck ((off : Int) + ((sizeN x : Nat) : Int))) _ = _
  rw [ck_of (by omega), obs, show ((off : Int) + ((sizeN x : Nat) : Int)) = ((off + sizeN x : Nat) : Int) by omega]
  have hd' : b.drop (off + sizeN x) = encs ns := by
   rw [<- List.drop_drop, hd, encs_cons, drop_app (encN_len x)]
  have := records_loop b hb ns (off + sizeN x) q (acc ++ [⟨(off : Int), x⟩]) (fun y hy => ho y (List.mem_cons_of_mem _ hy)) hd' (by omega) (by omega) (by rw [List.length_append, List.length_singleton]; omega)
  rw [List.append_assoc] at this
  exact this
def datOf (c : BitVec 32) (ns : List Nd) : List (BitVec 8) := sb7 c ++ encs ns
structure Gen (c : BitVec 32) (ns : List Nd) : Prop where
 crc : crcSum hd7 = c
 ok : ∀ x ∈ ns, okN x
 few : ns.length <= 15
section
variable {c : BitVec 32} {ns : List Nd}
theorem datOf_len (c : BitVec 32) (ns : List Nd) : (datOf c ns).length = 16 + (encs ns).length := by unfold datOf; rw [List.length_append, sb7_len]
theorem Gen.len (h : Gen c ns) : 16 <= (datOf c ns).length /\ (datOf c ns).length <= 3600 := by
 have := encs_len ns h.ok; have := h.few; rw [datOf_len]; omega
theorem Gen.wid (h : Gen c ns) : ssz (datOf c ns).length <= 1000 := by have := h.len; unfold ssz; omega
theorem datOf_drop (c : BitVec 32) (ns : List Nd) (a : Nat) : (datOf c ns).drop (16 + a) = (encs ns).drop a := by
 unfold datOf
 rw [<- List.drop_drop, drop_app (sb7_len c)]
theorem Gen.opens (h : Gen c ns) : m_r09_Open (datOf c ns) = some (1, 2, 3, recsOf 16 ns, ((datOf c ns).length : Int), 0) := by
 unfold m_r09_Open
 rw [show datOf c ns = sb7 c ++ encs ns from rfl, r07_dec h.crc, obs, if_pos rfl]
 have := records_loop (datOf c ns) (by have := h.len; omega) ns 16 forever [] h.ok (by have := datOf_drop c ns 0; rw [List.drop_zero] at this; exact this) (by have := h.len; omega) (by have := h.few; unfold forever; omega) (by have := h.few; simp; omega)
 rw [List.nil_append] at this
 unfold m_r09_Records
 rw [show (16 : Int) = ((16 : Nat) : Int) from rfl]
 refine (congrArg (fun o => Option.bind o _) this).trans ?_
 rfl
theorem Gen.at (h : Gen c ns) {r : Rec} (hr : r ∈ recsOf 16 ns) : okN r.fNeedle /\ ∃ off : Nat, ∃ tail : List (BitVec 8), r.fOff = (off : Int) /\ 16 <= off /\ off % 8 = 0 /\ off + sizeN r.fNeedle <= (datOf c ns).length /\ (datOf c ns).drop off = encN r.fNeedle ++ tail := by
 obtain ⟨h1, a, tail, h2, h3, h4, h5⟩ := recsOf_mem ns 16 h.ok r hr
 exact ⟨h1, 16 + a, tail, h2, by omega, by omega, by rw [datOf_len]; omega, (datOf_drop c ns a).trans h5⟩
def itemsOf (ns : List Nd) : List Item := itemsL (recsOf 16 ns)
theorem Gen.itemsLen (h : Gen c ns) : (itemsOf ns).length <= 15 := by
 have := items_len (recsOf 16 ns); rw [recsOf_len] at this; have := h.few; unfold itemsOf; omega
theorem Gen.items (h : Gen c ns) : m_r09_Items (recsOf 16 ns) = some (itemsOf ns) := items_ok _ (by rw [recsOf_len]; have := h.few; omega)
theorem Gen.vitem (h : Gen c ns) {y : Item} (hy : y ∈ itemsOf ns) : vItem y /\ fits ((datOf c ns).length : Int) y := by
 obtain ⟨r, hr, _, rfl⟩ := items_mem hy
 obtain ⟨h1, off, tail, h2, h3, h4, h5, _⟩ := h.at hr
 have := h.len; have := h1.2
 have e : sizeZ ((r.fNeedle.fData.length : Nat) : Int) = ((sizeN r.fNeedle : Nat) : Int) := sizeZ_nat _ (by omega)
 constructor
 ·unfold vItem itemOf; simp only; rw [h2]; omega
 ·unfold fits itemOf; simp only; rw [e, h2]; omega
theorem Gen.valid (h : Gen c ns) : hvalB 1 2 3 ((datOf c ns).length : Int) (itemsOf ns) = true := by
 unfold hvalB
 have := h.len
 rw [show sval 1 2 3 = true by decide, decide_eq_true (show 16 <= ((datOf c ns).length : Int) /\ ((datOf c ns).length : Int) <= 524288 by omega), ivalB_of (fun x hx => (h.vitem hx).1) (items_asc _), Bool.true_and, Bool.true_and, Bool.true_and]
 exact List.all_eq_true.2 fun x hx => decide_eq_true (h.vitem hx).2
def shardsOf (C : Mx) (b : List (BitVec 8)) : List Bytes := tb 6 fun i => tb (ssz b.length) (mm 4 C (sD b) i)
theorem shardsOf_len (C : Mx) (b : List (BitVec 8)) : (shardsOf C b).length = 6 := tb_len _ _
theorem shard_len (C : Mx) (b : List (BitVec 8)) {j : Nat} (hj : j < 6) : ((shardsOf C b).getD j []).length = ssz b.length := by unfold shardsOf; rw [getD_tb hj, tb_len]
theorem sum_at (C : Mx) (b : List (BitVec 8)) (hb : b.length <= 100000) {j : Nat} (hj : j < 6) : Option.bind (idx (shardsOf C b) (j : Int)) (fun x => m_r01_Sum x) = some (crcSum ((shardsOf C b).getD j [])) := by
 unfold shardsOf
 rw [idx_tb hj, obs, getD_tb hj, r01_Sum_eq _ (by rw [tb_len]; unfold ssz; omega)]
theorem make_step (C : Mx) (b : List (BitVec 8)) (hb : b.length <= 100000) (dat : List (BitVec 8)) (z1 z2 z3 : Int) (l : List Item) (q j : Nat) (hj : j < 6) (a0 a1 a2 a3 a4 a5 : BitVec 32) :
  m_r17_Make_l2 dat z1 z2 z3 l (shardsOf C b) (q + 1) a0 a1 a2 a3 a4 a5 (j : Int) =
   let y := [a0, a1, a2, a3, a4, a5].set j (crcSum ((shardsOf C b).getD j []))
   m_r17_Make_l2 dat z1 z2 z3 l (shardsOf C b) q (y.getD 0 0#32) (y.getD 1 0#32) (y.getD 2 0#32) (y.getD 3 0#32) (y.getD 4 0#32) (y.getD 5 0#32) ((j + 1 : Nat) : Int) := by
 have key : ∀ (k : BitVec 32 -> Option (List Bytes × Int × Int × Int × Int × BitVec 32 × BitVec 32 × BitVec 32 × BitVec 32 × BitVec 32 × BitVec 32 × List Item × Int)), Option.bind (idx (shardsOf C b) (j : Int)) (fun x92 => Option.bind (m_r01_Sum x92) k) = k (crcSum ((shardsOf C b).getD j [])) := by
  intro k
  have := sum_at C b hb hj
  unfold shardsOf at this ⊢
  rw [idx_tb hj, obs] at this
  rw [idx_tb hj, obs, this, obs]
 conv => lhs; unfold m_r17_Make_l2
 rw [if_pos (by omega)]
 refine (key _).trans ?_
 have h6 : j < [a0, a1, a2, a3, a4, a5].length := hj
 rw [idx_nat, List.getElem?_eq_getElem h6, obs, upd_of ⟨by omega, by simpa using h6⟩, obs, ck_of (by omega), obs]
 rfl
theorem make_loop (C : Mx) (b : List (BitVec 8)) (hb : b.length <= 100000) (dat : List (BitVec 8)) (z1 z2 z3 : Int) (l : List Item) (q : Nat) :
  m_r17_Make_l2 dat z1 z2 z3 l (shardsOf C b) (q + 1 + 1 + 1 + 1 + 1 + 1 + 1) 0#32 0#32 0#32 0#32 0#32 0#32 0 = some (shardsOf C b, z1, z2, z3, (dat.length : Int), crcSum ((shardsOf C b).getD 0 []), crcSum ((shardsOf C b).getD 1 []), crcSum ((shardsOf C b).getD 2 []), crcSum ((shardsOf C b).getD 3 []), crcSum ((shardsOf C b).getD 4 []), crcSum ((shardsOf C b).getD 5 []), l, 0) := by
 have st := make_step C b hb dat z1 z2 z3 l
 refine (st _ 0 (by omega) _ _ _ _ _ _).trans ?_
 refine (st _ 1 (by omega) _ _ _ _ _ _).trans ?_
 refine (st _ 2 (by omega) _ _ _ _ _ _).trans ?_
 refine (st _ 3 (by omega) _ _ _ _ _ _).trans ?_
 refine (st _ 4 (by omega) _ _ _ _ _ _).trans ?_
 refine (st _ 5 (by omega) _ _ _ _ _ _).trans ?_
 show m_r17_Make_l2 dat z1 z2 z3 l (shardsOf C b) (q + 1) _ _ _ _ _ _ (6 : Int) = _
 unfold m_r17_Make_l2
 rw [if_neg (by omega)]; rfl
theorem r17_make {C : Mx} (hC : IsCode C) (b : List (BitVec 8)) (hb : b.length <= 3600) (z1 z2 z3 : Int) (l : List Item) (hl : l.length <= 100000) (hv : hvalB z1 z2 z3 (b.length : Int) l = true) :
  m_r17_Make b z1 z2 z3 l = some (shardsOf C b, z1, z2, z3, (b.length : Int), crcSum ((shardsOf C b).getD 0 []), crcSum ((shardsOf C b).getD 1 []), crcSum ((shardsOf C b).getD 2 []), crcSum ((shardsOf C b).getD 3 []), crcSum ((shardsOf C b).getD 4 []), crcSum ((shardsOf C b).getD 5 []), l, 0) := by
 have hw : ssz b.length <= 1000 := by unfold ssz; omega
 unfold m_r17_Make m_r17_Make_j0
 rw [apdI (by simp; omega), obs, List.nil_append, r17_Valid_eq _ _ _ _ _ _ _ _ _ _ _ (by omega), obs, if_pos hv, split_ok b (by omega), obs, rencode_ok hC hw, obs]
 show Option.bind (apd 24 (tb 4 fun j => tb (ssz b.length) (sD b j)) (tb 2 fun i => tb (ssz b.length) (mm 4 C (sD b) (i + 4)))) _ = _
 rw [six_ok hC, obs]
 exact make_loop C b (by omega) b z1 z2 z3 l 18446744073709551609
end
end Go.Proofs.YthjnhlmfcejhkaaGreat
