/- A part of the proof. Conditions: as each theorem says. -/
import Derived.Test.YtcncappgheopgaaGreatVa
import Derived.Test.YtcncappgheopgaaGreatSa
namespace Go.Proofs.YtcncappgheopgaaGreat
set_option linter.unusedVariables false
set_option linter.unusedSimpArgs false
abbrev Item := Sapi_Item
def sval (a b c : Int) : Bool := decide (0 <= a /\ a < 4 /\ 1 <= b /\ b <= 8 /\ 0 <= c /\ c <= 4294967295)
theorem superblock_Valid_eq (a b c : Int) : m_superblock_Valid a b c = some (sval a b c) := by
 unfold m_superblock_Valid sval
 repeat' split
 all_goals first | (congr 1; exact decide_eq_decide.2 ⟨fun _ => by omega, fun _ => by omega⟩) | (congr 1; exact (decide_eq_false (by omega)).symm)
theorem r07_Valid_eq (a b c : Int) : m_r07_Valid a b c = some (sval a b c) := by
 unfold m_r07_Valid sval
 repeat' split
 all_goals first | (congr 1; exact decide_eq_decide.2 ⟨fun _ => by omega, fun _ => by omega⟩) | (congr 1; exact (decide_eq_false (by omega)).symm)
def vItem (x : Item) : Prop := 16 <= x.fOff /\ x.fOff <= 1048576 /\ x.fOff % 8 = 0 /\ 0 <= x.fSize /\ x.fSize <= 4096
instance (x : Item) : Decidable (vItem x) := inferInstanceAs (Decidable (_ /\ _))
theorem index_valid_eq (x : Item) : m_index_valid x.fKey x.fCookie x.fOff x.fSize = some (decide (vItem x)) := by
 unfold m_index_valid vItem
 by_cases h1 : (16 : Int) <= x.fOff
 ·rw [if_pos h1]
  by_cases h2 : x.fOff <= (1048576 : Int)
  ·rw [if_pos h2, rmi_of (by omega) (by omega), obs]
   by_cases h3 : x.fOff % 8 = 0
   ·rw [if_pos h3]
    by_cases h4 : (0 : Int) <= x.fSize
    ·rw [if_pos h4]; refine congrArg some ?_; simp [h1, h2, h3, h4]
    ·rw [if_neg h4]; refine congrArg some ?_; simp [h4]
   ·rw [if_neg h3]; refine congrArg some ?_; simp [h3]
  ·rw [if_neg h2]; refine congrArg some ?_; simp [h2]
 ·rw [if_neg h1]; refine congrArg some ?_; simp [h1]
theorem r08_ValidItem_eq (x : Item) : m_r08_ValidItem x.fKey x.fCookie x.fOff x.fSize = some (decide (vItem x)) := index_valid_eq x
def gtB : Option (BitVec 64) -> Item -> Bool
 | none, _ => true
 | some k, x => decide (k < x.fKey)
def ascB : Option (BitVec 64) -> List Item -> Bool
 | _, [] => true
 | p, x :: l => gtB p x && ascB (some x.fKey) l
theorem ascB_cons (p : Option (BitVec 64)) (x : Item) (l : List Item) : ascB p (x :: l) = (gtB p x && ascB (some x.fKey) l) := rfl
def ivalB (l : List Item) : Bool := ascB none l && l.all fun x => decide (vItem x)
def prev (l : List Item) (i : Nat) : Option (BitVec 64) := if i = 0 then none else (l[i - 1]?).map (·.fKey)
theorem drop_one {α : Type} {l : List α} {i : Nat} (h : i < l.length) : l.drop i = l[i] :: l.drop (i + 1) := List.drop_eq_getElem_cons h
theorem prev_succ {l : List Item} {i : Nat} (h : i < l.length) : prev l (i + 1) = some l[i].fKey := by
 unfold prev; rw [if_neg (by omega), Nat.add_sub_cancel, List.getElem?_eq_getElem h]; rfl
theorem ascending_loop (l : List Item) (hl : l.length <= 9223372036854775806) (d : Nat) : ∀ (i q : Nat), i + d = l.length -> d < q -> m_index_ascending_l1 l q (i : Int) = some (ascB (prev l i) (l.drop i)) := by
 induction d with
 | zero =>
  intro i q hi hq
  obtain ⟨q, rfl⟩ := sucq hq
  unfold m_index_ascending_l1
  rw [if_neg (by omega), List.drop_of_length_le (by omega)]; rfl
 | succ d ih =>
  intro i q hi hq
  obtain ⟨q, rfl⟩ := sucq hq
  have h1 : i < l.length := by omega
  have e1 : ck ((i : Int) + 1) = some ((i + 1 : Nat) : Int) := by rw [ck_of (by omega)]; rfl
  unfold m_index_ascending_l1
  rw [if_pos (by omega), idx_nat, List.getElem?_eq_getElem h1, obs, drop_one h1, ascB_cons, <- prev_succ h1]
  by_cases h0 : i = 0
  ·subst h0
   rw [if_neg (by omega), e1, obs, ih (0 + 1) q (by omega) (by omega)]; rfl
  ·have e2 : ck ((i : Int) - 1) = some ((i - 1 : Nat) : Int) := by rw [ck_of (by omega)]; refine congrArg some ?_; omega
   have hp : prev l i = some l[i - 1].fKey := by unfold prev; rw [if_neg h0, List.getElem?_eq_getElem (by omega)]; rfl
   rw [if_pos (by omega), e2, obs, idx_nat, List.getElem?_eq_getElem (show i - 1 < l.length by omega), obs, hp]
   by_cases hk : l[i].fKey <= l[i - 1].fKey
   ·rw [if_pos hk]; refine congrArg some ?_; symm
    have : ¬ l[i - 1].fKey < l[i].fKey := by rw [BitVec.lt_def]; rw [BitVec.le_def] at hk; omega
    simp [gtB, this]
   ·rw [if_neg hk, e1, obs, ih (i + 1) q (by omega) (by omega)]; refine congrArg some ?_
    have : l[i - 1].fKey < l[i].fKey := by rw [BitVec.lt_def]; rw [BitVec.le_def] at hk; omega
    simp [gtB, this]
theorem all_loop (l : List Item) (hl : l.length <= 9223372036854775806) (d : Nat) : ∀ (i q : Nat), i + d = l.length -> d < q -> m_index_Valid_l1 l q (i : Int) = some ((l.drop i).all fun x => decide (vItem x)) := by
 induction d with
 | zero =>
  intro i q hi hq
  obtain ⟨q, rfl⟩ := sucq hq
  unfold m_index_Valid_l1
  rw [if_neg (by omega), List.drop_of_length_le (by omega)]; rfl
 | succ d ih =>
  intro i q hi hq
  obtain ⟨q, rfl⟩ := sucq hq
  have h1 : i < l.length := by omega
  have e1 : ck ((i : Int) + 1) = some ((i + 1 : Nat) : Int) := by rw [ck_of (by omega)]; rfl
  unfold m_index_Valid_l1
  rw [if_pos (by omega), idx_nat, List.getElem?_eq_getElem h1, obs, index_valid_eq, obs, drop_one h1, List.all_cons]
  by_cases hv : vItem l[i]
  ·rw [if_pos (decide_eq_true hv), e1, obs, ih (i + 1) q (by omega) (by omega), decide_eq_true hv, Bool.true_and]
  ·rw [if_neg (by simpa using hv), decide_eq_false hv, Bool.false_and]; refine congrArg some ?_; simp; try omega
theorem index_Valid_eq (l : List Item) (hl : l.length <= 9223372036854775806) : m_index_Valid l = some (ivalB l) := by
 unfold m_index_Valid m_index_ascending ivalB
 have e := ascending_loop l hl l.length 0 forever (by omega) (by unfold forever; omega)
 have e2 := all_loop l hl l.length 0 forever (by omega) (by unfold forever; omega)
 rw [List.drop_zero] at e e2
 rw [show ((0 : Int)) = ((0 : Nat) : Int) from rfl, e, obs, e2]
 show (if ascB none l = true then _ else _) = _
 cases h : ascB none l
 ·rfl
 ·rfl
theorem r08_loop (l : List Item) (hl : l.length <= 9223372036854775806) (d : Nat) : ∀ (i q : Nat), i + d = l.length -> d < q -> m_r08_Valid_l1 l q (i : Int) = some (ascB (prev l i) (l.drop i) && (l.drop i).all fun x => decide (vItem x)) := by
 induction d with
 | zero =>
  intro i q hi hq
  obtain ⟨q, rfl⟩ := sucq hq
  unfold m_r08_Valid_l1
  rw [if_neg (by omega), List.drop_of_length_le (by omega)]; rfl
 | succ d ih =>
  intro i q hi hq
  obtain ⟨q, rfl⟩ := sucq hq
  have h1 : i < l.length := by omega
  have e1 : ck ((i : Int) + 1) = some ((i + 1 : Nat) : Int) := by rw [ck_of (by omega)]; rfl
  unfold m_r08_Valid_l1
  rw [if_pos (by omega), idx_nat, List.getElem?_eq_getElem h1, obs, r08_ValidItem_eq, obs, drop_one h1, List.all_cons, ascB_cons, <- prev_succ h1]
  by_cases hv : vItem l[i]
  ·rw [if_pos (decide_eq_true hv), decide_eq_true hv, Bool.true_and]
   by_cases h0 : i = 0
   ·subst h0
    rw [if_neg (by omega), e1, obs, ih (0 + 1) q (by omega) (by omega)]; rfl
   ·have e2 : ck ((i : Int) - 1) = some ((i - 1 : Nat) : Int) := by rw [ck_of (by omega)]; refine congrArg some ?_; omega
    have hp : prev l i = some l[i - 1].fKey := by unfold prev; rw [if_neg h0, List.getElem?_eq_getElem (by omega)]; rfl
    rw [if_pos (by omega), obs, e2, obs, idx_nat, List.getElem?_eq_getElem (show i - 1 < l.length by omega), obs, hp]
    by_cases hk : l[i].fKey <= l[i - 1].fKey
    ·rw [if_pos hk]; refine congrArg some ?_; symm
     have : ¬ l[i - 1].fKey < l[i].fKey := by rw [BitVec.lt_def]; rw [BitVec.le_def] at hk; omega
     simp [gtB, this]
    ·rw [if_neg hk, e1, obs, ih (i + 1) q (by omega) (by omega)]; refine congrArg some ?_
     have : l[i - 1].fKey < l[i].fKey := by rw [BitVec.lt_def]; rw [BitVec.le_def] at hk; omega
     simp [gtB, this]
  ·rw [if_neg (by simpa using hv), decide_eq_false hv]; refine congrArg some ?_; simp
theorem r08_Valid_eq (l : List Item) (hl : l.length <= 9223372036854775806) : m_r08_Valid l = some (ivalB l) := by
 unfold m_r08_Valid ivalB
 have e := r08_loop l hl l.length 0 forever (by omega) (by unfold forever; omega)
 rw [List.drop_zero] at e
 exact e
theorem ivalB_all {l : List Item} (h : ivalB l = true) : ∀ x ∈ l, vItem x := by
 unfold ivalB at h
 rw [Bool.and_eq_true] at h
 intro x hx
 have := List.all_eq_true.1 h.2 x hx
 simpa using this
theorem ascB_of : ∀ (p : Option (BitVec 64)) (l : List Item), (∀ k, p = some k -> ∀ x ∈ l, k < x.fKey) -> l.Pairwise (fun a b => a.fKey < b.fKey) -> ascB p l = true
 | _, [], _, _ => rfl
 | p, x :: l, hp, h => by
  rw [ascB_cons, Bool.and_eq_true]
  obtain ⟨h1, h2⟩ := List.pairwise_cons.1 h
  refine ⟨?_, ascB_of _ l (fun k hk y hy => by injection hk with hk; subst hk; exact h1 y hy) h2⟩
  cases p with
  | none => rfl
  | some k => exact decide_eq_true (hp k rfl x (List.mem_cons_self ..))
theorem ivalB_of {l : List Item} (h1 : ∀ x ∈ l, vItem x) (h2 : l.Pairwise fun a b => a.fKey < b.fKey) : ivalB l = true := by
 unfold ivalB
 rw [ascB_of none l (fun k hk => by cases hk) h2, Bool.true_and]
 exact List.all_eq_true.2 fun x hx => decide_eq_true (h1 x hx)
def fits (n : Int) (x : Item) : Prop := x.fOff + sizeZ x.fSize <= n
instance (n : Int) (x : Item) : Decidable (fits n x) := inferInstanceAs (Decidable (_ <= _))
theorem sizeZ_bd (z : Int) : 0 <= sizeZ z /\ sizeZ z <= 4200 := by
 unfold sizeZ; split
 ·have := nsize_lo z.toNat; omega
 ·omega
def hvalB (a b c n : Int) (l : List Item) : Bool := sval a b c && decide (16 <= n /\ n <= 524288) && ivalB l && l.all fun x => decide (fits n x)
theorem shards_loop (l : List Item) (n : Int) (hl : l.length <= 9223372036854775806) (hv : ∀ x ∈ l, vItem x) (d : Nat) : ∀ (i q : Nat), i + d = l.length -> d < q -> m_shards_Valid_l1 l n q (i : Int) = some ((l.drop i).all fun x => decide (fits n x)) := by
 induction d with
 | zero =>
  intro i q hi hq
  obtain ⟨q, rfl⟩ := sucq hq
  unfold m_shards_Valid_l1
  rw [if_neg (by omega), List.drop_of_length_le (by omega)]; rfl
 | succ d ih =>
  intro i q hi hq
  obtain ⟨q, rfl⟩ := sucq hq
  have h1 : i < l.length := by omega
  have e1 : ck ((i : Int) + 1) = some ((i + 1 : Nat) : Int) := by rw [ck_of (by omega)]; rfl
  have hx := hv l[i] (List.getElem_mem h1)
  have hs := sizeZ_bd l[i].fSize
  unfold vItem at hx
  unfold m_shards_Valid_l1
  rw [if_pos (by omega), idx_nat, List.getElem?_eq_getElem h1, obs, needle_Size_eq, obs, ck_of (by omega), obs, drop_one h1, List.all_cons]
  by_cases hk : n < l[i].fOff + sizeZ l[i].fSize
  ·rw [if_pos hk, decide_eq_false (show ¬ fits n l[i] by unfold fits; omega), Bool.false_and]; refine congrArg some ?_; simp; try omega
  ·rw [if_neg hk, e1, obs, ih (i + 1) q (by omega) (by omega), decide_eq_true (show fits n l[i] by unfold fits; omega), Bool.true_and]
theorem r17_loop (l : List Item) (n : Int) (hl : l.length <= 9223372036854775806) (hv : ∀ x ∈ l, vItem x) (d : Nat) : ∀ (i q : Nat), i + d = l.length -> d < q -> m_r17_Valid_l2 l n q (i : Int) = some ((l.drop i).all fun x => decide (fits n x)) := by
 induction d with
 | zero =>
  intro i q hi hq
  obtain ⟨q, rfl⟩ := sucq hq
  unfold m_r17_Valid_l2
  rw [if_neg (by omega), List.drop_of_length_le (by omega)]; rfl
 | succ d ih =>
  intro i q hi hq
  obtain ⟨q, rfl⟩ := sucq hq
  have h1 : i < l.length := by omega
  have e1 : ck ((i : Int) + 1) = some ((i + 1 : Nat) : Int) := by rw [ck_of (by omega)]; rfl
  have hx := hv l[i] (List.getElem_mem h1)
  have hs := sizeZ_bd l[i].fSize
  unfold vItem at hx
  unfold m_r17_Valid_l2
  rw [if_pos (by omega), idx_nat, List.getElem?_eq_getElem h1, obs, obs, r06_Size_eq, obs, ck_of (by omega), obs, drop_one h1, List.all_cons]
  by_cases hk : n < l[i].fOff + sizeZ l[i].fSize
  ·rw [if_pos hk, decide_eq_false (show ¬ fits n l[i] by unfold fits; omega), Bool.false_and]
  ·rw [if_neg hk, e1, obs, ih (i + 1) q (by omega) (by omega), decide_eq_true (show fits n l[i] by unfold fits; omega), Bool.true_and]
theorem shards_Valid_eq (a b c n : Int) (c0 c1 c2 c3 c4 c5 : BitVec 32) (l : List Item) (hl : l.length <= 9223372036854775806) : m_shards_Valid a b c n c0 c1 c2 c3 c4 c5 l = some (hvalB a b c n l) := by
 unfold m_shards_Valid hvalB
 rw [superblock_Valid_eq, obs]
 by_cases h1 : sval a b c = true
 ·rw [if_pos h1, h1, Bool.true_and]
  by_cases h2 : n < 16
  ·rw [if_pos h2, decide_eq_false (by omega)]; rfl
  ·by_cases h3 : (524288 : Int) < n
   ·rw [if_neg h2, if_pos h3, decide_eq_false (by omega)]; rfl
   ·rw [if_neg h2, if_neg h3, decide_eq_true (by omega), Bool.true_and, index_Valid_eq l hl, obs]
    by_cases h4 : ivalB l = true
    ·rw [if_pos h4, h4, Bool.true_and]
     have := shards_loop l n hl (ivalB_all h4) l.length 0 forever (by omega) (by unfold forever; omega)
     rw [List.drop_zero] at this; exact this
    ·rw [if_neg h4]; simp [Bool.eq_false_iff.2 h4]
 ·rw [if_neg h1]; simp [Bool.eq_false_iff.2 h1]
theorem r17_Valid_eq (a b c n : Int) (c0 c1 c2 c3 c4 c5 : BitVec 32) (l : List Item) (hl : l.length <= 9223372036854775806) : m_r17_Valid a b c n c0 c1 c2 c3 c4 c5 l = some (hvalB a b c n l) := by
 unfold m_r17_Valid hvalB
 rw [r07_Valid_eq, obs]
 by_cases h1 : sval a b c = true
 ·rw [if_pos h1, h1, Bool.true_and]
  by_cases h2 : n < 16
  ·rw [if_pos h2, decide_eq_false (by omega)]; rfl
  ·by_cases h3 : (524288 : Int) < n
   ·rw [if_neg h2, if_pos h3, decide_eq_false (by omega)]; rfl
   ·rw [if_neg h2, if_neg h3, decide_eq_true (by omega), Bool.true_and, r08_Valid_eq l hl, obs]
    by_cases h4 : ivalB l = true
    ·rw [if_pos h4, h4, Bool.true_and]
     have := r17_loop l n hl (ivalB_all h4) l.length 0 forever (by omega) (by unfold forever; omega)
     rw [List.drop_zero] at this; exact this
    ·rw [if_neg h4]; simp [Bool.eq_false_iff.2 h4]
 ·rw [if_neg h1]; simp [Bool.eq_false_iff.2 h1]
theorem hvalB_len {a b c n : Int} {l : List Item} (h : hvalB a b c n l = true) : 16 <= n /\ n <= 524288 := by
 unfold hvalB at h; simp only [Bool.and_eq_true] at h; exact of_decide_eq_true h.1.1.2
end Go.Proofs.YtcncappgheopgaaGreat
