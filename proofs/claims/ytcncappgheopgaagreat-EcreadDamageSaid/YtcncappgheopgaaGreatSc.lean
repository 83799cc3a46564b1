/- A part of the proof. Conditions: as each theorem says. -/
import Derived.Test.YtcncappgheopgaaGreatSb
namespace Go.Proofs.YtcncappgheopgaaGreat
set_option linter.unusedVariables false
set_option linter.unusedSimpArgs false
def Asc (l : List Item) : Prop := l.Pairwise fun a b => a.fKey < b.fKey
theorem bv_lt {a b : BitVec 64} : a < b ↔ a.toNat < b.toNat := BitVec.lt_def
theorem bv_le {a b : BitVec 64} : a <= b ↔ a.toNat <= b.toNat := BitVec.le_def
theorem bv_ne {a b : BitVec 64} : a = b ↔ a.toNat = b.toNat := ⟨fun h => by rw [h], BitVec.eq_of_toNat_eq⟩
theorem apdI {a b : List Item} (h : a.length + b.length <= 1000000) : apd 32 a b = some (a ++ b) := apd_of ⟨by omega, by omega⟩
theorem sorted_l4 (x00 x16 : List Item) (x17 : Nat) (r1 : List Item -> Int -> Option (List Item)) (hx : x17 < x00.length) (hs : ∀ y ∈ x16, y.fKey < x00[x17].fKey) (hl : x16.length <= 100000) (d : Nat) : ∀ (i q : Nat), i + d = x16.length -> d < q ->
  m_r08_Sorted_l4 x00 x16 (x17 : Int) r1 q (i : Int) = m_r08_Sorted_j3 x00 x16 (x17 : Int) r1 (x16.length : Int) := by
 induction d with
 | zero =>
  intro i q hi hq
  obtain ⟨q, rfl⟩ := sucq hq
  unfold m_r08_Sorted_l4
  rw [if_neg (by omega), show (i : Int) = (x16.length : Int) by omega]
 | succ d ih =>
  intro i q hi hq
  obtain ⟨q, rfl⟩ := sucq hq
  have h1 : i < x16.length := by omega
  unfold m_r08_Sorted_l4
  rw [if_pos (by omega), idx_nat, List.getElem?_eq_getElem h1, obs, idx_nat, List.getElem?_eq_getElem hx, obs, if_pos (hs _ (List.getElem_mem h1)), ck_of (by omega), obs]
  exact ih (i + 1) q (by omega) (by omega)
theorem sorted_l1 (l : List Item) (ha : Asc l) (hl : l.length <= 100000) (d : Nat) : ∀ (i q : Nat), i + d = l.length -> d < q -> m_r08_Sorted_l1 l q (l.take i) (i : Int) = some l := by
 induction d with
 | zero =>
  intro i q hi hq
  obtain ⟨q, rfl⟩ := sucq hq
  unfold m_r08_Sorted_l1
  rw [if_neg (by omega), List.take_of_length_le (by omega)]; rfl
 | succ d ih =>
  intro i q hi hq
  obtain ⟨q, rfl⟩ := sucq hq
  have h1 : i < l.length := by omega
  have ht : (l.take i).length = i := by rw [List.length_take]; omega
  have hs : ∀ y ∈ l.take i, y.fKey < l[i].fKey := by
   intro y hy
   obtain ⟨j, hj, rfl⟩ := List.mem_iff_getElem.1 hy
   rw [List.getElem_take]
   exact List.pairwise_iff_getElem.1 ha j i (by omega) h1 (by omega)
  unfold m_r08_Sorted_l1
  rw [if_pos (by omega)]
  refine (sorted_l4 l (l.take i) i _ h1 hs (by omega) i 0 forever (by omega) (by unfold forever; omega)).trans ?_
  unfold m_r08_Sorted_j3
  have e1 : slc (l.take i) ((l.take i).length : Int) ((l.take i).length : Int) = some [] := by
   rw [slc_of (by omega)]; simp
  have e2 : slc (l.take i) 0 ((l.take i).length : Int) = some (l.take i) := by
   rw [slc_of (by omega), show (0 : Int).toNat = 0 from rfl, List.drop_zero, List.take_of_length_le (by omega)]
  rw [e1, obs, apdI (by simp), obs, if_neg (by simp), e2, obs, idx_nat, List.getElem?_eq_getElem h1, obs, apdI (by simp; omega), obs, apdI (by simp; omega), obs]
  unfold m_r08_Sorted_j2
  rw [ck_of (by omega), obs, List.append_nil, List.append_nil]
  have := ih (i + 1) q (by omega) (by omega)
  rw [List.take_succ_eq_append_getElem h1] at this
  exact this
theorem sorted_ok {l : List Item} (ha : Asc l) (hl : l.length <= 100000) : m_r08_Sorted l = some l :=
 sorted_l1 l ha hl l.length 0 forever (by omega) (by unfold forever; omega)
def putL (l : List Item) (x : Item) : List Item := l.filter (fun y => decide (y.fKey < x.fKey)) ++ [x] ++ l.filter (fun y => decide (x.fKey < y.fKey))
def dropL (l : List Item) (k : BitVec 64) : List Item := l.filter fun y => decide (y.fKey ≠ k)
theorem putL_asc {l : List Item} (x : Item) (h : Asc l) : Asc (putL l x) := by
 unfold putL Asc
 refine List.pairwise_append.2 ⟨List.pairwise_append.2 ⟨h.filter _, List.pairwise_singleton _ _, fun a ha b hb => ?_⟩, h.filter _, fun a ha b hb => ?_⟩
 ·rw [List.mem_singleton] at hb; subst hb
  exact of_decide_eq_true (List.mem_filter.1 ha).2
 ·have h2 : x.fKey < b.fKey := of_decide_eq_true (List.mem_filter.1 hb).2
  rcases List.mem_append.1 ha with ha | ha
  ·have h1 : a.fKey < x.fKey := of_decide_eq_true (List.mem_filter.1 ha).2
   rw [bv_lt] at *; omega
  ·rw [List.mem_singleton] at ha; subst ha; exact h2
theorem putL_mem {l : List Item} {x y : Item} (h : y ∈ putL l x) : y = x ∨ y ∈ l := by
 unfold putL at h
 rcases List.mem_append.1 h with h | h
 ·rcases List.mem_append.1 h with h | h
  ·exact .inr (List.mem_filter.1 h).1
  ·exact .inl (List.mem_singleton.1 h)
 ·exact .inr (List.mem_filter.1 h).1
theorem two_filters {p r : Item -> Bool} (h : ∀ y, p y = true -> r y = false) : ∀ l : List Item, (l.filter p).length + (l.filter r).length <= l.length
 | [] => by simp
 | y :: l => by
  have ih := two_filters h l
  by_cases hp : p y = true
  ·rw [List.filter_cons_of_pos hp, List.filter_cons_of_neg (by rw [h y hp]; simp), List.length_cons, List.length_cons]; omega
  ·rw [List.filter_cons_of_neg hp]
   by_cases hr : r y = true
   ·rw [List.filter_cons_of_pos hr, List.length_cons, List.length_cons]; omega
   ·rw [List.filter_cons_of_neg hr, List.length_cons]; omega
theorem putL_len (l : List Item) (x : Item) : (putL l x).length <= l.length + 1 := by
 have := two_filters (p := fun y => decide (y.fKey < x.fKey)) (r := fun y => decide (x.fKey < y.fKey)) (fun y hy => decide_eq_false fun h => by have := of_decide_eq_true hy; rw [bv_lt] at *; omega) l
 unfold putL
 simp only [List.length_append, List.length_singleton]
 omega
theorem dropL_asc {l : List Item} (k : BitVec 64) (h : Asc l) : Asc (dropL l k) := h.filter _
theorem dropL_mem {l : List Item} {k : BitVec 64} {y : Item} (h : y ∈ dropL l k) : y ∈ l := (List.mem_filter.1 h).1
theorem dropL_len (l : List Item) (k : BitVec 64) : (dropL l k).length <= l.length := List.length_filter_le _ _
theorem drop_loop (k : BitVec 64) (l : List Item) (hl : l.length <= 100000) (d : Nat) : ∀ (i q : Nat) (acc : List Item), i + d = l.length -> d < q -> acc.length <= i -> m_r08_Drop_l1 k l q acc (i : Int) = some (acc ++ dropL (l.drop i) k) := by
 induction d with
 | zero =>
  intro i q acc hi hq hc
  obtain ⟨q, rfl⟩ := sucq hq
  unfold m_r08_Drop_l1
  rw [if_neg (by omega), List.drop_of_length_le (by omega)]; simp [m_r08_Drop_j0, dropL]
 | succ d ih =>
  intro i q acc hi hq hc
  obtain ⟨q, rfl⟩ := sucq hq
  have h1 : i < l.length := by omega
  unfold m_r08_Drop_l1
  rw [if_pos (by omega), idx_nat, List.getElem?_eq_getElem h1, obs, drop_one h1]
  unfold dropL
  by_cases hk : l[i].fKey = k
  ·rw [if_pos hk, ck_of (by omega), obs, List.filter_cons_of_neg (by simpa using hk)]
   exact ih (i + 1) q acc (by omega) (by omega) (by omega)
  ·rw [if_neg hk, obs, apdI (by simp; omega), obs, ck_of (by omega), obs, List.filter_cons_of_pos (by simpa using hk)]
   have := ih (i + 1) q (acc ++ [l[i]]) (by omega) (by omega) (by simp; omega)
   rw [List.append_assoc] at this
   exact this
theorem drop_ok {l : List Item} (k : BitVec 64) (ha : Asc l) (hl : l.length <= 100000) : m_r08_Drop l k = some (dropL l k) := by
 unfold m_r08_Drop
 rw [sorted_ok ha hl, obs]
 have := drop_loop k l hl l.length 0 forever [] (by omega) (by unfold forever; omega) (by simp)
 rw [List.drop_zero, List.nil_append] at this
 exact this
theorem put_done (x : Item) (l : List Item) (hl : l.length <= 100000) (d : Nat) : ∀ (i q : Nat) (acc : List Item), i + d = l.length -> d < q -> acc.length <= i + 1 -> m_r08_Put_l1 x.fKey x.fCookie x.fOff x.fSize l q acc true (i : Int) = some (acc ++ dropL (l.drop i) x.fKey) := by
 induction d with
 | zero =>
  intro i q acc hi hq hc
  obtain ⟨q, rfl⟩ := sucq hq
  unfold m_r08_Put_l1
  rw [if_neg (by omega), List.drop_of_length_le (by omega)]; simp [m_r08_Put_j0, dropL]
 | succ d ih =>
  intro i q acc hi hq hc
  obtain ⟨q, rfl⟩ := sucq hq
  have h1 : i < l.length := by omega
  unfold m_r08_Put_l1
  rw [if_pos (by omega), if_pos rfl, idx_nat, List.getElem?_eq_getElem h1, obs, drop_one h1]
  unfold dropL
  by_cases hk : l[i].fKey = x.fKey
  ·rw [if_pos hk, ck_of (by omega), obs, List.filter_cons_of_neg (by simpa using hk)]
   exact ih (i + 1) q acc (by omega) (by omega) (by omega)
  ·rw [if_neg hk, obs, apdI (by simp; omega), obs, ck_of (by omega), obs, List.filter_cons_of_pos (by simpa using hk)]
   have := ih (i + 1) q (acc ++ [l[i]]) (by omega) (by omega) (by simp; omega)
   rw [List.append_assoc] at this
   exact this
theorem filter_none {p : Item -> Bool} {l : List Item} (h : ∀ y ∈ l, p y = false) : l.filter p = [] := List.filter_eq_nil_iff.2 fun y hy => by rw [h y hy]; simp
theorem putL_here {y x : Item} {s : List Item} (ha : Asc (y :: s)) (hk : x.fKey <= y.fKey) : putL (y :: s) x = [x] ++ dropL (y :: s) x.fKey := by
 obtain ⟨h1, h2⟩ := List.pairwise_cons.1 ha
 have hlt : ∀ z ∈ s, x.fKey < z.fKey := fun z hz => by have := h1 z hz; rw [bv_lt] at *; rw [bv_le] at hk; omega
 unfold putL dropL
 rw [filter_none (p := fun y => decide (y.fKey < x.fKey)) (fun z hz => ?_), List.nil_append]
 ·congr 1
  refine List.filter_congr fun z hz => ?_
  rcases List.mem_cons.1 hz with rfl | hz
  ·by_cases e : z.fKey = x.fKey
   ·have : ¬ x.fKey < z.fKey := by rw [bv_lt]; rw [bv_ne] at e; omega
    simp [e, this]
   ·have : x.fKey < z.fKey := by rw [bv_lt]; rw [bv_ne] at e; rw [bv_le] at hk; omega
    simp [e, this]
  ·have h3 := hlt z hz
   have h4 : z.fKey ≠ x.fKey := fun e => by rw [bv_lt] at h3; rw [bv_ne] at e; omega
   simp [h3, h4]
 ·refine decide_eq_false fun h => ?_
  rcases List.mem_cons.1 hz with rfl | hz
  ·rw [bv_lt] at h; rw [bv_le] at hk; omega
  ·have := hlt z hz; rw [bv_lt] at *; omega
theorem putL_later {y x : Item} {s : List Item} (hk : ¬ x.fKey <= y.fKey) : putL (y :: s) x = y :: putL s x := by
 have h1 : y.fKey < x.fKey := by rw [bv_lt]; rw [bv_le] at hk; omega
 have h2 : ¬ x.fKey < y.fKey := by rw [bv_lt] at *; omega
 unfold putL
 rw [List.filter_cons_of_pos (by simpa using h1), List.filter_cons_of_neg (by simpa using h2)]; rfl
theorem put_loop (x : Item) (l : List Item) (ha : Asc l) (hl : l.length <= 100000) (d : Nat) : ∀ (i q : Nat) (acc : List Item), i + d = l.length -> d < q -> acc.length <= i -> m_r08_Put_l1 x.fKey x.fCookie x.fOff x.fSize l q acc false (i : Int) = some (acc ++ putL (l.drop i) x) := by
 induction d with
 | zero =>
  intro i q acc hi hq hc
  obtain ⟨q, rfl⟩ := sucq hq
  unfold m_r08_Put_l1
  rw [if_neg (by omega), List.drop_of_length_le (by omega), m_r08_Put_j0, if_neg (by simp), apdI (by simp; omega), obs]; rfl
 | succ d ih =>
  intro i q acc hi hq hc
  obtain ⟨q, rfl⟩ := sucq hq
  have h1 : i < l.length := by omega
  unfold m_r08_Put_l1
  rw [if_pos (by omega), if_neg (by simp), idx_nat, List.getElem?_eq_getElem h1, obs, drop_one h1]
  by_cases hk : x.fKey <= l[i].fKey
  ·have hd : Asc (l[i] :: l.drop (i + 1)) := by rw [<- drop_one h1]; exact ha.sublist (List.drop_sublist _ _)
   rw [if_pos hk, show (⟨x.fKey, x.fCookie, x.fOff, x.fSize⟩ : Item) = x from rfl, apdI (by simp; omega), obs, obs, putL_here hd hk]
   unfold dropL
   by_cases he : l[i].fKey = x.fKey
   ·rw [if_pos he, ck_of (by omega), obs, List.filter_cons_of_neg (by simpa using he)]
    have := put_done x l hl d (i + 1) q (acc ++ [x]) (by omega) (by omega) (by simp; omega)
    rw [List.append_assoc] at this
    exact this
   ·rw [if_neg he, obs, apdI (by simp; omega), obs, ck_of (by omega), obs, List.filter_cons_of_pos (by simpa using he)]
    have := put_done x l hl d (i + 1) q (acc ++ [x] ++ [l[i]]) (by omega) (by omega) (by simp; omega)
    exact this.trans (by simp [dropL])
  ·have hne : ¬ l[i].fKey = x.fKey := fun e => hk (by rw [e]; rw [bv_le]; omega)
   rw [if_neg hk, obs, if_neg hne, obs, apdI (by simp; omega), obs, ck_of (by omega), obs, putL_later hk]
   have := ih (i + 1) q (acc ++ [l[i]]) (by omega) (by omega) (by simp; omega)
   rw [List.append_assoc] at this
   exact this
theorem put_ok {l : List Item} (x : Item) (ha : Asc l) (hl : l.length <= 100000) : m_r08_Put l x.fKey x.fCookie x.fOff x.fSize = some (putL l x) := by
 unfold m_r08_Put
 rw [sorted_ok ha hl, obs]
 have := put_loop x l ha hl l.length 0 forever [] (by omega) (by unfold forever; omega) (by simp)
 rw [List.drop_zero, List.nil_append] at this
 exact this
abbrev Rec := Sneedlestoreref09_Record
def itemOf (r : Rec) : Item := ⟨r.fNeedle.fKey, r.fNeedle.fCookie, r.fOff, (r.fNeedle.fData.length : Int)⟩
def step1 (l : List Item) (r : Rec) : List Item := if r.fNeedle.fDeleted = true then dropL l r.fNeedle.fKey else putL l (itemOf r)
def itemsL (rs : List Rec) : List Item := rs.foldl step1 []
theorem step1_asc {l : List Item} (r : Rec) (h : Asc l) : Asc (step1 l r) := by
 unfold step1; split
 ·exact dropL_asc _ h
 ·exact putL_asc _ h
theorem step1_len (l : List Item) (r : Rec) : (step1 l r).length <= l.length + 1 := by
 unfold step1; split
 ·have := dropL_len l r.fNeedle.fKey; omega
 ·exact putL_len _ _
theorem step1_mem {l : List Item} {r : Rec} {y : Item} (h : y ∈ step1 l r) : (r.fNeedle.fDeleted = false /\ y = itemOf r) ∨ y ∈ l := by
 unfold step1 at h
 split at h
 ·exact .inr (dropL_mem h)
 ·rename_i hd
  rcases putL_mem h with e | e
  ·exact .inl ⟨by simpa using hd, e⟩
  ·exact .inr e
theorem fold_asc : ∀ (rs : List Rec) (l : List Item), Asc l -> Asc (rs.foldl step1 l)
 | [], _, h => h
 | r :: rs, l, h => fold_asc rs _ (step1_asc r h)
theorem fold_len : ∀ (rs : List Rec) (l : List Item), (rs.foldl step1 l).length <= l.length + rs.length
 | [], l => by simp
 | r :: rs, l => by
  have := fold_len rs (step1 l r); have := step1_len l r
  rw [List.foldl_cons, List.length_cons]; omega
theorem fold_mem : ∀ (rs : List Rec) (l : List Item) {y : Item}, y ∈ rs.foldl step1 l -> (∃ r ∈ rs, r.fNeedle.fDeleted = false /\ y = itemOf r) ∨ y ∈ l
 | [], l, y, h => .inr h
 | r :: rs, l, y, h => by
  rcases fold_mem rs (step1 l r) h with ⟨r', hr, hh⟩ | h
  ·exact .inl ⟨r', List.mem_cons_of_mem _ hr, hh⟩
  ·rcases step1_mem h with hh | hh
   ·exact .inl ⟨r, List.mem_cons_self .., hh⟩
   ·exact .inr hh
theorem items_asc (rs : List Rec) : Asc (itemsL rs) := fold_asc rs [] List.Pairwise.nil
theorem items_len (rs : List Rec) : (itemsL rs).length <= rs.length := by have := fold_len rs []; simpa [itemsL] using this
theorem items_mem {rs : List Rec} {y : Item} (h : y ∈ itemsL rs) : ∃ r ∈ rs, r.fNeedle.fDeleted = false /\ y = itemOf r := by
 rcases fold_mem rs [] h with hh | hh
 ·exact hh
 ·cases hh
theorem items_loop (rs : List Rec) (hl : rs.length <= 50000) (d : Nat) : ∀ (i q : Nat) (acc : List Item), i + d = rs.length -> d < q -> Asc acc -> acc.length <= i -> m_r09_Items_l1 rs q acc (i : Int) = some ((rs.drop i).foldl step1 acc) := by
 induction d with
 | zero =>
  intro i q acc hi hq ha hc
  obtain ⟨q, rfl⟩ := sucq hq
  unfold m_r09_Items_l1
  rw [if_neg (by omega), List.drop_of_length_le (by omega)]; rfl
 | succ d ih =>
  intro i q acc hi hq ha hc
  obtain ⟨q, rfl⟩ := sucq hq
  have h1 : i < rs.length := by omega
  have hstep := step1_len acc rs[i]
  unfold m_r09_Items_l1
  rw [if_pos (by omega), idx_nat, List.getElem?_eq_getElem h1, obs, List.drop_eq_getElem_cons h1, List.foldl_cons]
  by_cases hd : rs[i].fNeedle.fDeleted = true
  ·have e : step1 acc rs[i] = dropL acc rs[i].fNeedle.fKey := if_pos hd
   rw [if_pos hd, drop_ok _ ha (by omega), obs, ck_of (by omega), obs, e]
   exact ih (i + 1) q _ (by omega) (by omega) (dropL_asc _ ha) (by rw [<- e]; omega)
  ·have e : step1 acc rs[i] = putL acc (itemOf rs[i]) := if_neg hd
   have hp := put_ok (itemOf rs[i]) ha (show acc.length <= 100000 by omega)
   rw [if_neg hd, obs]
   refine (congrArg (fun o => Option.bind o _) hp).trans ?_
   rw [obs, ck_of (by omega), obs, e]
   exact ih (i + 1) q _ (by omega) (by omega) (putL_asc _ ha) (by rw [<- e]; omega)
theorem items_ok (rs : List Rec) (hl : rs.length <= 50000) : m_r09_Items rs = some (itemsL rs) := by
 unfold m_r09_Items
 have := items_loop rs hl rs.length 0 forever [] (by omega) (by unfold forever; omega) List.Pairwise.nil (by simp)
 rw [List.drop_zero] at this
 exact this
end Go.Proofs.YtcncappgheopgaaGreat
