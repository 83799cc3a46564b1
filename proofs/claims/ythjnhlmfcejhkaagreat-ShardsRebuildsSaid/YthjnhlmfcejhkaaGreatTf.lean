/- A part of the proof. Conditions: as each theorem says. -/
import Derived.Test.YthjnhlmfcejhkaaGreatTd
import Derived.Test.YthjnhlmfcejhkaaGreatMds1
namespace Go.Proofs.YthjnhlmfcejhkaaGreat
set_option linter.unusedVariables false
set_option linter.unusedSimpArgs false
set_option maxRecDepth 10000
abbrev RHead := Sneedlestoreref17_Head
def okF (F : List Bytes) : Prop := ∀ j, j < F.length -> (F.getD j []).length <= 1000
theorem okF_set {F : List Bytes} {k : Nat} {r : Bytes} (h : okF F) (hr : r.length <= 1000) : okF (F.set k r) := fun j hj => by
 rw [List.length_set] at hj
 rw [List.getD_eq_getElem?_getD, List.getElem?_set]
 by_cases e : k = j
 ·rw [if_pos e, if_pos (by omega)]; exact hr
 ·rw [if_neg e, <- List.getD_eq_getElem?_getD]; exact h j hj
theorem rmi_anyR (a : Int) (n : Nat) (h : 0 < n) : ∃ r, rmi a (n : Int) = some r /\ -(n : Int) < r /\ r < n :=
 ⟨a.tmod n, by unfold rmi; rw [if_neg (by omega)], by
  rcases Int.le_total 0 a with h0 | h0
  ·rw [Int.tmod_eq_emod_of_nonneg h0]
   have h1 := Int.emod_nonneg a (b := (n : Int)) (by omega); have h2 := Int.emod_lt_of_pos a (b := (n : Int)) (by omega)
   omega
  ·have e : a.tmod (n : Int) = -((-a).tmod n) := by rw [Int.neg_tmod]; omega
   rw [e, Int.tmod_eq_emod_of_nonneg (by omega)]
   have h1 := Int.emod_nonneg (-a) (b := (n : Int)) (by omega); have h2 := Int.emod_lt_of_pos (-a) (b := (n : Int)) (by omega)
   omega⟩
theorem rmi_natR {a : Int} (h0 : 0 <= a) (n : Nat) (h : 0 < n) : ∃ m : Nat, rmi a (n : Int) = some (m : Int) /\ m < n := by
 have h1 := Int.emod_nonneg a (b := (n : Int)) (by omega); have h2 := Int.emod_lt_of_pos a (b := (n : Int)) (by omega)
 exact ⟨(a % (n : Int)).toNat, by rw [rmi_of h0 (by omega)]; congr 1; omega, by omega⟩
theorem mask6 (z : Int) : ∃ x : Nat, x < 6 /\ rmi (andi z (7 : Int)) (6 : Int) = some (x : Int) := by
 have h : andi z 7 = ((BitVec.ofInt 64 z &&& 7#64).toNat : Int) := by
  unfold andi
  have h2 : (BitVec.ofInt 64 z &&& 7#64).toNat <= 7 := by rw [BitVec.toNat_and]; exact Nat.and_le_right
  rw [show BitVec.ofInt 64 7 = 7#64 from rfl, BitVec.toInt_eq_toNat_cond, if_pos (by omega)]
 obtain ⟨m, h1, h2⟩ := rmi_natR (a := andi z 7) (by omega) 6 (by omega)
 exact ⟨m, h2, h1⟩
section
variable (raw : List Bytes) (z1 z2 z3 n : Int) (s0 s1 s2 s3 s4 s5 : BitVec 32) (items : List Item)
variable (m : List (List (BitVec 8)) × Int × Int × Int × Int × BitVec 32 × BitVec 32 × BitVec 32 × BitVec 32 × BitVec 32 × BitVec 32 × List Item × Int)
theorem spoil_step (spoil : List Int) (F : List Bytes) (i : Nat) (hi : i + 1 < spoil.length) (hi8 : i < 8) (hF : F.length = 6) (hok : okF F) (r : List Bytes -> Int -> Option Bool) :
  ∃ G, G.length = 6 /\ okF G /\ m_law17_ShardsRebuilds_j5 spoil F (i : Int) r = r G ((i + 2 : Nat) : Int) := by
 obtain ⟨k, hk, ek⟩ := mask6 (spoil.getD i 0)
 have hrow : (F.getD k []).length <= 1000 := hok k (by omega)
 have key : ∀ f : Bool, (f = false -> (F.getD k []).length ≠ 0) -> ∃ G, G.length = 6 /\ okF G /\ m_law17_ShardsRebuilds_j6 spoil F (i : Int) (k : Int) (F.getD k []) r f = r G ((i + 2 : Nat) : Int) := by
  intro f hf
  unfold m_law17_ShardsRebuilds_j6
  cases f
  ·have h0 := hf rfl
   generalize F.getD k [] = row at hrow h0
   obtain ⟨u, e1, u1, u2⟩ := rmi_anyR (spoil.getD (i + 1) 0) row.length (by omega)
   obtain ⟨p, e2, hp⟩ := rmi_natR (a := u + (row.length : Int)) (by omega) row.length (by omega)
   refine ⟨F.set k (row.set p (row.getD p 0#8 ^^^ (BitVec.ofInt 8 (spoil.getD i 0 / 2 ^ 7) ||| 1#8))), by rw [List.length_set]; exact hF, okF_set hok (by rw [List.length_set]; exact hrow), ?_⟩
   rw [if_neg (by decide), ck_of (by omega), obs, show ((i : Int) + 1) = ((i + 1 : Nat) : Int) by omega, idx_getD 0 hi, obs, e1, obs, ck_of (by omega), obs, e2, obs, idx_getD 0#8 hp, obs, idx_getD 0 (by omega), obs]
   rw [show shri (spoil.getD i 0) ((7 : Nat) : Int) = some (spoil.getD i 0 / 2 ^ 7) from rfl, obs, obs, upd_of ⟨by omega, by simpa using hp⟩, obs, idx_getD [] (by omega), obs, upd_of ⟨by omega, by simp; omega⟩, obs, ck_of (by omega), obs]
   rw [Int.toNat_natCast, Int.toNat_natCast]; rfl
  ·refine ⟨F.set k [], by rw [List.length_set]; exact hF, okF_set hok (by simp), ?_⟩
   rw [if_pos rfl, idx_getD [] (by omega), obs, upd_of ⟨by omega, by simp; omega⟩, obs, ck_of (by omega), obs, Int.toNat_natCast]; rfl
 unfold m_law17_ShardsRebuilds_j5
 rw [idx_getD 0 (by omega), obs, ek, obs, idx_getD [] (by omega), obs, apd1_of (by rw [List.length_nil]; omega), obs, List.nil_append, obs]
 by_cases h64 : (0 : Int) < andi (spoil.getD i 0) 64
 ·rw [if_pos h64]; exact key true (by simp)
 ·rw [if_neg h64]; exact key _ fun h => by
   intro h0; rw [h0] at h; simp at h
theorem spoil_loop (spoil : List Int) (d : Nat) : ∀ (i q : Nat) (F : List Bytes), 8 <= i + 2 * d -> d < q -> F.length = 6 -> okF F -> i <= 8 ->
  ∃ G, G.length = 6 /\ okF G /\ m_law17_ShardsRebuilds_l4 raw spoil z1 z2 items z3 n s0 s1 s2 s3 s4 s5 m q F (i : Int) = m_law17_ShardsRebuilds_j3 raw z1 z2 items z3 n s0 s1 s2 s3 s4 s5 m G := by
 induction d with
 | zero =>
  intro i q F hi hq hF hok hi8
  obtain ⟨q, rfl⟩ : ∃ q', q = q' + 1 := ⟨q - 1, by omega⟩
  refine ⟨F, hF, hok, ?_⟩
  unfold m_law17_ShardsRebuilds_l4
  rw [ck_of (by omega), obs, if_neg (show ¬ (i : Int) < 8 by omega)]
  split <;> rfl
 | succ d ih =>
  intro i q F hi hq hF hok hi8
  obtain ⟨q, rfl⟩ : ∃ q', q = q' + 1 := ⟨q - 1, by omega⟩
  unfold m_law17_ShardsRebuilds_l4
  rw [ck_of (by omega), obs]
  by_cases h1 : (i : Int) + 1 < (spoil.length : Int)
  ·rw [if_pos h1]
   by_cases h2 : (i : Int) < 8
   ·rw [if_pos h2]
    obtain ⟨G, g1, g2, g3⟩ := spoil_step spoil F i (by omega) (by omega) hF hok (m_law17_ShardsRebuilds_l4 raw spoil z1 z2 items z3 n s0 s1 s2 s3 s4 s5 m q)
    rw [g3]
    by_cases h8 : i + 2 <= 8
    ·exact ih (i + 2) q G (by omega) (by omega) g1 g2 h8
    ·-- i = 7
     obtain ⟨q, rfl⟩ : ∃ q', q = q' + 1 := ⟨q - 1, by omega⟩
     refine ⟨G, g1, g2, ?_⟩
     unfold m_law17_ShardsRebuilds_l4
     rw [ck_of (by omega), obs, if_neg (show ¬ ((i + 2 : Nat) : Int) < 8 by omega)]
     split <;> rfl
   ·rw [if_neg h2]; exact ⟨F, hF, hok, rfl⟩
  ·rw [if_neg h1]; exact ⟨F, hF, hok, rfl⟩
end
theorem bads_loop (H : RHead) (k : Int) (F : List Bytes) (r : List Bytes × List Int × Int) (r10 : Int -> Option Bool) (hr : r.2.1.length <= 6) (d : Nat) : ∀ (i q : Nat), i + d = r.2.1.length -> d < q -> m_law17_ShardsRebuilds_l14 H k F r r r10 q (i : Int) = m_law17_ShardsRebuilds_j13 H k F r10 := by
 induction d with
 | zero =>
  intro i q hi hq
  obtain ⟨q, rfl⟩ : ∃ q', q = q' + 1 := ⟨q - 1, by omega⟩
  unfold m_law17_ShardsRebuilds_l14
  rw [if_neg (by omega)]
 | succ d ih =>
  intro i q hi hq
  obtain ⟨q, rfl⟩ : ∃ q', q = q' + 1 := ⟨q - 1, by omega⟩
  unfold m_law17_ShardsRebuilds_l14
  rw [if_pos (by omega), idx_getD 0 (by omega), obs, obs, if_pos rfl, ck_of (by omega), obs]
  exact ih (i + 1) q (by omega) (by omega)
theorem goods_loop (H : RHead) (hH : H.fItems.length <= 1000) (k : Int) (F : List Bytes) (r10 : Int -> Option Bool) (hF : F.length <= 8) (hok : okF F) (d : Nat) : ∀ (i q : Nat), i + d = F.length -> d < q -> m_law17_ShardsRebuilds_l15 H k F r10 q (i : Int) = m_law17_ShardsRebuilds_j11 k r10 := by
 induction d with
 | zero =>
  intro i q hi hq
  obtain ⟨q, rfl⟩ : ∃ q', q = q' + 1 := ⟨q - 1, by omega⟩
  unfold m_law17_ShardsRebuilds_l15
  rw [if_neg (by omega)]
 | succ d ih =>
  intro i q hi hq
  obtain ⟨q, rfl⟩ : ∃ q', q = q' + 1 := ⟨q - 1, by omega⟩
  have h1 : i < F.length := by omega
  have hf : (F.getD i []).length <= 1000000 := Nat.le_trans (hok i h1) (by omega)
  obtain ⟨x, x1, x2⟩ := good_eq H.fSuper.fSlot H.fSuper.fGen H.fSuper.fRev H.fSums_0 H.fSums_1 H.fSums_2 H.fSums_3 H.fSums_4 H.fSums_5 H.fItems H.fLen (i : Int) (F.getD i []) hf (by omega)
  obtain ⟨y, y1, y2⟩ := good_eq H.fSuper.fSlot H.fSuper.fGen H.fSuper.fRev H.fSums_0 H.fSums_1 H.fSums_2 H.fSums_3 H.fSums_4 H.fSums_5 H.fItems H.fLen ((i : Int) - 2) (F.getD i []) hf (by omega)
  unfold m_law17_ShardsRebuilds_l15
  rw [if_pos (by omega), m_law17_given, obs, idx_getD [] h1, obs]
  dsimp only
  rw [x1, obs, obs, x2, obs, if_pos rfl, obs, ck_of (by omega), obs, obs]
  rw [y1, obs, obs, obs, y2, obs, if_pos rfl, ck_of (by omega), obs]
  exact ih (i + 1) q (by omega) (by omega)
theorem files_step (H : RHead) (hH : H.fItems.length <= 1000) (raw X F : List Bytes) (x243 : Int) (k : Nat) (hk : k < 2) (hF : F.length <= 8) (hok : okF F) (he : [X, raw][k]? = some F) (r8 : List Bytes -> Int -> Option Bool) (q : Nat) :
  m_law17_ShardsRebuilds_l10 raw X x243 H r8 (q + 1) (k : Int) = m_law17_ShardsRebuilds_l10 raw X x243 H r8 q ((k + 1 : Nat) : Int) := by
 obtain ⟨r, r1, r2, r3, r4⟩ := rebuild_eq H.fSuper.fSlot H.fSuper.fGen H.fSuper.fRev H.fSums_0 H.fSums_1 H.fSums_2 H.fSums_3 H.fSums_4 H.fSums_5 H.fItems H.fLen (by omega) F hok
 conv => lhs; unfold m_law17_ShardsRebuilds_l10
 rw [if_pos (by simp only [List.length_cons, List.length_nil]; omega), idx_nat, he, obs, m_law17_given, obs]
 dsimp only
 rw [r1, obs, r2, obs, if_pos rfl, samerows_refl _ (by omega), obs, if_pos rfl, if_pos rfl]
 unfold m_law17_ShardsRebuilds_j12
 refine (bads_loop H (k : Int) F r _ r4 r.2.1.length 0 forever (Nat.zero_add _) (by unfold forever; omega)).trans ?_
 unfold m_law17_ShardsRebuilds_j13
 refine (goods_loop H hH (k : Int) F _ hF hok F.length 0 forever (Nat.zero_add _) (by unfold forever; omega)).trans ?_
 unfold m_law17_ShardsRebuilds_j11
 rw [ck_of (by omega), obs]; rfl
theorem files_both (H : RHead) (hH : H.fItems.length <= 1000) (raw X : List Bytes) (x243 : Nat) (h2 : x243 < 2) (hX : X.length <= 8) (hXo : okF X) (hR : raw.length <= 8) (hRo : okF raw) (r8 : List Bytes -> Int -> Option Bool) :
  m_law17_ShardsRebuilds_l10 raw X (x243 : Int) H r8 forever (0 : Int) = r8 X ((x243 + 1 : Nat) : Int) := by
 obtain ⟨q, hq⟩ : ∃ q, forever = q + 1 + 1 + 1 := ⟨forever - 3, by unfold forever; omega⟩
 rw [hq]
 refine (files_step H hH raw X X _ 0 (by omega) hX hXo rfl r8 _).trans ?_
 refine (files_step H hH raw X raw _ 1 (by omega) hR hRo rfl r8 _).trans ?_
 unfold m_law17_ShardsRebuilds_l10
 rw [if_neg (by simp only [List.length_cons, List.length_nil]; omega)]
 unfold m_law17_ShardsRebuilds_j9
 rw [ck_of (by omega), obs]; rfl
theorem ok_ShardsRebuilds (raw : List Bytes) (l : List Nd) (spoil : List Int) (z1 z2 z3 n : Int) (s0 s1 s2 s3 s4 s5 : BitVec 32) (items : List Item) : m_law17_ShardsRebuilds raw l spoil z1 z2 z3 n s0 s1 s2 s3 s4 s5 items = some true := by
 unfold m_law17_ShardsRebuilds
 by_cases h1 : (8 : Int) < (raw.length : Int)
 ·rw [if_pos h1, awake_ok]; rfl
 rw [if_neg h1, m_law17_light, obs]
 by_cases h2 : (30 : Int) < (items.length : Int)
 ·rw [if_neg (fun h => absurd (of_decide_eq_true h) (by omega)), awake_ok]; rfl
 rw [if_pos (decide_eq_true (by omega))]
 unfold m_law17_ShardsRebuilds_j0
 have loop : ∀ (d i q : Nat), i + d = raw.length -> d < q -> (∀ j, j < i -> (raw.getD j []).length <= 500) ->
   (m_law17_ShardsRebuilds_l2 raw l spoil z1 z2 items z3 n s0 s1 s2 s3 s4 s5 q (i : Int) = some true) ∨
   ((∀ j, j < raw.length -> (raw.getD j []).length <= 500) /\ m_law17_ShardsRebuilds_l2 raw l spoil z1 z2 items z3 n s0 s1 s2 s3 s4 s5 q (i : Int) = m_law17_ShardsRebuilds_j1 raw l spoil z1 z2 items z3 n s0 s1 s2 s3 s4 s5) := by
  intro d
  induction d with
  | zero =>
   intro i q hi hq h
   obtain ⟨q, rfl⟩ : ∃ q', q = q' + 1 := ⟨q - 1, by omega⟩
   right
   refine ⟨fun j hj => h j (by omega), ?_⟩
   unfold m_law17_ShardsRebuilds_l2
   rw [if_neg (by omega)]
  | succ d ih =>
   intro i q hi hq h
   obtain ⟨q, rfl⟩ : ∃ q', q = q' + 1 := ⟨q - 1, by omega⟩
   unfold m_law17_ShardsRebuilds_l2
   rw [if_pos (by omega), idx_getD [] (by omega), obs]
   by_cases h5 : (500 : Int) < ((raw.getD i []).length : Int)
   ·left; rw [if_pos h5, awake_ok]; rfl
   ·rw [if_neg h5, ck_of (by omega), obs]
    exact ih (i + 1) q (by omega) (by omega) fun j hj => by
     by_cases e : j = i
     ·rw [e]; omega
     ·exact h j (by omega)
 rcases loop raw.length 0 forever (Nat.zero_add _) (by unfold forever; omega) (fun j hj => by omega) with e | ⟨hr, e⟩
 ·exact e
 refine Eq.trans e ?_
 have hRo : okF raw := fun j hj => Nat.le_trans (hr j hj) (by omega)
 obtain ⟨c, hc⟩ := hd7_ex
 obtain ⟨C, hC⟩ := code_ex
 have hg : Gen c (nsF l 12) := nsF_gen hc l (by omega)
 have hgi := hg.itemsLen
 have hw := hg.wid
 unfold m_law17_ShardsRebuilds_j1
 rw [file_ok hc, obs]
 dsimp only
 rw [r17_make hC (datOf c (nsF l 12)) hg.len.2 1 2 3 (itemsOf (nsF l 12)) (by omega) hg.valid, obs]
 have hok : okF (shardsOf C (datOf c (nsF l 12))) := fun j hj => by
  rw [shardsOf_len] at hj; rw [shard_len _ _ hj]; exact hw
 obtain ⟨G, g1, g2, g3⟩ := spoil_loop raw z1 z2 z3 n s0 s1 s2 s3 s4 s5 items (shardsOf C (datOf c (nsF l 12)), 1, 2, 3, ((datOf c (nsF l 12)).length : Int), crcSum ((shardsOf C (datOf c (nsF l 12))).getD 0 []), crcSum ((shardsOf C (datOf c (nsF l 12))).getD 1 []), crcSum ((shardsOf C (datOf c (nsF l 12))).getD 2 []), crcSum ((shardsOf C (datOf c (nsF l 12))).getD 3 []), crcSum ((shardsOf C (datOf c (nsF l 12))).getD 4 []), crcSum ((shardsOf C (datOf c (nsF l 12))).getD 5 []), itemsOf (nsF l 12), 0) spoil 5 0 forever (shardsOf C (datOf c (nsF l 12))) (by omega) (by unfold forever; omega) (shardsOf_len _ _) hok (by omega)
 refine Eq.trans g3 ?_
 unfold m_law17_ShardsRebuilds_j3
 obtain ⟨q, hq⟩ : ∃ q, forever = q + 1 + 1 + 1 := ⟨forever - 3, by unfold forever; omega⟩
 rw [hq]
 unfold m_law17_ShardsRebuilds_l8
 rw [if_pos (by simp only [List.length_cons, List.length_nil]; omega)]
 refine (congrArg (fun o => Option.bind o _) (rfl : idx _ (0 : Int) = some _)).trans ?_
 rw [obs]
 refine (files_both _ (by simp only; omega) raw G 0 (by omega) (by omega) g2 (by omega) hRo _).trans ?_
 unfold m_law17_ShardsRebuilds_l8
 rw [if_pos (by simp only [List.length_cons, List.length_nil]; omega)]
 refine (congrArg (fun o => Option.bind o _) (rfl : idx _ (1 : Int) = some _)).trans ?_
 rw [obs]
 refine (files_both _ (by simp only; omega) raw G 1 (by omega) (by omega) g2 (by omega) hRo _).trans ?_
 unfold m_law17_ShardsRebuilds_l8
 rw [if_neg (by simp only [List.length_cons, List.length_nil]; omega)]
 unfold m_law17_ShardsRebuilds_j7
 rw [awake_ok]; rfl
end Go.Proofs.YthjnhlmfcejhkaaGreat
