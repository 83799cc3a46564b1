/-
  Plain laws on records of needles: what Encode makes Decode takes back, and that alone. Conditions: as each theorem says.
-/
import Derived.Test.YtclhepegfmhmjaaPc
namespace Go.Proofs.Ytclhepegfmhmjaa
set_option linter.unusedVariables false
set_option linter.unusedSimpArgs false

theorem drop_app {α : Type} {a b : List α} {n : Nat} (h : a.length = n) : (a ++ b).drop n = b := by subst h; simp
theorem take_app {α : Type} {a b : List α} {n : Nat} (h : a.length = n) : (a ++ b).take n = a := by subst h; simp
theorem be_congr : ∀ (n : Nat) (v w : BitVec 64), (∀ i, i < 8 * n → v.getLsbD i = w.getLsbD i) → be n v = be n w
  | 0, _, _, _ => rfl
  | n + 1, v, w, h => by
    rw [be_succ, be_succ, be_congr n v w (fun i hi => h i (by omega))]
    congr 1
    apply BitVec.eq_of_getLsbD_eq
    intro t ht
    simp only [BitVec.getLsbD_setWidth, BitVec.getLsbD_ushiftRight, ht, decide_true, Bool.true_and]
    exact h _ (by omega)
theorem be_snoc : ∀ (n : Nat) (v : BitVec 64), be (n + 1) v = be n (v >>> 8) ++ [v.setWidth 8]
  | 0, v => by simp [be]
  | n + 1, v => by
    rw [be_succ, be_snoc n v, be_succ]
    simp only [List.cons_append]
    congr 2
    rw [← BitVec.shiftRight_add]; congr 1; omega
theorem valF_snoc (acc : BitVec 64) (xs : List (BitVec 8)) (b : BitVec 8) : valF acc (xs ++ [b]) = valF acc xs <<< 8 ||| b.setWidth 64 := by simp [valF]
theorem be_val (acc : BitVec 64) (xs : List (BitVec 8)) : xs.length ≤ 8 → be xs.length (valF acc xs) = xs := by
  intro h
  induction n_ : xs.length generalizing xs with
  | zero => rw [List.eq_nil_of_length_eq_zero n_]; rfl
  | succ n ih =>
    have hne : xs ≠ [] := by intro e; subst e; simp at n_
    obtain ⟨ys, y, rfl⟩ : ∃ ys y, xs = ys ++ [y] := ⟨xs.dropLast, xs.getLast hne, (List.dropLast_concat_getLast hne).symm⟩
    simp only [List.length_append, List.length_singleton] at n_ h
    have hn : ys.length = n := by omega
    rw [valF_snoc, be_snoc]
    have e1 : be n ((valF acc ys <<< 8 ||| y.setWidth 64) >>> 8) = be n (valF acc ys) := by
      apply be_congr
      intro i hi
      have h1 : ¬ (8 + i < 8) := by omega
      have h2 : 8 + i < 64 := by omega
      have h3 : y.getLsbD (8 + i) = false := BitVec.getLsbD_of_ge _ _ (by omega)
      simp only [BitVec.getLsbD_ushiftRight, BitVec.getLsbD_or, BitVec.getLsbD_shiftLeft, BitVec.getLsbD_setWidth, h2, h3, decide_true, Bool.true_and, Bool.and_false, Bool.or_false, show decide (8 + i < 8) = false by rw [decide_eq_false_iff_not]; omega, Bool.not_false]
      congr 1; omega
    rw [e1, ih ys (by omega) hn]
    congr 2
    apply BitVec.eq_of_getLsbD_eq
    intro t ht
    have h2 : t < 64 := by omega
    simp [BitVec.getLsbD_or, BitVec.getLsbD_shiftLeft, ht, h2]
theorem val_be4 (v : BitVec 64) (h : v.toNat < 2 ^ 32) : val (be 4 v) = v := by
  apply BitVec.eq_of_getLsbD_eq
  intro i hi
  rw [val, valF_bit v 4 0#64 i hi]
  split
  · rfl
  · rw [BitVec.getLsbD_zero, eq_comm]
    rw [BitVec.getLsbD, Nat.testBit_lt_two_pow]
    exact Nat.lt_of_lt_of_le h (Nat.pow_le_pow_right (by omega) (by omega))

theorem drop_two {α : Type} {l r s : List α} {a b n : Nat} (h1 : l.drop a = r) (h2 : r.drop b = s) (e : a + b = n) : l.drop n = s := by subst e; rw [← List.drop_drop, h1, h2]
def npad (n : Nat) : List (BitVec 8) := List.replicate (nsize n - (24 + n)) 0#8
theorem ofInt_small (n : Nat) (h : n ≤ 4096) : (BitVec.ofInt 64 (n : Int)).toNat = n := by rw [BitVec.ofInt_natCast, BitVec.toNat_ofNat]; exact Nat.mod_eq_of_lt (by omega)
theorem be_32 (c : BitVec 32) : (val (be 4 (c.setWidth 64))).setWidth 32 = c := by
  rw [val_be4 _ (by have := c.isLt; rw [BitVec.toNat_setWidth]; omega)]
  apply BitVec.eq_of_getLsbD_eq
  intro i hi
  simp [hi, show i < 64 by omega]

/-- a valid needle's record, whatever follows, is read as that needle -/
theorem ndec_enc (k : BitVec 64) (c : BitVec 32) (d : Bool) (xs tail : List (BitVec 8)) (hv : nvalid d xs = true) : ndec (nenc k c d xs ++ tail) = (k, c, d, xs, ((nsize xs.length : Nat) : Int), 0) := by
  have hn : xs.length ≤ 4096 := by simp [nvalid] at hv; exact hv.1
  have hd : d = true → xs.length = 0 := by intro h; subst h; simp [nvalid] at hv; rw [hv.2]; rfl
  have hs := nsize_lo xs.length
  have hL : (nenc k c d xs ++ tail).length = nsize xs.length + tail.length := by rw [List.length_append, nenc_length]
  let b2 : BitVec 8 := if d then 1#8 else 0#8
  have e0 : nenc k c d xs ++ tail = [78#8, 165#8, b2, 0#8] ++ (be 4 (c.setWidth 64) ++ (be 8 k ++ (be 4 (BitVec.ofInt 64 (xs.length : Int)) ++ (xs ++ (le4 (crcSum (nbody k c d xs)) ++ (npad xs.length ++ tail)))))) := by
    simp only [nenc, nbody, nhead, npad, List.append_assoc, b2]
  have d4 : (nenc k c d xs ++ tail).drop 4 = be 4 (c.setWidth 64) ++ (be 8 k ++ (be 4 (BitVec.ofInt 64 (xs.length : Int)) ++ (xs ++ (le4 (crcSum (nbody k c d xs)) ++ (npad xs.length ++ tail))))) := by rw [e0]; exact drop_app rfl
  have d8 : (nenc k c d xs ++ tail).drop 8 = be 8 k ++ (be 4 (BitVec.ofInt 64 (xs.length : Int)) ++ (xs ++ (le4 (crcSum (nbody k c d xs)) ++ (npad xs.length ++ tail)))) := by
    exact drop_two d4 (drop_app (be_length _ _)) rfl
  have d16 : (nenc k c d xs ++ tail).drop 16 = be 4 (BitVec.ofInt 64 (xs.length : Int)) ++ (xs ++ (le4 (crcSum (nbody k c d xs)) ++ (npad xs.length ++ tail))) := by
    exact drop_two d8 (drop_app (be_length _ _)) rfl
  have d20 : (nenc k c d xs ++ tail).drop 20 = xs ++ (le4 (crcSum (nbody k c d xs)) ++ (npad xs.length ++ tail)) := by
    exact drop_two d16 (drop_app (be_length _ _)) rfl
  have dn : (nenc k c d xs ++ tail).drop (20 + xs.length) = le4 (crcSum (nbody k c d xs)) ++ (npad xs.length ++ tail) := by
    exact drop_two d20 (drop_app rfl) rfl
  have dn4 : (nenc k c d xs ++ tail).drop (24 + xs.length) = npad xs.length ++ tail := by
    exact drop_two dn (drop_app (le4_length _)) (by omega)
  have tn : (nenc k c d xs ++ tail).take (20 + xs.length) = nbody k c d xs := by
    rw [nenc, List.append_assoc, List.append_assoc]; exact take_app (nbody_length _ _ _ _)
  have hl : nlen (nenc k c d xs ++ tail) = BitVec.ofInt 64 (xs.length : Int) := by
    rw [nlen, d16, take_app (be_length _ _), val_be4 _ (by rw [ofInt_small _ hn]; omega)]
  have hlN : (nlen (nenc k c d xs ++ tail)).toNat = xs.length := by rw [hl, ofInt_small _ hn]
  have g0 : bget (nenc k c d xs ++ tail) 0 = 78#8 := by rw [e0]; rfl
  have g1 : bget (nenc k c d xs ++ tail) 1 = 165#8 := by rw [e0]; rfl
  have g2 : bget (nenc k c d xs ++ tail) 2 = b2 := by rw [e0]; rfl
  have g3 : bget (nenc k c d xs ++ tail) 3 = 0#8 := by rw [e0]; rfl
  have hcond : bget (nenc k c d xs ++ tail) 0 = 78#8 ∧ bget (nenc k c d xs ++ tail) 1 = 165#8 ∧ ¬ 1#8 < bget (nenc k c d xs ++ tail) 2 ∧ bget (nenc k c d xs ++ tail) 3 = 0#8 ∧ ¬ 4096#64 < nlen (nenc k c d xs ++ tail) ∧ (bget (nenc k c d xs ++ tail) 2 = 1#8 → ¬ 0#64 < nlen (nenc k c d xs ++ tail)) := by
    refine ⟨g0, g1, by rw [g2]; cases d <;> decide, g3, ?_, fun h => ?_⟩
    · show ¬ (4096#64).toNat < _; rw [hlN]; simp; omega
    · show ¬ (0#64).toNat < _; rw [hlN]
      rw [g2] at h
      have : d = true := by cases d <;> first | rfl | exact absurd h (by decide)
      rw [hd this]; simp
  rw [ndec, if_neg (by rw [hL]; omega), if_pos hcond, hlN, ncore, if_neg (by rw [hL]; omega), tn, dn, take_app (le4_length _), if_pos rfl, dn4, take_app (by simp [npad]), if_pos (by simp [npad]), d8, take_app (be_length _ _), val_be8, d4, take_app (be_length _ _), be_32, d20, take_app rfl, g2]
  cases d <;> rfl

theorem take_split {α : Type} (xs : List α) (a b : Nat) : xs.take (a + b) = xs.take a ++ (xs.drop a).take b := List.take_add
/-- what is read as a needle is that needle's record -/
theorem ndec_uniq (b : List (BitVec 8)) (h : (ndec b).2.2.2.2.2 = 0) : ∃ k c d xs, ndec b = (k, c, d, xs, ((nsize xs.length : Nat) : Int), 0) ∧ nvalid d xs = true ∧ nsize xs.length ≤ b.length ∧ nenc k c d xs = b.take (nsize xs.length) ∧ xs.length = (nlen b).toNat := by
  unfold ndec at h ⊢
  split at h
  · exact absurd h (by decide)
  · rename_i h20
    split at h
    · rename_i hc
      obtain ⟨c0, c1, c2, c3, c4, c5⟩ := hc
      rw [if_neg h20, if_pos ⟨c0, c1, c2, c3, c4, c5⟩]
      unfold ncore at h ⊢
      obtain ⟨_, hN⟩ := small_toInt _ c4
      have hs := nsize_lo (nlen b).toNat
      generalize hgN : (nlen b).toNat = N at *
      split at h
      · exact absurd h (by decide)
      · rename_i hlen
        split at h
        · rename_i hcrc
          split at h
          · rename_i hz
            rw [if_neg hlen, if_pos hcrc, if_pos hz]
            have hxl : ((b.drop 20).take N).length = N := by rw [List.length_take, List.length_drop]; omega
            refine ⟨_, _, _, _, by rw [hxl], ?_, by rw [hxl]; omega, ?_, hxl⟩
            · rw [nvalid, hxl]
              by_cases h2 : bget b 2 = 1#8
              · have h0 := c5 h2
                have : ¬ (0#64).toNat < (nlen b).toNat := h0
                simp at this
                simp [h2]; omega
              · have : (bget b 2 == 1#8) = false := beq_eq_false_iff_ne.2 h2
                simp [this]; omega
            · rw [hxl]
              have hdig : (if (bget b 2 == 1#8) = true then 1#8 else 0#8) = bget b 2 := by
                by_cases h2 : bget b 2 = 1#8
                · simp [h2]
                · have h3 : ¬ (1#8).toNat < (bget b 2).toNat := c2
                  have h4 : (bget b 2).toNat ≠ 1 := fun e => h2 (BitVec.eq_of_toNat_eq (by simpa using e))
                  have h5 : bget b 2 = 0#8 := BitVec.eq_of_toNat_eq (by simp at h3 ⊢; omega)
                  simp [h5]
              have hb4 : be 4 (((val ((b.drop 4).take 4)).setWidth 32).setWidth 64) = (b.drop 4).take 4 := by
                have l4 : ((b.drop 4).take 4).length = 4 := by rw [List.length_take, List.length_drop]; omega
                have e1 : be 4 (((val ((b.drop 4).take 4)).setWidth 32).setWidth 64) = be 4 (val ((b.drop 4).take 4)) := by
                  apply be_congr; intro i hi; simp [show i < 32 by omega, show i < 64 by omega]
                have e2 := be_val 0#64 ((b.drop 4).take 4) (by omega)
                rw [l4] at e2
                rw [e1]; exact e2
              have hb8 : be 8 (val ((b.drop 8).take 8)) = (b.drop 8).take 8 := by
                have l8 : ((b.drop 8).take 8).length = 8 := by rw [List.length_take, List.length_drop]; omega
                have e2 := be_val 0#64 ((b.drop 8).take 8) (by omega)
                rw [l8] at e2; exact e2
              have hbn : be 4 (BitVec.ofInt 64 (N : Int)) = (b.drop 16).take 4 := by
                have l4 : ((b.drop 16).take 4).length = 4 := by rw [List.length_take, List.length_drop]; omega
                have e2 := be_val 0#64 ((b.drop 16).take 4) (by omega)
                rw [l4] at e2
                have e3 : BitVec.ofInt 64 (N : Int) = nlen b := by
                  apply BitVec.eq_of_toNat_eq; rw [ofInt_small _ hN, hgN]
                rw [e3]; exact e2
              have hfirst : [78#8, 165#8, bget b 2, 0#8] = b.take 4 := by
                have q : ∀ i, i < 4 → b.drop i = bget b i :: b.drop (i + 1) := fun i hi => drop_getD b i 0#8 (by omega)
                have : b = bget b 0 :: bget b 1 :: bget b 2 :: bget b 3 :: b.drop 4 := by
                  have := q 0 (by omega); rw [q 1 (by omega), q 2 (by omega), q 3 (by omega)] at this; simpa using this
                rw [this, ← c0, ← c1, ← c3]; rfl
              have hbody : nbody (val ((b.drop 8).take 8)) ((val ((b.drop 4).take 4)).setWidth 32) (bget b 2 == 1#8) ((b.drop 20).take N) = b.take (20 + N) := by
                rw [nbody, nhead, hxl, hdig, hb4, hb8, hbn, hfirst, ← take_split b 4 4, ← take_split b 8 8, ← take_split b 16 4, ← take_split b 20 N]
              have hpad : List.replicate (nsize N - (24 + N)) 0#8 = (b.drop (24 + N)).take (nsize N - (24 + N)) := by
                have hl : ((b.drop (24 + N)).take (nsize N - (24 + N))).length = nsize N - (24 + N) := by rw [List.length_take, List.length_drop]; omega
                rw [List.all_eq_true] at hz
                rw [eq_comm, List.eq_replicate_iff]
                exact ⟨hl, fun x hx => by simpa using hz x hx⟩
              rw [nenc, hbody, hcrc, hxl, hpad, ← take_split b (20 + N) 4, show 20 + N + 4 = 24 + N by omega, ← take_split b (24 + N), show 24 + N + (nsize N - (24 + N)) = nsize N by omega]
          · exact absurd h (by decide)
        · exact absurd h (by decide)
    · exact absurd h (by decide)
/-- a record without its end is too short -/
theorem ndec_short (k : BitVec 64) (c : BitVec 32) (d : Bool) (xs : List (BitVec 8)) (hv : nvalid d xs = true) (i : Nat) (hi : i < nsize xs.length) : (ndec ((nenc k c d xs).take i)).2.2.2.2.2 = 4 := by
  have hl : ((nenc k c d xs).take i).length = i := by rw [List.length_take, nenc_length]; omega
  by_cases h : i < 20
  · rw [ndec, if_pos (by omega)]; rfl
  · have hfull := ndec_enc k c d xs [] hv
    rw [List.append_nil] at hfull
    have hg : ∀ j, j < 20 → bget ((nenc k c d xs).take i) j = bget (nenc k c d xs) j := by
      intro j hj; simp only [bget, List.getD_eq_getElem?_getD]; rw [List.getElem?_take_of_lt (by omega)]
    have hn : nlen ((nenc k c d xs).take i) = nlen (nenc k c d xs) := by
      simp only [nlen]; congr 1; rw [List.drop_take, List.take_take, Nat.min_eq_left (by omega)]
    have hz : (ndec (nenc k c d xs)).2.2.2.2.2 = 0 := by rw [hfull]
    obtain ⟨_, _, _, ys, h1, _, _, _, h2⟩ := ndec_uniq _ hz
    rw [hfull] at h1
    have hys : ys = xs := by injection h1 with _ h1; injection h1 with _ h1; injection h1 with _ h1; injection h1 with h1 _; exact h1.symm
    subst hys
    unfold ndec at hz
    split at hz
    · exact absurd hz (by decide)
    · split at hz
      · rename_i hc
        rw [ndec, if_neg (by omega), hg 0 (by omega), hg 1 (by omega), hg 2 (by omega), hg 3 (by omega), hn, if_pos hc, ncore, ← h2, if_pos (by omega)]; rfl
      · exact absurd hz (by decide)
/-- a record in which some bits in a row are turned, the length apart, is not read -/
theorem ndec_burst (k : BitVec 64) (c : BitVec 32) (d : Bool) (xs : List (BitVec 8)) (hv : nvalid d xs = true) (p m : Nat) (flip : BitVec 32) (hm : p + m ≤ 8 * (nenc k c d xs).length) (hne : burstTo (nenc k c d xs) p flip m ≠ nenc k c d xs)
    (hlen : ((nenc k c d xs).drop 16).take 4 = ((burstTo (nenc k c d xs) p flip m).drop 16).take 4) : (ndec (burstTo (nenc k c d xs) p flip m)).2.2.2.2.2 ≠ 0 := by
  intro h
  obtain ⟨k', c', d', ys, _, hv', hl', he, hny⟩ := ndec_uniq _ h
  have hfull := ndec_enc k c d xs [] hv
  rw [List.append_nil] at hfull
  obtain ⟨_, _, _, zs, h1, _, _, _, h2⟩ := ndec_uniq (nenc k c d xs) (by rw [hfull])
  rw [hfull] at h1
  have hzs : zs = xs := by injection h1 with _ h1; injection h1 with _ h1; injection h1 with _ h1; injection h1 with h1 _; exact h1.symm
  subst hzs
  have hll : ys.length = zs.length := by rw [hny, h2, nlen, nlen, hlen]
  have hbl : (burstTo (nenc k c d zs) p flip m).length = nsize zs.length := by rw [burstTo_length, nenc_length]
  rw [hll, List.take_of_length_le (by omega)] at he
  apply hne
  rw [← crcRaw_burst (~~~0#32) _ _ _ _ hm, ← he]
  have := nsize_lo zs.length
  rw [nenc, nenc, crcRaw_append, crcRaw_append (~~~0#32) (nbody k c d zs ++ _), hll, crcRaw_code (nbody k' c' d' ys) (nbody k c d zs)]
end Go.Proofs.Ytclhepegfmhmjaa
