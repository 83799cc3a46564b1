/-
  Plain laws of the models of the statements on needles: for every input they give true. Conditions: as each theorem says.
-/
import Derived.Test.YtclhepegfmhmjaaMdc
import Derived.Test.YtclhepegfmhmjaaPd
namespace Go.Proofs.Ytclhepegfmhmjaa
set_option linter.unusedVariables false
set_option linter.unusedSimpArgs false

theorem law06_awake_eq : m_law06_awake = some true := by decide +kernel
theorem law06_cut_eq (k : BitVec 64) (c : BitVec 32) (d : Bool) (xs : List (BitVec 8)) : m_law06_cut k c d xs = some (k, c, d, xs.take 6000) := by
  unfold m_law06_cut
  by_cases h : (6000 : Int) < (xs.length : Int)
  · rw [if_pos h, show (0 : Int) = ((0 : Nat) : Int) from rfl, show (6000 : Int) = ((6000 : Nat) : Int) from rfl, slc_nat _ _ _ (by omega), bs]; simp
  · rw [if_neg h, List.take_of_length_le (by omega)]
theorem ok_NeedleSizes (z : Int) (k : BitVec 64) (c : BitVec 32) (d : Bool) (xs : List (BitVec 8)) : m_law06_NeedleSizes z k c d xs = some true := by
  simp only [m_law06_NeedleSizes, needle_Size_eq, r06_Size_eq, needle_Valid_eq, r06_Valid_eq, bs, if_pos, law06_awake_eq]
theorem enc_j0_law (x : (BitVec 64) × (BitVec 32) × Bool × (List (BitVec 8))) (ys : List (BitVec 8)) : m_law06_NeedleEncodes_j0 x ys = some true := by
  simp only [m_law06_NeedleEncodes_j0, needle_Encode_eq, r06_Encode_eq, bs, if_pos, law06_awake_eq]
theorem ok_NeedleEncodes (k : BitVec 64) (c : BitVec 32) (d : Bool) (xs : List (BitVec 8)) (l : Bool) : m_law06_NeedleEncodes k c d xs l = some true := by
  rw [m_law06_NeedleEncodes, law06_cut_eq, bs]
  cases l
  · rw [if_neg (by decide), enc_j0_law]
  · rw [if_pos rfl, mks_of (by omega), bs, apd1_of (by rw [List.length_replicate, List.length_take]; omega), bs, enc_j0_law]

/-- '(a%n + n) % n' -/
def wi (a : Int) (n : Nat) : Nat := ((a.tmod n + n) % n).toNat
theorem wi_lt (a : Int) (n : Nat) (hn : 0 < n) : wi a n < n := by
  have h1 := Int.emod_nonneg (a.tmod n + n) (b := (n : Int)) (by omega)
  have h2 := Int.emod_lt_of_pos (a.tmod n + n) (b := (n : Int)) (by omega)
  unfold wi; omega
theorem wi_chain {ρ : Type} (a : Int) (n : Nat) (hn : 0 < n) (hb : n ≤ 4611686018427387904) (f : Int → Option ρ) :
    (Option.bind (rmi a (n : Int)) fun x => Option.bind (ck (x + (n : Int))) fun y => Option.bind (rmi y (n : Int)) f) = f ((wi a n : Nat) : Int) := by
  have h1 := Int.tmod_lt_of_pos a (show (0 : Int) < n by omega)
  have h2 := Int.lt_tmod_of_pos a (show (0 : Int) < n by omega)
  have h3 := Int.emod_nonneg (a.tmod n + n) (b := (n : Int)) (by omega)
  rw [rmi, if_neg (by omega), bs, ck_of (by omega), bs, rmi_of (by omega) (by omega), bs]
  congr 1; unfold wi; omega
theorem r06_Same_eq (k : BitVec 64) (c : BitVec 32) (d : Bool) (xs : List (BitVec 8)) : m_r06_Same k c d xs k c d xs = some true := by
  simp [m_r06_Same]
theorem dec_l3_law (a b c d e : List (BitVec 8)) (h : ∀ z ∈ [a, b, c, d, e], z.length ≤ 9223372036854775806) (n : Nat) : ∀ (i : Nat), i ≤ 5 → 5 - i < n → m_law06_NeedleDecodes_l3 a b c d e n (i : Int) = some true := by
  induction n with
  | zero => intro i _ h; omega
  | succ n ih =>
    intro i hi hn
    rw [m_law06_NeedleDecodes_l3]
    by_cases hlt : i < 5
    · have hm : ([a, b, c, d, e].getD i []) ∈ [a, b, c, d, e] := by
        rw [List.getD_eq_getElem?_getD, List.getElem?_eq_getElem (by simpa using hlt)]; exact List.getElem_mem _
      rw [if_pos (by simp; omega), idx_getD _ i [] (by simpa using hlt), bs, needle_Decode_eq _ (h _ hm), bs, r06_Decode_eq _ (h _ hm), bs, if_pos rfl, if_pos rfl, r06_Same_eq, bs, if_pos rfl,
        show ((i : Int) + 1) = ((i + 1 : Nat) : Int) by omega, ckn _ (by omega), bs, ih _ (by omega) (by omega)]
    · rw [if_neg (by simp; omega), m_law06_NeedleDecodes_j2, law06_awake_eq]; rfl
theorem dec_j1_law (a : Int) (xs : List (BitVec 8)) (v : BitVec 8) (m : Int) (b : List (BitVec 8)) (hx : xs.length ≤ 6000) (hb : 0 < b.length ∧ b.length ≤ 100000) : m_law06_NeedleDecodes_j1 a xs v m b = some true := by
  have hw := wi_lt a b.length hb.1
  have hw2 := wi_lt m b.length hb.1
  rw [m_law06_NeedleDecodes_j1, apd1_of (by simp; omega), bs, List.nil_append, wi_chain a b.length hb.1 (by omega), idx_getD b _ 0 hw, bs, upd_of (by omega), bs, wi_chain m b.length hb.1 (by omega),
    show (0 : Int) = ((0 : Nat) : Int) from rfl, slc_nat _ _ _ (by omega), bs, bs, apd1_of (by omega), bs]
  refine dec_l3_law _ _ _ _ _ ?_ forever 0 (by omega) (by unfold forever; omega)
  intro z hz
  simp only [List.mem_cons, List.not_mem_nil, or_false] at hz
  rcases hz with rfl | rfl | rfl | rfl | rfl <;> first | omega | (simp only [List.length_set, List.length_take, List.length_append, List.length_drop]; omega)
theorem nencR_len (k : BitVec 64) (c : BitVec 32) (d : Bool) (xs : List (BitVec 8)) : (nencR k c d xs).1.length ≤ 4127 := by
  unfold nencR
  split
  · simp
  · split
    · rw [nenc_length]; have := nsize_lo xs.length; omega
    · simp
theorem nencR_ok {k : BitVec 64} {c : BitVec 32} {d : Bool} {xs : List (BitVec 8)} (h : (nencR k c d xs).2 = 0) : nvalid d xs = true ∧ nencR k c d xs = (nenc k c d xs, 0) := by
  unfold nencR at h ⊢
  split at h
  · cases h
  · split at h
    · rename_i h1 h2; exact ⟨h2, by rw [if_neg h1, if_pos h2]⟩
    · cases h
theorem nencR_bad {k : BitVec 64} {c : BitVec 32} {d : Bool} {xs : List (BitVec 8)} (h : ¬ nvalid d xs = true) : (nencR k c d xs).1 = [] ∧ (nencR k c d xs).2 ≠ 0 := by
  unfold nencR
  split
  · exact ⟨rfl, by decide⟩
  · first | exact ⟨rfl, by decide⟩ | (rw [if_neg h]; exact ⟨rfl, by decide⟩)
theorem nencR_val {k : BitVec 64} {c : BitVec 32} {d : Bool} {xs : List (BitVec 8)} (h : nvalid d xs = true) : nencR k c d xs = (nenc k c d xs, 0) := by
  have : xs.length ≤ 4096 := by simp [nvalid] at h; exact h.1
  unfold nencR
  rw [if_neg (by omega), if_pos h]
theorem dec_j0_law (k : BitVec 64) (c : BitVec 32) (d : Bool) (ys : List (BitVec 8)) (a : Int) (xs : List (BitVec 8)) (v : BitVec 8) (m : Int) (hx : xs.length ≤ 6000) : m_law06_NeedleDecodes_j0 k c d ys a xs v m = some true := by
  rw [m_law06_NeedleDecodes_j0, law06_cut_eq, bs, r06_Encode_eq, bs]
  dsimp only
  have hl := nencR_len k c d (ys.take 6000)
  by_cases h : (nencR k c d (ys.take 6000)).2 = 0
  · rw [if_pos h]
    refine dec_j1_law _ _ _ _ _ hx ⟨?_, by omega⟩
    rw [(nencR_ok h).2, nenc_length]; have := nsize_lo (ys.take 6000).length; omega
  · rw [if_neg h]; exact dec_j1_law _ _ _ _ _ hx (by simp)
theorem ok_NeedleDecodes (xs : List (BitVec 8)) (k : BitVec 64) (c : BitVec 32) (d : Bool) (ys : List (BitVec 8)) (a : Int) (v : BitVec 8) (m : Int) : m_law06_NeedleDecodes xs k c d ys a v m = some true := by
  unfold m_law06_NeedleDecodes
  by_cases h : (6000 : Int) < (xs.length : Int)
  · rw [if_pos h, show (0 : Int) = ((0 : Nat) : Int) from rfl, show (6000 : Int) = ((6000 : Nat) : Int) from rfl, slc_nat _ _ _ (by omega), bs]
    exact dec_j0_law _ _ _ _ _ _ _ _ (by simp; omega)
  · rw [if_neg h]; exact dec_j0_law _ _ _ _ _ _ _ _ (by omega)
theorem ok_NeedleBack (k : BitVec 64) (c : BitVec 32) (d : Bool) (xs tail : List (BitVec 8)) (ht : tail.length ≤ 140737488351232) : m_law06_NeedleBack k c d xs tail = some true := by
  rw [m_law06_NeedleBack, law06_cut_eq, bs, needle_Encode_eq, bs, needle_Valid_eq, bs]
  dsimp only
  have hs := nsize_lo (xs.take 6000).length
  by_cases hv : nvalid d (xs.take 6000) = true
  · have hn : (xs.take 6000).length ≤ 4096 := by simp only [nvalid, Bool.and_eq_true, decide_eq_true_eq] at hv; exact hv.1
    have hd := ndec_enc k c d (xs.take 6000) tail hv
    have hl : (nenc k c d (xs.take 6000)).length = nsize (xs.take 6000).length := nenc_length _ _ _ _
    rw [if_pos hv, nencR_val hv]
    dsimp only
    rw [apd1_of (by simp only [List.length_nil]; omega), bs, List.nil_append, apd1_of (by omega), bs, needle_Decode_eq _ (by rw [List.length_append]; omega), bs, hd]
    dsimp only
    rw [if_pos rfl, if_pos rfl, if_pos (by rw [hl]), needle_Size_eq, bs, sizeZ_nat _ hn, if_pos rfl, rmi_of (by omega) (by omega), bs, if_pos (by omega), if_pos rfl, if_pos rfl, if_pos rfl, if_pos rfl, law06_awake_eq]; rfl
  · obtain ⟨h1, h2⟩ := nencR_bad (k := k) (c := c) hv
    rw [if_neg hv, if_neg h2, h1]; simp [law06_awake_eq]
theorem uni_l3_law (a b : List (BitVec 8)) (h : ∀ z ∈ [a, b], z.length ≤ 9223372036854775806) (n : Nat) : ∀ (i : Nat), i ≤ 2 → 2 - i < n → m_law06_NeedleUnique_l3 a b n (i : Int) = some true := by
  induction n with
  | zero => intro i _ h; omega
  | succ n ih =>
    intro i hi hn
    rw [m_law06_NeedleUnique_l3]
    by_cases hlt : i < 2
    · have hm : ([a, b].getD i []) ∈ [a, b] := by
        rw [List.getD_eq_getElem?_getD, List.getElem?_eq_getElem (by simpa using hlt)]; exact List.getElem_mem _
      have hz := h _ hm
      rw [if_pos (by simp; omega), idx_getD _ i [] (by simpa using hlt), bs]
      generalize [a, b].getD i [] = z at hz
      rw [needle_Decode_eq _ hz, bs]
      by_cases he : (ndec z).2.2.2.2.2 = 0
      · obtain ⟨k, c, d, xs, h1, h2, h3, h4, _⟩ := ndec_uniq z he
        rw [if_pos he, h1]
        dsimp only
        rw [needle_Encode_eq, bs, nencR_val h2]
        dsimp only
        rw [if_pos rfl, if_neg (by omega), show (0 : Int) = ((0 : Nat) : Int) from rfl, slc_nat _ _ _ (by omega), bs, List.drop_zero, Nat.sub_zero, if_pos h4,
          show ((i : Int) + 1) = ((i + 1 : Nat) : Int) by omega, ckn _ (by omega), bs, ih _ (by omega) (by omega)]
      · rw [if_neg he, show ((i : Int) + 1) = ((i + 1 : Nat) : Int) by omega, ckn _ (by omega), bs, ih _ (by omega) (by omega)]
    · rw [if_neg (by simp; omega), m_law06_NeedleUnique_j2, law06_awake_eq]; rfl
theorem uni_j0_law (k : BitVec 64) (c : BitVec 32) (d : Bool) (ys : List (BitVec 8)) (a : Int) (xs : List (BitVec 8)) (v : BitVec 8) (hx : xs.length ≤ 6000) : m_law06_NeedleUnique_j0 k c d ys a xs v = some true := by
  rw [m_law06_NeedleUnique_j0, law06_cut_eq, bs, needle_Encode_eq, bs]
  dsimp only
  have hl := nencR_len k c d (ys.take 6000)
  have fin : ∀ b : List (BitVec 8), b.length ≤ 100000 → m_law06_NeedleUnique_j1 xs b = some true := by
    intro b hb
    refine uni_l3_law xs b ?_ forever 0 (by omega) (by unfold forever; omega)
    intro z hz
    simp only [List.mem_cons, List.not_mem_nil, or_false] at hz
    rcases hz with rfl | rfl <;> omega
  by_cases h : (nencR k c d (ys.take 6000)).2 = 0
  · rw [if_pos h]
    by_cases h0 : 0 < (nencR k c d (ys.take 6000)).1.length
    · have hw := wi_lt a _ h0
      rw [if_pos (by omega), apd1_of (by simp only [List.length_nil]; omega), bs, List.nil_append, wi_chain a _ h0 (by omega), idx_getD _ _ 0 hw, bs, upd_of (by omega), bs]
      exact fin _ (by rw [List.length_set]; omega)
    · rw [if_neg (by omega)]; exact fin _ (by omega)
  · rw [if_neg h]; exact fin _ (by omega)
theorem ok_NeedleUnique (xs : List (BitVec 8)) (k : BitVec 64) (c : BitVec 32) (d : Bool) (ys : List (BitVec 8)) (a : Int) (v : BitVec 8) : m_law06_NeedleUnique xs k c d ys a v = some true := by
  unfold m_law06_NeedleUnique
  by_cases h : (6000 : Int) < (xs.length : Int)
  · rw [if_pos h, show (0 : Int) = ((0 : Nat) : Int) from rfl, show (6000 : Int) = ((6000 : Nat) : Int) from rfl, slc_nat _ _ _ (by omega), bs]
    exact uni_j0_law _ _ _ _ _ _ _ (by simp; omega)
  · rw [if_neg h]; exact uni_j0_law _ _ _ _ _ _ _ (by omega)
theorem ok_NeedleShort (k : BitVec 64) (c : BitVec 32) (d : Bool) (xs : List (BitVec 8)) (a : Int) : m_law06_NeedleShort k c d xs a = some true := by
  rw [m_law06_NeedleShort, law06_cut_eq, bs, needle_Encode_eq, bs]
  dsimp only
  by_cases h : (nencR k c d (xs.take 6000)).2 = 0
  · obtain ⟨hv, he⟩ := nencR_ok h
    have hs := nsize_lo (xs.take 6000).length
    have hl : (nenc k c d (xs.take 6000)).length = nsize (xs.take 6000).length := nenc_length _ _ _ _
    have hl2 := nencR_len k c d (xs.take 6000)
    rw [he] at hl2 ⊢
    dsimp only at hl2 ⊢
    have hw := wi_lt a (nenc k c d (xs.take 6000)).length (by omega)
    rw [if_pos rfl, if_neg (by omega), m_law06_NeedleShort_j0]
    dsimp only
    rw [wi_chain a _ (by omega) (by omega), show (0 : Int) = ((0 : Nat) : Int) from rfl, slc_nat _ _ _ (by omega), bs, List.drop_zero, Nat.sub_zero, needle_Decode_eq _ (by rw [List.length_take]; omega), bs,
      if_pos (ndec_short k c d _ hv _ (by omega)), law06_awake_eq]; rfl
  · rw [if_neg h, if_neg h, law06_awake_eq]; rfl
theorem bur_l2_law (flip : BitVec 32) (b : List (BitVec 8)) (k : Nat) (hb : b.length ≤ 100000) (K : List (BitVec 8) → Option Bool) (e : Int) (n : Nat) (hK : ∀ ys, m_law06_NeedleBursts_j1 (b, e) ys = K ys) :
    ∀ (i : Nat) (q : Nat), i ≤ 32 → k + i ≤ 8 * b.length → 32 - i < q → q ≤ n → ∃ m, k + m ≤ 8 * b.length ∧ m_law06_NeedleBursts_l2 flip (b, e) ((8 * b.length : Nat) : Int) (k : Int) q (burstTo b k flip i) (i : Int) = K (burstTo b k flip m) := by
  intro i q
  induction q generalizing i with
  | zero => intro _ _ h; omega
  | succ q ih =>
    intro hi hk hq hn
    rw [m_law06_NeedleBursts_l2]
    by_cases h : i < 32
    · rw [if_pos (by omega), show ((k : Int) + (i : Int)) = ((k + i : Nat) : Int) by omega, ckn _ (by omega), bs]
      by_cases h2 : k + i < 8 * b.length
      · rw [if_pos (by omega), m_law06_NeedleBursts_j3, show ((k : Int) + (i : Int)) = ((k + i : Nat) : Int) by omega, ckn _ (by omega), bs, dvi_of (by omega) (by omega), bs]
        have e8 : ((k + i : Nat) : Int) / 8 = (((k + i) / 8 : Nat) : Int) := by omega
        have hlt : (k + i) / 8 < (burstTo b k flip i).length := by rw [burstTo_length]; omega
        rw [e8, idx_getD _ _ 0 hlt, bs, bs, rmi_of (by omega) (by omega), bs, bs, upd_of (by omega), bs, show ((i : Int) + 1) = ((i + 1 : Nat) : Int) by omega, ckn _ (by omega), bs]
        obtain ⟨m, h3, h4⟩ := ih (i + 1) (by omega) (by omega) (by omega) (by omega)
        refine ⟨m, h3, ?_⟩
        rw [← h4]
        congr 1
        rw [burstTo]
        have e1 : (BitVec.ofInt 64 (i : Int)).toNat = i := by rw [BitVec.ofInt_natCast, BitVec.toNat_ofNat]; exact Nat.mod_eq_of_lt (by omega)
        have e2 : (BitVec.ofInt 64 (((k + i : Nat) : Int) % 8)).toNat = (k + i) % 8 := by
          rw [show ((k + i : Nat) : Int) % 8 = (((k + i) % 8 : Nat) : Int) by omega, BitVec.ofInt_natCast, BitVec.toNat_ofNat]; exact Nat.mod_eq_of_lt (by omega)
        rw [e1, e2, Int.toNat_natCast]
      · rw [if_neg (by omega), hK]; exact ⟨i, hk, rfl⟩
    · rw [if_neg (by omega), hK]; exact ⟨i, hk, rfl⟩
theorem ok_NeedleBursts (k : BitVec 64) (c : BitVec 32) (d : Bool) (xs : List (BitVec 8)) (a : Int) (flip : BitVec 32) : m_law06_NeedleBursts k c d xs a flip = some true := by
  rw [m_law06_NeedleBursts, law06_cut_eq, bs, needle_Encode_eq, bs]
  dsimp only
  by_cases h : (nencR k c d (xs.take 6000)).2 = 0
  · obtain ⟨hv, he⟩ := nencR_ok h
    have hs := nsize_lo (xs.take 6000).length
    have hl : (nenc k c d (xs.take 6000)).length = nsize (xs.take 6000).length := nenc_length _ _ _ _
    have hl2 := nencR_len k c d (xs.take 6000)
    rw [he] at hl2 ⊢
    dsimp only at hl2 ⊢
    rw [if_pos rfl, if_neg (by omega), m_law06_NeedleBursts_j0]
    dsimp only
    rw [show ((8 : Int) * ((nenc k c d (xs.take 6000)).length : Int)) = ((8 * (nenc k c d (xs.take 6000)).length : Nat) : Int) by omega, ckn _ (by omega), bs]
    have hw := wi_lt a (8 * (nenc k c d (xs.take 6000)).length) (by omega)
    rw [wi_chain a _ (by omega) (by omega), apd1_of (by simp only [List.length_nil]; omega), bs, List.nil_append]
    obtain ⟨m, h1, h2⟩ := bur_l2_law flip (nenc k c d (xs.take 6000)) (wi a (8 * (nenc k c d (xs.take 6000)).length)) (by omega) _ 0 forever (fun ys => rfl) 0 forever (by omega) (by omega) (by unfold forever; omega) (Nat.le_refl _)
    refine h2.trans ?_
    rw [m_law06_NeedleBursts_j1]
    dsimp only
    by_cases hsame : nenc k c d (xs.take 6000) = burstTo (nenc k c d (xs.take 6000)) (wi a (8 * (nenc k c d (xs.take 6000)).length)) flip m
    · rw [if_pos hsame, law06_awake_eq]; rfl
    · have hbl := burstTo_length (nenc k c d (xs.take 6000)) (wi a (8 * (nenc k c d (xs.take 6000)).length)) flip m
      rw [if_neg hsame, show (16 : Int) = ((16 : Nat) : Int) from rfl, show (20 : Int) = ((20 : Nat) : Int) from rfl, slc_nat _ _ _ (by omega), bs, slc_nat _ _ _ (by omega), bs]
      by_cases h3 : ((nenc k c d (xs.take 6000)).drop 16).take (20 - 16) = ((burstTo (nenc k c d (xs.take 6000)) (wi a (8 * (nenc k c d (xs.take 6000)).length)) flip m).drop 16).take (20 - 16)
      · rw [if_pos h3, needle_Decode_eq _ (by omega), bs, if_neg (ndec_burst k c d _ hv _ _ _ h1 (fun e => hsame e.symm) h3), law06_awake_eq]; rfl
      · rw [if_neg h3, law06_awake_eq]; rfl
  · rw [if_neg h, if_neg h, law06_awake_eq]; rfl
end Go.Proofs.Ytclhepegfmhmjaa
