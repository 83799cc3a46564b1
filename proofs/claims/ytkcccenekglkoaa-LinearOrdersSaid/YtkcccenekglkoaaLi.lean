/-
 The reference's search, whole. Conditions: the history's length, the lengths of the data, as each theorem says.
-/
import Derived.Test.YtkcccenekglkoaaLb
import Derived.Test.YtkcccenekglkoaaHx
import Derived.Test.YtkcccenekglkoaaMdh
namespace Go.Proofs.Ytkcccenekglkoaa
set_option linter.unusedVariables false
set_option linter.unusedSimpArgs false
def Waits (h : List KO) (D : BitVec 32) (x : KO) : Prop := ∃ (k : Nat) (y : KO), h[k]? = some y /\ D.getLsbD k = false /\ befK y x = true
inductive RLin (h : List KO) : BitVec 32 -> LS -> Prop
 | all {D : BitVec 32} {s : LS} : Comp h D -> RLin h D s
 | step {D : BitVec 32} {s t : LS} {i : Nat} {x : KO} : h[i]? = some x -> D.getLsbD i = false -> ¬ Waits h D x -> stepL s x = some t -> RLin h (D ||| 1#32 <<< i) t -> RLin h D s
 | skip {D : BitVec 32} {s : LS} {i : Nat} {x : KO} : h[i]? = some x -> D.getLsbD i = false -> ¬ Waits h D x -> dropL x = true -> RLin h (D ||| 1#32 <<< i) s -> RLin h D s
theorem lin_of_rlin {h : List KO} (hn : h.length <= 31) {D : BitVec 32} {s : LS} (hr : RLin h D s) : ∀ P : BitVec 32, (∀ k, P.getLsbD k = true -> D.getLsbD k = true) -> (∀ (k : Nat) x, h[k]? = some x -> D.getLsbD k = true -> P.getLsbD k = false -> dropL x = true) ->
  (∀ (k u : Nat) x y, h[k]? = some x -> h[u]? = some y -> D.getLsbD k = true -> D.getLsbD u = false -> befK y x = false) -> ∃ o, Lin h P s o := by
 induction hr with
 | @all D s hc =>
  intro P h1 h2 h3
  refine ⟨[], Lin.done fun i x hx => ?_⟩
  rcases hc i x hx with h4 | h4
  ·cases hp : P.getLsbD i with
   | true => exact Or.inl rfl
   | false => exact Or.inr (h2 i x hx h4 hp)
  ·exact Or.inr h4
 | @step D s t i x hx hD hw ht hr ih =>
  intro P h1 h2 h3
  have hi : i < 32 := by have := (List.getElem?_eq_some_iff.1 hx).1; omega
  have hPi : P.getLsbD i = false := by
   cases hp : P.getLsbD i with
   | false => rfl
   | true => have := h1 i hp; rw [hD] at this; cases this
  have hnw : ∀ (k : Nat) y, h[k]? = some y -> D.getLsbD k = false -> befK y x = false := fun k y hy hk => by
   cases hb : befK y x with
   | false => rfl
   | true => exact absurd ⟨k, y, hy, hk, hb⟩ hw
  obtain ⟨o, ho⟩ := ih (P ||| 1#32 <<< i) (fun k hk => by
    rw [bit_set _ hi] at hk ⊢
    rw [Bool.or_eq_true] at hk ⊢
    exact hk.imp (h1 k) id)
   (fun k y hy hk hp => by
    rw [bit_set _ hi] at hk hp
    rw [Bool.or_eq_true, decide_eq_true_iff] at hk
    rw [Bool.or_eq_false_iff, decide_eq_false_iff_not] at hp
    rcases hk with hk | hk
    ·exact h2 k y hy hk hp.1
    ·exact absurd hk hp.2)
   (fun k u y z hy hz hk hu => by
    rw [bit_set _ hi] at hk hu
    rw [Bool.or_eq_true, decide_eq_true_iff] at hk
    rw [Bool.or_eq_false_iff, decide_eq_false_iff_not] at hu
    rcases hk with hk | hk
    ·exact h3 k u y z hy hz hk hu.1
    ·subst hk; rw [hx] at hy; injection hy with hy; subst hy; exact hnw u z hz hu.1)
  refine ⟨i :: o, Lin.step hx ht ⟨fun j y hy => ⟨fun hj => ?_, fun hj hne hd => ?_⟩, hPi⟩ ho⟩
  ·exact h3 j i y x hy hx (h1 j hj) hD
  ·cases hDj : D.getLsbD j with
   | false => exact hnw j y hy hDj
   | true => have := h2 j y hy hDj hj; rw [hd] at this; cases this
 | @skip D s i x hx hD hw hd hr ih =>
  intro P h1 h2 h3
  have hi : i < 32 := by have := (List.getElem?_eq_some_iff.1 hx).1; omega
  have hnw : ∀ (k : Nat) y, h[k]? = some y -> D.getLsbD k = false -> befK y x = false := fun k y hy hk => by
   cases hb : befK y x with
   | false => rfl
   | true => exact absurd ⟨k, y, hy, hk, hb⟩ hw
  exact ih P (fun k hk => by rw [bit_set _ hi, h1 k hk]; rfl)
   (fun k y hy hk hp => by
    rw [bit_set _ hi] at hk
    rw [Bool.or_eq_true, decide_eq_true_iff] at hk
    rcases hk with hk | hk
    ·exact h2 k y hy hk hp
    ·subst hk; rw [hx] at hy; injection hy with hy; subst hy; exact hd)
   (fun k u y z hy hz hk hu => by
    rw [bit_set _ hi] at hk hu
    rw [Bool.or_eq_true, decide_eq_true_iff] at hk
    rw [Bool.or_eq_false_iff, decide_eq_false_iff_not] at hu
    rcases hk with hk | hk
    ·exact h3 k u y z hy hz hk hu.1
    ·subst hk; rw [hx] at hy; injection hy with hy; subst hy; exact hnw u z hz hu.1)
theorem lin_later {h : List KO} (hn : h.length <= 31) : ∀ {o : List Nat} {P : BitVec 32} {s : LS}, Lin h P s o -> ∀ j ∈ o, P.getLsbD j = false /\ ∃ y, h[j]? = some y /\ ∀ (i : Nat) x, h[i]? = some x -> P.getLsbD i = true -> befK y x = false := by
 intro o
 induction o with
 | nil => intro P s _ j hj; simp at hj
 | cons i o ih =>
  intro P s hl j hj
  cases hl with
  | @step _ _ t _ x _ hx ht hm hl =>
   have hi : i < 32 := by have := (List.getElem?_eq_some_iff.1 hx).1; omega
   rcases List.mem_cons.1 hj with rfl | hj
   ·exact ⟨hm.2, x, hx, fun k y hy hk => (hm.1 k y hy).1 hk⟩
   ·obtain ⟨h1, y, hy, h2⟩ := ih hl j hj
    rw [bit_set _ hi, Bool.or_eq_false_iff] at h1
    exact ⟨h1.1, y, hy, fun k z hz hk => h2 k z hz (by rw [bit_set _ hi, hk]; rfl)⟩
theorem least {p : Nat -> Prop} : ∀ n : Nat, p n -> ∃ m, p m /\ ∀ k, k < m -> ¬ p k := by
 intro n
 induction n using Nat.strongRecOn with
 | ind n ih =>
  intro hp
  by_cases h : ∃ k, k < n /\ p k
  ·obtain ⟨k, hk, hpk⟩ := h; exact ih k hk hpk
  ·exact ⟨n, hp, fun k hk hpk => h ⟨k, hk, hpk⟩⟩
theorem rlin_of_lin {h : List KO} (hn : h.length <= 31) (hp : h.Pairwise pairK) (hc : ∀ x ∈ h, x.fCall <= endK x) {P : BitVec 32} {s : LS} {o : List Nat} (hl : Lin h P s o) :
  ∀ D : BitVec 32, (∀ k, P.getLsbD k = true -> D.getLsbD k = true) -> (∀ (k : Nat) x, h[k]? = some x -> D.getLsbD k = true -> P.getLsbD k = false -> dropL x = true) -> (∀ i ∈ o, D.getLsbD i = false) -> RLin h D s := by
 induction hl with
 | @done P s hcm =>
  intro D h1 h2 h3
  refine RLin.all fun i x hx => ?_
  rcases hcm i x hx with h4 | h4
  ·exact Or.inl (h1 i h4)
  ·exact Or.inr h4
 | @step P s t i x o hx ht hm hl ih =>
  have hi : i < 32 := by have := (List.getElem?_eq_some_iff.1 hx).1; omega
  have inner : ∀ (n : Nat) (D : BitVec 32), unp h.length D <= n -> (∀ k, P.getLsbD k = true -> D.getLsbD k = true) -> (∀ (k : Nat) x, h[k]? = some x -> D.getLsbD k = true -> P.getLsbD k = false -> dropL x = true) -> (∀ j ∈ i :: o, D.getLsbD j = false) -> RLin h D s := by
   intro n
   induction n with
   | zero =>
    intro D hu h1 h2 h3
    have hD := h3 i (List.mem_cons_self ..)
    have hil := (List.getElem?_eq_some_iff.1 hx).1
    have e := unp_set hi hD h.length
    rw [if_pos hil] at e
    omega
   | succ n ihn =>
    intro D hu h1 h2 h3
    have hD := h3 i (List.mem_cons_self ..)
    by_cases hw : Waits h D x
    ·-- one that is left out first
     obtain ⟨k0, y0, hy0, hk0, hb0⟩ := hw
     obtain ⟨k, ⟨y, hy, hk, hb⟩, hmin⟩ := least (p := fun k => ∃ y, h[k]? = some y /\ D.getLsbD k = false /\ befK y x = true) k0 ⟨y0, hy0, hk0, hb0⟩
     have hkl := (List.getElem?_eq_some_iff.1 hy).1
     have hk32 : k < 32 := by omega
     have hbv : endK y < x.fCall := of_decide_eq_true hb
     have hki : k ≠ i := by
      rintro rfl
      rw [hx] at hy; injection hy with hy; subst hy
      have := hc x (List.mem_of_getElem? hx); omega
     have hko : k ∉ o := by
      intro hmem
      obtain ⟨_, z, hz, h4⟩ := lin_later hn hl k hmem
      rw [hy] at hz; injection hz with hz; subst hz
      have := h4 i x hx (by rw [bit_set _ hi]; simp)
      rw [hb] at this; cases this
     have hPk : P.getLsbD k = false := by
      cases hp' : P.getLsbD k with
      | false => rfl
      | true => have := h1 k hp'; rw [hk] at this; cases this
     have hdr : dropL y = true := by
      cases hd : dropL y with
      | true => rfl
      | false => have := (hm.1 k y hy).2 hPk hki hd; rw [hb] at this; cases this
     have hnw : ¬ Waits h D y := by
      rintro ⟨k', y', hy', hk', hb'⟩
      have hbv' : endK y' < y.fCall := of_decide_eq_true hb'
      have c1 := hc y' (List.mem_of_getElem? hy')
      have c2 := hc y (List.mem_of_getElem? hy)
      have hlt : k' < k := by
       rcases Nat.lt_trichotomy k' k with h5 | h5 | h5
       ·exact h5
       ·subst h5; rw [hy] at hy'; injection hy' with hy'; subst hy'; omega
       ·rw [List.pairwise_iff_getElem] at hp
        have hk'l := (List.getElem?_eq_some_iff.1 hy').1
        have := (hp k k' hkl hk'l h5).1
        rw [(List.getElem?_eq_some_iff.1 hy).2, (List.getElem?_eq_some_iff.1 hy').2] at this
        omega
      exact hmin k' hlt ⟨y', hy', hk', decide_eq_true (by omega)⟩
     have e := unp_set hk32 hk h.length
     rw [if_pos hkl] at e
     refine RLin.skip hy hk hnw hdr (ihn _ (by omega) (fun j hj => by rw [bit_set _ hk32, h1 j hj]; rfl) (fun j z hz hj hpj => ?_) (fun j hj => ?_))
     ·rw [bit_set _ hk32, Bool.or_eq_true, decide_eq_true_iff] at hj
      rcases hj with hj | hj
      ·exact h2 j z hz hj hpj
      ·subst hj; rw [hy] at hz; injection hz with hz; subst hz; exact hdr
     ·rw [bit_set _ hk32, Bool.or_eq_false_iff]
      refine ⟨h3 j hj, decide_eq_false ?_⟩
      rintro rfl
      rcases List.mem_cons.1 hj with h5 | h5
      ·exact hki h5
      ·exact hko h5
    ·refine RLin.step hx hD hw ht (ih (D ||| 1#32 <<< i) (fun j hj => ?_) (fun j z hz hj hpj => ?_) (fun j hj => ?_))
     ·rw [bit_set _ hi] at hj ⊢
      rw [Bool.or_eq_true] at hj ⊢
      exact hj.imp (h1 j) id
     ·rw [bit_set _ hi] at hj hpj
      rw [Bool.or_eq_true, decide_eq_true_iff] at hj
      rw [Bool.or_eq_false_iff, decide_eq_false_iff_not] at hpj
      rcases hj with hj | hj
      ·exact h2 j z hz hj hpj.1
      ·exact absurd hj hpj.2
     ·have h5 := (lin_later hn hl j hj).1
      rw [bit_set _ hi, Bool.or_eq_false_iff] at h5
      rw [bit_set _ hi, h3 j (List.mem_cons_of_mem _ hj), h5.2]; rfl
  intro D h1 h2 h3
  exact inner _ D (Nat.le_refl _) h1 h2 h3
theorem rlin_iff {h : List KO} (hn : h.length <= 31) (hp : h.Pairwise pairK) (hc : ∀ x ∈ h, x.fCall <= endK x) (s : LS) : RLin h 0#32 s ↔ ∃ o, Lin h 0#32 s o :=
  ⟨fun hr => lin_of_rlin hn hr 0#32 (fun k hk => hk) (fun k x _ hk => by simp at hk) (fun k u x y _ _ hk => by simp at hk),
   fun ⟨o, ho⟩ => rlin_of_lin hn hp hc ho 0#32 (fun k hk => hk) (fun k x _ hk => by simp at hk) (fun i _ => by simp)⟩
def dI (D : BitVec 32) : Int := (D.toNat : Int)
theorem ofInt_nat (i : Nat) (h : i < 1000) : (BitVec.ofInt 64 (i : Int)).toNat = i := by rw [BitVec.toNat_ofInt]; omega
theorem dI_shr (D : BitVec 32) (i : Nat) (hi : i <= 63) : shri (dI D) i = some ((D >>> i).toNat : Int) := by
 unfold shri dI
 rw [if_pos (by omega), BitVec.toNat_ushiftRight, Nat.shiftRight_eq_div_pow]
 congr 1
theorem toInt_small {x : BitVec 64} (h : x.toNat < 4294967296) : x.toInt = (x.toNat : Int) := BitVec.toInt_eq_toNat_of_lt (by omega)
theorem ofInt64 (n : Nat) (h : n < 4294967296) : (BitVec.ofInt 64 (n : Int)).toNat = n := by rw [BitVec.toNat_ofInt]; omega
theorem dI_bit (D : BitVec 32) (i : Nat) : andi ((D >>> i).toNat : Int) 1 = if D.getLsbD i = true then 1 else 0 := by
 have h1 : (D >>> i).toNat < 4294967296 := (D >>> i).isLt
 have h3 : (D >>> i &&& 1#32).toNat = if D.getLsbD i = true then 1 else 0 := by rw [bit_and]; split <;> rfl
 have h4 : (BitVec.ofInt 64 ((D >>> i).toNat : Int) &&& BitVec.ofInt 64 1).toNat = if D.getLsbD i = true then 1 else 0 := by
  rw [BitVec.toNat_and, ofInt64 _ h1, <- h3, BitVec.toNat_and]; rfl
 have h5 : (BitVec.ofInt 64 ((D >>> i).toNat : Int) &&& BitVec.ofInt 64 1).toNat < 4294967296 := by rw [h4]; split <;> omega
 unfold andi
 rw [toInt_small h5, h4]; split <;> rfl
theorem dI_set (D : BitVec 32) (i : Nat) (hi : i < 32) : ∃ z, shli (1 : Int) (i : Nat) = some z /\ ori (dI D) z = dI (D ||| 1#32 <<< i) := by
 have hp : (2 : Nat) ^ i < 4294967296 := by
  have : (2 : Nat) ^ i <= 2 ^ 31 := Nat.pow_le_pow_right (by omega) (by omega)
  omega
 have hs : (1#32 <<< i).toNat = 2 ^ i := by
  rw [BitVec.toNat_shiftLeft, Nat.shiftLeft_eq]
  show 1 * 2 ^ i % 2 ^ 32 = 2 ^ i
  rw [Nat.one_mul]; exact Nat.mod_eq_of_lt hp
 refine ⟨((2 ^ i : Nat) : Int), ?_, ?_⟩
 ·unfold shli
  rw [if_pos (by omega), Int.toNat_natCast, Int.one_mul]
  have e : (2 : Int) ^ i = ((2 ^ i : Nat) : Int) := by push_cast; rfl
  rw [e]; exact ck_of (by omega)
 ·have h1 : D.toNat < 4294967296 := D.isLt
  have h2 : (BitVec.ofInt 64 (D.toNat : Int) ||| BitVec.ofInt 64 ((2 ^ i : Nat) : Int)).toNat = (D ||| 1#32 <<< i).toNat := by
   rw [BitVec.toNat_or, BitVec.toNat_or, ofInt64 _ h1, ofInt64 _ hp, hs]
  have h3 := (D ||| 1#32 <<< i).isLt
  unfold ori dI
  rw [toInt_small (by rw [h2]; exact h3), h2]
def nameL (D : BitVec 32) (s : LS) : List (BitVec 8) :=
 [D.setWidth 8, (D >>> 8).setWidth 8, (D >>> 16).setWidth 8] ++ (if s.1 = true then [1#8, s.2.1.setWidth 8, (s.2.1 >>> 8).setWidth 8, (s.2.1 >>> 16).setWidth 8, (s.2.1 >>> 24).setWidth 8] ++ s.2.2 else [])
def eqS (s t : LS) : Prop := s.1 = t.1 /\ (s.1 = true -> s.2.1 = t.2.1 /\ s.2.2 = t.2.2)
theorem width_bit {a b : BitVec 32} {k i : Nat} (h : (a >>> k).setWidth 8 = (b >>> k).setWidth 8) (h1 : k <= i) (h2 : i < k + 8) : a.getLsbD i = b.getLsbD i := by
 have := congrArg (fun z : BitVec 8 => z.getLsbD (i - k)) h
 simp only [BitVec.getLsbD_setWidth, BitVec.getLsbD_ushiftRight] at this
 rw [show k + (i - k) = i by omega, decide_eq_true (by omega), Bool.true_and, Bool.true_and] at this
 exact this
theorem bits_eq {a b : BitVec 32} (h : ∀ i, i < 32 -> a.getLsbD i = b.getLsbD i) : a = b := BitVec.eq_of_getLsbD_eq fun i hi => h i hi
theorem name_inj {D D' : BitVec 32} {s s' : LS} (hD : ∀ i, 24 <= i -> D.getLsbD i = false) (hD' : ∀ i, 24 <= i -> D'.getLsbD i = false) (h : nameL D s = nameL D' s') : D = D' /\ eqS s s' := by
 unfold nameL at h
 simp only [List.cons_append, List.nil_append, List.cons.injEq] at h
 obtain ⟨h1, h2, h3, h4⟩ := h
 refine ⟨bits_eq fun i hi => ?_, ?_⟩
 ·by_cases c1 : i < 8
  ·exact width_bit (k := 0) (by simpa using h1) (by omega) (by omega)
  ·by_cases c2 : i < 16
   ·exact width_bit h2 (by omega) (by omega)
   ·by_cases c3 : i < 24
    ·exact width_bit h3 (by omega) (by omega)
    ·rw [hD i (by omega), hD' i (by omega)]
 ·cases e1 : s.1 with
  | false =>
   cases e2 : s'.1 with
   | false => exact ⟨by rw [e1, e2], fun h => by rw [e1] at h; cases h⟩
   | true => rw [e1, e2] at h4; simp at h4
  | true =>
   cases e2 : s'.1 with
   | false => rw [e1, e2] at h4; simp at h4
   | true =>
    rw [e1, e2] at h4
    simp only [if_true, List.cons_append, List.nil_append, List.cons.injEq, true_and] at h4
    obtain ⟨g1, g2, g3, g4, g5⟩ := h4
    refine ⟨by rw [e1, e2], fun _ => ⟨bits_eq fun i hi => ?_, g5⟩⟩
    by_cases c1 : i < 8
    ·exact width_bit (k := 0) (by simpa using g1) (by omega) (by omega)
    ·by_cases c2 : i < 16
     ·exact width_bit g2 (by omega) (by omega)
     ·by_cases c3 : i < 24
      ·exact width_bit g3 (by omega) (by omega)
      ·exact width_bit g4 (by omega) (by omega)
theorem eqS_refl (s : LS) : eqS s s := ⟨rfl, fun _ => ⟨rfl, rfl⟩⟩
theorem eqS_step {s s' t : LS} {x : KO} (h : eqS s s') (ht : stepL s x = some t) : ∃ t', stepL s' x = some t' /\ eqS t t' := by
 have hf : fitsL s x.fCookie = fitsL s' x.fCookie := by
  unfold fitsL
  rw [<- h.1]
  cases e : s.1 with
  | false => rfl
  | true => rw [(h.2 e).1]
 unfold stepL at ht ⊢
 rw [<- hf]
 by_cases k1 : x.fKind = 1
 ·rw [if_pos k1] at ht ⊢
  repeat' split at ht
  all_goals simp only [*, if_true, if_false] at ht ⊢
  all_goals first | exact ⟨_, rfl, (Option.some.inj ht) ▸ eqS_refl _⟩ | exact ⟨_, rfl, (Option.some.inj ht) ▸ h⟩ | cases ht
 ·rw [if_neg k1] at ht ⊢
  by_cases k2 : x.fKind = 2
  ·rw [if_pos k2] at ht ⊢
   by_cases r : x.fReturn = -1
   ·rw [if_pos r] at ht ⊢
    by_cases f : fitsL s x.fCookie = true
    ·rw [if_pos f] at ht ⊢; exact ⟨_, rfl, (Option.some.inj ht) ▸ eqS_refl _⟩
    ·rw [if_neg f] at ht ⊢; exact ⟨_, rfl, (Option.some.inj ht) ▸ h⟩
   ·rw [if_neg r] at ht ⊢
    by_cases e0 : x.fResult = 0
    ·rw [if_pos e0] at ht ⊢
     by_cases f : fitsL s x.fCookie = true
     ·rw [if_pos f] at ht ⊢; exact ⟨_, rfl, (Option.some.inj ht) ▸ eqS_refl _⟩
     ·rw [if_neg f] at ht; cases ht
    ·rw [if_neg e0] at ht ⊢
     by_cases e6 : x.fResult = 6
     ·rw [if_pos e6] at ht ⊢
      by_cases f : fitsL s x.fCookie = true
      ·rw [if_pos f] at ht; cases ht
      ·rw [if_neg f] at ht ⊢; exact ⟨_, rfl, (Option.some.inj ht) ▸ h⟩
     ·rw [if_neg e6] at ht ⊢
      by_cases e10 : x.fResult = 10
      ·rw [if_pos e10] at ht ⊢; exact ⟨_, rfl, (Option.some.inj ht) ▸ h⟩
      ·rw [if_neg e10] at ht; cases ht
  ·rw [if_neg k2] at ht ⊢
   by_cases k3 : x.fKind = 3
   ·rw [if_pos k3] at ht ⊢
    by_cases r : x.fReturn = -1
    ·rw [if_pos r] at ht ⊢; exact ⟨_, rfl, (Option.some.inj ht) ▸ h⟩
    ·rw [if_neg r] at ht ⊢
     by_cases e11 : x.fResult = 11
     ·rw [if_pos e11] at ht ⊢; exact ⟨_, rfl, (Option.some.inj ht) ▸ h⟩
     ·rw [if_neg e11] at ht ⊢
      by_cases e0 : x.fResult = 0
      ·rw [if_pos e0] at ht ⊢
       by_cases f : fitsL s x.fCookie = true
       ·rw [if_pos f] at ht ⊢
        have e1 : s.1 = true := by unfold fitsL at f; rw [Bool.and_eq_true] at f; exact f.1
        rw [<- (h.2 e1).2]
        by_cases g : s.2.2 = x.fGot
        ·rw [if_pos g] at ht ⊢; exact ⟨_, rfl, (Option.some.inj ht) ▸ h⟩
        ·rw [if_neg g] at ht; cases ht
       ·rw [if_neg f] at ht; cases ht
      ·rw [if_neg e0] at ht ⊢
       by_cases e6 : x.fResult = 6
       ·rw [if_pos e6] at ht ⊢
        by_cases f : fitsL s x.fCookie = true
        ·rw [if_pos f] at ht; cases ht
        ·rw [if_neg f] at ht ⊢; exact ⟨_, rfl, (Option.some.inj ht) ▸ h⟩
       ·rw [if_neg e6] at ht; cases ht
   ·rw [if_neg k3] at ht; cases ht
theorem rlin_eqS {h : List KO} {D : BitVec 32} {s : LS} (hr : RLin h D s) : ∀ s', eqS s s' -> RLin h D s' := by
 induction hr with
 | all hc => intro s' _; exact RLin.all hc
 | step hx hD hw ht _ ih =>
  intro s' he
  obtain ⟨t', ht', het⟩ := eqS_step he ht
  exact RLin.step hx hD hw ht' (ih t' het)
 | skip hx hD hw hd _ ih => intro s' he; exact RLin.skip hx hD hw hd (ih s' he)
theorem rbef_ok (x y : KO) : m_r24_Before (tO x).fClient (tO x).fKind (tO x).fKey (tO x).fCookie (tO x).fData (tO x).fGot (tO x).fCall (tO x).fReturn (tO x).fClosed (tO x).fResult (tO y).fClient (tO y).fKind (tO y).fKey (tO y).fCookie (tO y).fData (tO y).fGot (tO y).fCall (tO y).fReturn (tO y).fClosed (tO y).fResult = some (befK x y) := by
 unfold m_r24_Before m_r24_End befK endK
 show Option.bind (if x.fReturn = -1 then if x.fClosed = -1 then some 9223372036854775807 else some x.fClosed else some x.fReturn) _ = _
 by_cases h : x.fReturn = -1
 ·rw [if_pos h, if_pos h]
  by_cases h2 : x.fClosed = -1
  ·rw [if_pos h2, if_pos h2]; rfl
  ·rw [if_neg h2, if_neg h2]; rfl
 ·rw [if_neg h, if_neg h]; rfl
theorem rdrop_ok (x : KO) : m_r25_Drops (tO x).fClient (tO x).fKind (tO x).fKey (tO x).fCookie (tO x).fData (tO x).fGot (tO x).fCall (tO x).fReturn (tO x).fClosed (tO x).fResult = some (dropL x) := rfl
theorem rstepT_ok (s : LS) (x : KO) : m_r25_Step s.1 s.2.1 s.2.2 (tO x).fClient (tO x).fKind (tO x).fKey (tO x).fCookie (tO x).fData (tO x).fGot (tO x).fCall (tO x).fReturn (tO x).fClosed (tO x).fResult = some (outL (stepL s x)) := rstep_ok s x
theorem idxT (h : List KO) {i : Nat} {x : KO} (hx : h[i]? = some x) : idx (h.map tO) (i : Int) = some (tO x) := by rw [idx_nat, List.getElem?_map, hx]; rfl
theorem waits_loop (h : List KO) (hn : h.length <= 31) (D : BitVec 32) (i : Nat) (x : KO) (hx : h[i]? = some x) : ∀ (d k q : Nat), k + d = h.length -> d < q ->
  ∃ b, m_r25_waits_l1 (h.map tO) (dI D) (i : Int) q (k : Int) = some b /\ (b = true ↔ ∃ (j : Nat) (y : KO), k <= j /\ h[j]? = some y /\ D.getLsbD j = false /\ befK y x = true) := by
 intro d
 induction d with
 | zero =>
  intro k q hk hq
  obtain ⟨q, rfl⟩ : ∃ q', q = q' + 1 := ⟨q - 1, by omega⟩
  unfold m_r25_waits_l1 m_r25_waits_j0
  rw [if_neg (by simp; omega)]
  refine ⟨false, rfl, fun h => (by cases h), ?_⟩
  rintro ⟨j, y, hj, hy, _⟩
  have := (List.getElem?_eq_some_iff.1 hy).1; omega
 | succ d ih =>
  intro k q hk hq
  obtain ⟨q, rfl⟩ : ∃ q', q = q' + 1 := ⟨q - 1, by omega⟩
  have hy : h[k]? = some h[k] := List.getElem?_eq_getElem (by omega)
  generalize h[k] = y at hy
  obtain ⟨b, e, hb⟩ := ih (k + 1) q (by omega) (by omega)
  have fin : ¬ (D.getLsbD k = false /\ befK y x = true) -> (b = true ↔ ∃ (j : Nat) (y : KO), k <= j /\ h[j]? = some y /\ D.getLsbD j = false /\ befK y x = true) := by
   intro hno
   rw [hb]
   constructor
   ·rintro ⟨j, z, h1, h2⟩; exact ⟨j, z, by omega, h2⟩
   ·rintro ⟨j, z, h1, h2, h3⟩
    by_cases e : j = k
    ·subst e; rw [hy] at h2; injection h2 with h2; subst h2; exact absurd h3 hno
    ·exact ⟨j, z, by omega, h2, h3⟩
  unfold m_r25_waits_l1
  rw [if_pos (by simp; omega), ofInt_nat k (by omega), dI_shr D k (by omega), obs, dI_bit, ckK (by omega)]
  by_cases hp : D.getLsbD k = true
  ·rw [if_pos hp, if_neg (by decide), obs]
   exact ⟨b, e, fin fun h => by rw [hp] at h; cases h.1⟩
  ·rw [if_neg hp, if_pos rfl, idxT h hy, obs, idxT h hx, obs, rbef_ok, obs]
   by_cases hbf : befK y x = true
   ·rw [if_pos hbf]
    exact ⟨true, rfl, fun _ => ⟨k, y, Nat.le_refl _, hy, by simpa using hp, hbf⟩, fun _ => rfl⟩
   ·rw [if_neg hbf, obs]
    exact ⟨b, e, fin fun h => hbf h.2⟩
theorem waits_ok (h : List KO) (hn : h.length <= 31) (D : BitVec 32) (i : Nat) (x : KO) (hx : h[i]? = some x) : ∃ b, m_r25_waits (h.map tO) (dI D) (i : Int) = some b /\ (b = true ↔ Waits h D x) := by
 obtain ⟨b, e, hb⟩ := waits_loop h hn D i x hx h.length 0 forever (by omega) (by unfold forever; omega)
 exact ⟨b, e, hb.trans ⟨fun ⟨j, y, _, h2⟩ => ⟨j, y, h2⟩, fun ⟨j, y, h2⟩ => ⟨j, y, Nat.zero_le _, h2⟩⟩⟩
def WDone (D : BitVec 32) : Prop := ∀ i, 24 <= i -> D.getLsbD i = false
def subL (D D' : BitVec 32) : Prop := ∀ k, D.getLsbD k = true -> D'.getLsbD k = true
abbrev MS := List (List (BitVec 8) × Bool)
def Pre (h : List KO) (D : BitVec 32) (m : MS) : Prop := ∀ D' s', WDone D' -> subL D D' -> mget m (nameL D' s') = some true -> ¬ RLin h D' s'
def Grown (h : List KO) (D : BitVec 32) (m m' : MS) : Prop := ∀ D' s', WDone D' -> mget m' (nameL D' s') = some true -> mget m (nameL D' s') = some true ∨ (subL D D' /\ ¬ RLin h D' s')
def RFound (h : List KO) (D : BitVec 32) (s : LS) (m : MS) (r : Option (Bool × MS)) : Prop :=
 ∃ b m', r = some (b, m') /\ (b = true -> RLin h D s) /\ (b = false -> ¬ RLin h D s /\ Grown h D m m')
abbrev RcT := List RO -> Bool -> BitVec 32 -> List (BitVec 8) -> Int -> MS -> Option (Bool × MS)
theorem rcomp_loop (h : List KO) (hn : h.length <= 20) (D : BitVec 32) (s : LS) (m : MS) (rc0 : RcT) : ∀ (d i q : Nat) (fl : Bool), i + d = h.length -> d < q ->
  ∃ b, m_r25_rest_l1 (h.map tO) s.1 s.2.1 s.2.2 (dI D) m rc0 q fl (i : Int) = m_r25_rest_j0 (h.map tO) s.1 s.2.1 s.2.2 (dI D) m rc0 b /\ (b = true ↔ fl = true /\ ∀ (j : Nat) x, i <= j -> h[j]? = some x -> D.getLsbD j = true ∨ dropL x = true) := by
 intro d
 induction d with
 | zero =>
  intro i q fl hi hq
  obtain ⟨q, rfl⟩ : ∃ q', q = q' + 1 := ⟨q - 1, by omega⟩
  unfold m_r25_rest_l1
  rw [if_neg (by simp; omega)]
  refine ⟨fl, rfl, fun hf => ⟨hf, fun j x hj hx => ?_⟩, fun hf => hf.1⟩
  have := (List.getElem?_eq_some_iff.1 hx).1; omega
 | succ d ih =>
  intro i q fl hi hq
  obtain ⟨q, rfl⟩ : ∃ q', q = q' + 1 := ⟨q - 1, by omega⟩
  have hx : h[i]? = some h[i] := List.getElem?_eq_getElem (by omega)
  generalize h[i] = x at hx
  have fin : ∀ fl', (fl' = true ↔ fl = true /\ (D.getLsbD i = true ∨ dropL x = true)) -> ∃ b, m_r25_rest_l1 (h.map tO) s.1 s.2.1 s.2.2 (dI D) m rc0 q fl' ((i + 1 : Nat) : Int) = m_r25_rest_j0 (h.map tO) s.1 s.2.1 s.2.2 (dI D) m rc0 b /\ (b = true ↔ fl = true /\ ∀ (j : Nat) x, i <= j -> h[j]? = some x -> D.getLsbD j = true ∨ dropL x = true) := by
   intro fl' hfl
   obtain ⟨b, e, hb⟩ := ih (i + 1) q fl' (by omega) (by omega)
   refine ⟨b, e, hb.trans ?_⟩
   rw [hfl]
   constructor
   ·rintro ⟨⟨h1, h2⟩, h3⟩
    refine ⟨h1, fun j y hj hy => ?_⟩
    by_cases e : j = i
    ·subst e; rw [hx] at hy; injection hy with hy; subst hy; exact h2
    ·exact h3 j y (by omega) hy
   ·rintro ⟨h1, h2⟩
    exact ⟨⟨h1, h2 i x (Nat.le_refl _) hx⟩, fun j y hj hy => h2 j y (by omega) hy⟩
  unfold m_r25_rest_l1
  rw [if_pos (by simp; omega), ckK (by omega)]
  cases fl with
  | false =>
   rw [if_neg (by simp), obs]
   exact fin false ⟨fun h => (by cases h), fun h => (by cases h.1)⟩
  | true =>
   rw [if_pos rfl, ofInt_nat i (by omega), dI_shr D i (by omega), obs, dI_bit]
   by_cases hp : D.getLsbD i = true
   ·rw [if_pos hp, if_pos rfl, obs]
    exact fin true ⟨fun _ => ⟨rfl, Or.inl hp⟩, fun _ => rfl⟩
   ·rw [if_neg hp, if_neg (by decide), idxT h hx, obs, rdrop_ok, obs, obs]
    exact fin (dropL x) ⟨fun h => ⟨rfl, Or.inr h⟩, fun h => h.2.resolve_left hp⟩
theorem byte_of (D : BitVec 32) : BitVec.ofInt 8 (D.toNat : Int) = D.setWidth 8 := by
 apply BitVec.eq_of_toNat_eq
 rw [BitVec.toNat_ofInt, BitVec.toNat_setWidth]; omega
theorem rest_j0 (h : List KO) (D : BitVec 32) (s : LS) (hs : lenL s) (m : MS) (rc0 : RcT) : m_r25_rest_j0 (h.map tO) s.1 s.2.1 s.2.2 (dI D) m rc0 false = m_r25_rest_j2 (h.map tO) s.1 s.2.1 s.2.2 (dI D) m rc0 (nameL D s) := by
 have hs' : s.2.2.length <= 1000 := hs
 unfold m_r25_rest_j0
 rw [if_neg (by simp), dI_shr D 8 (by omega), obs, dI_shr D 16 (by omega), obs]
 unfold dI nameL
 rw [byte_of, byte_of, byte_of]
 cases e : s.1 with
 | false => rw [if_neg (by simp), if_neg (by simp), List.append_nil]
 | true =>
  rw [if_pos rfl, if_pos rfl, cat_of (by simp), obs, cat_of (by simp; omega), obs, List.append_assoc]
theorem mget_set {m : MS} {k k' : List (BitVec 8)} (h : mget (mset m k true) k' = some true) : k' = k ∨ mget m k' = some true := by
 rw [mget_msetL] at h
 split at h
 ·rename_i e; exact Or.inl e
 ·exact Or.inr h
theorem rest_loop (h : List KO) (hn : h.length <= 20) (hs : ∀ x ∈ h, smallK x) (D : BitVec 32) (hW : WDone D) (s : LS) (hls : lenL s) (hc : ¬ Comp h D) (m : MS) (hpre : Pre h D m) (rc0 : RcT)
  (ih : ∀ (i : Nat) (x : KO) (t : LS) (m' : MS), h[i]? = some x -> D.getLsbD i = false -> lenL t -> Pre h (D ||| 1#32 <<< i) m' -> RFound h (D ||| 1#32 <<< i) t m' (rc0 (h.map tO) t.1 t.2.1 t.2.2 (dI (D ||| 1#32 <<< i)) m')) :
  ∀ (d i q : Nat) (mc : MS), i + d = h.length -> d < q -> Grown h D (mset m (nameL D s) true) mc ->
   (∀ (j : Nat) x, j < i -> h[j]? = some x -> D.getLsbD j = false -> ¬ Waits h D x -> (∀ t, stepL s x = some t -> ¬ RLin h (D ||| 1#32 <<< j) t) /\ (dropL x = true -> ¬ RLin h (D ||| 1#32 <<< j) s)) ->
   RFound h D s m (m_r25_rest_l4 (h.map tO) s.1 s.2.1 s.2.2 (dI D) rc0 q mc (i : Int)) := by
 have pre2 : ∀ (i : Nat) (x : KO) (mc : MS), h[i]? = some x -> D.getLsbD i = false -> Grown h D (mset m (nameL D s) true) mc -> Pre h (D ||| 1#32 <<< i) mc := by
  intro i x mc hx hD hg D' s' hW' hsub hm
  have hi : i < 32 := by have := (List.getElem?_eq_some_iff.1 hx).1; omega
  have hi' : D'.getLsbD i = true := hsub i (by rw [bit_set _ hi]; simp)
  have hsubD : subL D D' := fun k hk => hsub k (by rw [bit_set _ hi, hk]; rfl)
  rcases hg D' s' hW' hm with h1 | ⟨_, h1⟩
  ·rcases mget_set h1 with h2 | h2
   ·obtain ⟨rfl, _⟩ := name_inj hW' hW h2
    rw [hD] at hi'; cases hi'
   ·exact hpre D' s' hW' hsubD h2
  ·exact h1
 have grow2 : ∀ (i : Nat) (x : KO) (mc mc' : MS), h[i]? = some x -> Grown h D (mset m (nameL D s) true) mc -> Grown h (D ||| 1#32 <<< i) mc mc' -> Grown h D (mset m (nameL D s) true) mc' := by
  intro i x mc mc' hx h1 h2 D' s' hW' hm
  have hi : i < 32 := by have := (List.getElem?_eq_some_iff.1 hx).1; omega
  rcases h2 D' s' hW' hm with h3 | ⟨h3, h4⟩
  ·exact h1 D' s' hW' h3
  ·exact Or.inr ⟨fun k hk => h3 k (by rw [bit_set _ hi, hk]; rfl), h4⟩
 intro d
 induction d with
 | zero =>
  intro i q mc hi hq hg hno
  obtain ⟨q, rfl⟩ : ∃ q', q = q' + 1 := ⟨q - 1, by omega⟩
  unfold m_r25_rest_l4 m_r25_rest_j3
  rw [if_neg (by simp; omega)]
  have hnr : ¬ RLin h D s := by
   intro hr
   cases hr with
   | all c => exact hc c
   | @step _ _ t j x hx hD hw ht hl =>
    have := (List.getElem?_eq_some_iff.1 hx).1
    exact (hno j x (by omega) hx hD hw).1 t ht hl
   | @skip _ _ j x hx hD hw hd hl =>
    have := (List.getElem?_eq_some_iff.1 hx).1
    exact (hno j x (by omega) hx hD hw).2 hd hl
  refine ⟨false, mc, rfl, fun h => (by cases h), fun _ => ⟨hnr, fun D' s' hW' hm => ?_⟩⟩
  rcases hg D' s' hW' hm with h1 | h1
  ·rcases mget_set h1 with h2 | h2
   ·obtain ⟨rfl, he⟩ := name_inj hW' hW h2
    exact Or.inr ⟨fun k hk => hk, fun hr => hnr (rlin_eqS hr s he)⟩
   ·exact Or.inl h2
  ·exact Or.inr h1
 | succ d ihd =>
  intro i q mc hi hq hg hno
  obtain ⟨q, rfl⟩ : ∃ q', q = q' + 1 := ⟨q - 1, by omega⟩
  have hx : h[i]? = some h[i] := List.getElem?_eq_getElem (by omega)
  have hxs := hs h[i] (List.getElem_mem _)
  generalize h[i] = x at hx hxs
  have next : ∀ mc', Grown h D (mset m (nameL D s) true) mc' -> (D.getLsbD i = false -> ¬ Waits h D x -> (∀ t, stepL s x = some t -> ¬ RLin h (D ||| 1#32 <<< i) t) /\ (dropL x = true -> ¬ RLin h (D ||| 1#32 <<< i) s)) ->
    RFound h D s m (m_r25_rest_l4 (h.map tO) s.1 s.2.1 s.2.2 (dI D) rc0 q mc' ((i + 1 : Nat) : Int)) := by
   intro mc' hg' hno'
   refine ihd (i + 1) q mc' (by omega) (by omega) hg' fun j y hj hy hDj hwj => ?_
   by_cases e : j = i
   ·subst e; rw [hx] at hy; injection hy with hy; subst hy; exact hno' hDj hwj
   ·exact hno j y (by omega) hy hDj hwj
  unfold m_r25_rest_l4
  rw [if_pos (by simp; omega), ofInt_nat i (by omega), dI_shr D i (by omega), obs, dI_bit, ckK (by omega)]
  by_cases hp : D.getLsbD i = true
  ·rw [if_pos hp, if_pos rfl, obs]
   exact next mc hg fun hD => by rw [hp] at hD; cases hD
  ·have hD : D.getLsbD i = false := by simpa using hp
   have hi32 : i < 32 := by omega
   obtain ⟨bw, ew, hbw⟩ := waits_ok h (by omega) D i x hx
   rw [if_neg hp, if_neg (by decide), ew, obs]
   cases bw with
   | true =>
    rw [if_pos rfl, obs]
    exact next mc hg fun _ hw => absurd (hbw.1 rfl) hw
   | false =>
    have hw : ¬ Waits h D x := fun hw => by have := hbw.2 hw; cases this
    obtain ⟨z, ez, oz⟩ := dI_set D i hi32
    rw [if_neg (by simp)]
    unfold m_r25_rest_j5
    rw [idxT h hx, obs, rstepT_ok, obs, ofInt_nat i (by omega), ckK (by omega)]
    have skip : ∀ mc', Grown h D (mset m (nameL D s) true) mc' -> (∀ t, stepL s x = some t -> ¬ RLin h (D ||| 1#32 <<< i) t) ->
      RFound h D s m (if dropL x = true then Option.bind (shli (1 : Int) (i : Nat)) fun x277 => Option.bind (rc0 (h.map tO) s.1 s.2.1 s.2.2 (ori (dI D) x277) mc') fun x278 => if x278.1 = true then some (true, x278.2) else m_r25_rest_l4 (h.map tO) s.1 s.2.1 s.2.2 (dI D) rc0 q x278.2 ((i + 1 : Nat) : Int)
       else m_r25_rest_l4 (h.map tO) s.1 s.2.1 s.2.2 (dI D) rc0 q mc' ((i + 1 : Nat) : Int)) := by
     intro mc' hg' hstep
     cases hd : dropL x with
     | false => rw [if_neg (by simp)]; exact next mc' hg' fun _ _ => ⟨hstep, fun h => by rw [hd] at h; cases h⟩
     | true =>
      rw [if_pos rfl, ez, obs, oz]
      obtain ⟨b, m2, e2, ht2, hf2⟩ := ih i x s mc' hx hD hls (pre2 i x mc' hx hD hg')
      rw [e2, obs]
      cases b with
      | true => rw [if_pos rfl]; exact ⟨true, m2, rfl, fun _ => RLin.skip hx hD hw hd (ht2 rfl), fun h => (by cases h)⟩
      | false =>
       rw [if_neg (by simp)]
       obtain ⟨g1, g2⟩ := hf2 rfl
       exact next m2 (grow2 i x mc' m2 hx hg' g2) fun _ _ => ⟨hstep, fun _ => g1⟩
    cases ht : stepL s x with
    | none =>
     rw [if_neg (by simp [outL]), obs, rdrop_ok, obs]
     exact skip mc hg fun t h => by rw [ht] at h; cases h
    | some t =>
     rw [if_pos (by simp [outL]), ez, obs, oz]
     obtain ⟨b, m1, e1, ht1, hf1⟩ := ih i x t mc hx hD (stepL_len hls hxs ht) (pre2 i x mc hx hD hg)
     have e1' : rc0 (h.map tO) (outL (some t)).1 (outL (some t)).2.1 (outL (some t)).2.2.1 (dI (D ||| 1#32 <<< i)) mc = some (b, m1) := e1
     rw [e1', obs]
     cases b with
     | true => rw [if_pos rfl]; exact ⟨true, m1, rfl, fun _ => RLin.step hx hD hw ht (ht1 rfl), fun h => (by cases h)⟩
     | false =>
      rw [if_neg (by simp), obs, rdrop_ok, obs]
      obtain ⟨g1, g2⟩ := hf1 rfl
      have := skip m1 (grow2 i x mc m1 hx hg g2) fun t' h => by rw [ht] at h; injection h with h; subst h; exact g1
      rw [ez] at this
      exact this
theorem rest_ok (h : List KO) (hn : h.length <= 20) (hs : ∀ x ∈ h, smallK x) : ∀ (k q : Nat) (D : BitVec 32) (s : LS) (m : MS), unp h.length D <= k -> k < q -> WDone D -> lenL s -> Pre h D m ->
  RFound h D s m (m_r25_restR q (h.map tO) s.1 s.2.1 s.2.2 (dI D) m) := by
 intro k
 induction k with
 | zero =>
  intro q D s m hu hq hW hls hpre
  obtain ⟨q, rfl⟩ : ∃ q', q = q' + 1 := ⟨q - 1, by omega⟩
  show RFound h D s m (m_r25_restF (m_r25_restR q) (h.map tO) s.1 s.2.1 s.2.2 (dI D) m)
  unfold m_r25_restF
  obtain ⟨b, e, hb⟩ := rcomp_loop h hn D s m (m_r25_restR q) h.length 0 forever true (by omega) (by unfold forever; omega)
  rw [show ((0 : Int)) = ((0 : Nat) : Int) from rfl, e]
  have hc : Comp h D := by
   intro i x hx
   have hi := (List.getElem?_eq_some_iff.1 hx).1
   left
   cases hp : D.getLsbD i with
   | true => rfl
   | false =>
    have : 0 < unp h.length D := by
     unfold unp
     rw [List.countP_pos_iff]
     exact ⟨i, by simpa using hi, by rw [hp]; rfl⟩
    omega
  have hbt : b = true := hb.2 ⟨rfl, fun j x _ hx => hc j x hx⟩
  subst hbt
  unfold m_r25_rest_j0
  rw [if_pos rfl]
  exact ⟨true, m, rfl, fun _ => RLin.all hc, fun h => (by cases h)⟩
 | succ k ih =>
  intro q D s m hu hq hW hls hpre
  obtain ⟨q, rfl⟩ : ∃ q', q = q' + 1 := ⟨q - 1, by omega⟩
  show RFound h D s m (m_r25_restF (m_r25_restR q) (h.map tO) s.1 s.2.1 s.2.2 (dI D) m)
  unfold m_r25_restF
  obtain ⟨b, e, hb⟩ := rcomp_loop h hn D s m (m_r25_restR q) h.length 0 forever true (by omega) (by unfold forever; omega)
  rw [show ((0 : Int)) = ((0 : Nat) : Int) from rfl, e]
  cases b with
  | true =>
   unfold m_r25_rest_j0
   rw [if_pos rfl]
   exact ⟨true, m, rfl, fun _ => RLin.all fun j x hx => (hb.1 rfl).2 j x (Nat.zero_le _) hx, fun h => (by cases h)⟩
  | false =>
   have hnc : ¬ Comp h D := fun c => by have := hb.2 ⟨rfl, fun j x _ hx => c j x hx⟩; cases this
   rw [rest_j0 h D s hls]
   unfold m_r25_rest_j2
   split
   ·rename_i hg
    have hg' : mget m (nameL D s) = some true := by
     cases e : mget m (nameL D s) with
     | none => rw [e] at hg; cases hg
     | some v => rw [e] at hg; simp at hg; rw [hg]
    exact ⟨false, m, rfl, fun h => (by cases h), fun _ => ⟨hpre D s hW (fun k hk => hk) hg', fun D' s' _ hm => Or.inl hm⟩⟩
   ·refine rest_loop h hn hs D hW s hls hnc m hpre _ (fun i x t m' hx hD hlt hp => ?_) h.length 0 forever (mset m (nameL D s) true) (by omega) (by unfold forever; omega) (fun D' s' _ hm => Or.inl hm) (fun j x hj => by omega)
    have hi := (List.getElem?_eq_some_iff.1 hx).1
    have e := unp_set (by omega) hD h.length
    rw [if_pos hi] at e
    refine ih q _ t m' (by omega) (by omega) (fun j hj => ?_) hlt hp
    rw [bit_set _ (by omega), hW j hj, decide_eq_false (by omega)]; rfl
theorem has_ok (h : List KO) (hn : h.length <= 20) (hs : ∀ x ∈ h, smallK x) (hp : h.Pairwise pairK) (hc : ∀ x ∈ h, x.fCall <= endK x) (s : LS) (hls : lenL s) : ∃ b, m_r25_Has (h.map tO) s.1 s.2.1 s.2.2 = some b /\ (b = true ↔ ∃ o, Lin h 0#32 s o) := by
 have hu := unp_le h.length 0#32
 obtain ⟨b, m', e, ht, hf⟩ := rest_ok h hn hs 20 forever 0#32 s [] (by omega) (by unfold forever; omega) (fun i _ => by simp) hls (fun D' s' _ _ hm => by simp [mget] at hm)
 have e' : m_r25_rest (h.map tO) s.1 s.2.1 s.2.2 0 [] = some (b, m') := e
 refine ⟨b, ?_, ?_⟩
 ·unfold m_r25_Has
  rw [e', obs]
 ·rw [<- rlin_iff (by omega) hp hc s]
  cases b with
  | true => exact ⟨fun _ => ht rfl, fun _ => rfl⟩
  | false => exact ⟨fun h => (by cases h), fun hr => absurd hr (hf rfl).1⟩
end Go.Proofs.Ytkcccenekglkoaa
