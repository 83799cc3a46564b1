/-
  The statement EcreadMissing. Conditions: the number is an int.
-/
import Derived.Test.YtcncappgheopgaaGreatSi
import Derived.Test.YtcncappgheopgaaGreatMdm4
namespace Go.Proofs.YtcncappgheopgaaGreat
set_option linter.unusedVariables false
set_option linter.unusedSimpArgs false
theorem awake_ok : m_law18_awake = some true := by decide +kernel
section
variable {c : BitVec 32} {ns : List Nd} {C : Mx} {r : Rec}
theorem usb_have (C : Mx) (b : List (BitVec 8)) (g : Nat → Bool) (s : List Int) {j : Nat} (hj : j < 6) : usb b.length (shardsOf C b) (tb 6 g) s j = (g j && !decide ((j : Int) ∈ s)) := by
  unfold usb
  rw [getD_tb hj, shard_len C b hj, beq_self_eq_true, Bool.and_true]
theorem miss_read (hg : Gen c ns) (hC : IsCode C) (g : Nat → Bool) (hr : r ∈ recsOf 16 ns) (hx : itemOf r ∈ itemsOf ns) :
    readS 1 2 3 ((datOf c ns).length : Int) (itemsOf ns) (shardsOf C (datOf c ns)) (tb 6 g) (itemOf r) = some (r.fNeedle.fKey, r.fNeedle.fCookie, r.fNeedle.fDeleted, r.fNeedle.fData, 0) ∨
    (readS 1 2 3 ((datOf c ns).length : Int) (itemsOf ns) (shardsOf C (datOf c ns)) (tb 6 g) (itemOf r) = some (rBad 11) ∧ (sel g 6).length < 4 ∧ ∃ p ∈ pcsOf r, g p.1 = false) := by
  have hd := live_rec hg hr hx
  have hf := shardsOf_len C (datOf c ns)
  have hh : (tb 6 g).length = 6 := tb_len _ _
  unfold readS
  rw [if_pos ⟨hg.valid, hf, hh, hx⟩]
  have one : ∀ s : List Int, candS 1 2 3 ((datOf c ns).length : Int) (itemsOf ns) (shardsOf C (datOf c ns)) (tb 6 g) s (itemOf r) = crOf r.fNeedle ∨
      (candS 1 2 3 ((datOf c ns).length : Int) (itemsOf ns) (shardsOf C (datOf c ns)) (tb 6 g) s (itemOf r) = cNone) := by
    intro s
    by_cases h4 : 4 ≤ (sel (usb (datOf c ns).length (shardsOf C (datOf c ns)) (tb 6 g) s) 6).length
    · exact .inl (cand_intact hg hC hf hh s (fun j _ _ => rfl) hr hd (.inr h4))
    · by_cases hp : ∃ p ∈ pcsOf r, usb (datOf c ns).length (shardsOf C (datOf c ns)) (tb 6 g) s p.1 = false
      · exact .inr (cand_none hg hf hh s hr hp h4)
      · refine .inl (cand_intact hg hC hf hh s (fun j _ _ => rfl) hr hd (.inl fun p hp' => ?_))
        cases e : usb (datOf c ns).length (shardsOf C (datOf c ns)) (tb 6 g) s p.1
        · exact absurd ⟨p, hp', e⟩ hp
        · rfl
  rcases firstOr_all (x := crOf r.fNeedle) rfl (some (rBad 11)) sL (fun s _ => one s) with h | ⟨h1, h2⟩
  · exact .inl h
  · refine .inr ⟨h1, ?_⟩
    have hn := h2 [] (by decide)
    have e : sel (usb (datOf c ns).length (shardsOf C (datOf c ns)) (tb 6 g) []) 6 = sel g 6 := sel_congr fun j hj => by rw [usb_have C _ g [] hj]; simp
    have hne : crOf r.fNeedle ≠ cNone := fun h => by have := congrArg (fun z : CR => z.2.2.2.2) h; cases this
    have h4 : ¬ 4 ≤ (sel g 6).length := fun h4 => hne ((cand_intact hg hC hf hh [] (fun j _ _ => rfl) hr hd (.inr (by rw [e]; exact h4))).symm.trans hn)
    refine ⟨by omega, ?_⟩
    by_cases hp : ∃ p ∈ pcsOf r, g p.1 = false
    · exact hp
    · refine absurd ((cand_intact hg hC hf hh [] (fun j _ _ => rfl) hr hd (.inl fun p hp' => ?_)).symm.trans hn) hne
      obtain ⟨_, off, _, h2, _, _, h5, _⟩ := hg.at hr
      have hp4 : p.1 < 4 := by
        unfold pcsOf at hp'; rw [h2, Int.toNat_natCast] at hp'
        exact (pieces_mem (sizeN r.fNeedle) off h5 p hp').1
      rw [usb_have C _ g [] (by omega)]
      cases e : g p.1
      · exact absurd ⟨p, hp', e⟩ hp
      · simp
end
theorem live_loop (x3 : List (BitVec 8) × List Rec × Int × Int × Int × Int × BitVec 32 × BitVec 32 × BitVec 32 × BitVec 32 × BitVec 32 × BitVec 32 × List Item × List Bytes) (x62 : List Bool) (x63 : Int) (l : List Item) (x98 : Int) (r : Rec) (r3 : List Item → Int → Option Bool) (hl : l.length ≤ 1000000) (d : Nat) : ∀ (i q : Nat) (f : Bool), i + d = l.length → d < q →
    m_law18_EcreadMissing_l6 x3 x62 x63 l x98 r r3 q f (i : Int) = m_law18_EcreadMissing_j5 x3 x62 x63 l x98 r r3 (f || decide (itemOf r ∈ l.drop i)) := by
  induction d with
  | zero =>
    intro i q f hi hq
    obtain ⟨q, rfl⟩ : ∃ q', q = q' + 1 := ⟨q - 1, by omega⟩
    unfold m_law18_EcreadMissing_l6
    rw [if_neg (by omega), List.drop_of_length_le (by omega)]; simp
  | succ d ih =>
    intro i q f hi hq
    obtain ⟨q, rfl⟩ : ∃ q', q = q' + 1 := ⟨q - 1, by omega⟩
    have h1 : i < l.length := by omega
    unfold m_law18_EcreadMissing_l6
    rw [if_pos (by omega), idx_nat, List.getElem?_eq_getElem h1, Option.bind_some, List.drop_eq_getElem_cons h1]
    cases f
    · rw [if_neg (by simp), ck_of (by omega), Option.bind_some]
      refine (ih (i + 1) q _ (by omega) (by omega)).trans ?_
      rw [live_dec, live_or]
    · rw [if_pos rfl, ck_of (by omega), Option.bind_some]
      exact ih (i + 1) q true (by omega) (by omega)
/-- the pieces that are there -/
theorem whole_loop (g : Nat → Bool) (x63 : Int) (l : List Item) (x98 e : Int) (ps : List Pc) (hps : ∀ p ∈ ps, p.1 < 4) (hn : ps.length ≤ 2000000) (z : Int) (r3 : List Item → Int → Option Bool) (d : Nat) : ∀ (i q : Nat) (f : Bool), i + d = ps.length → d < q →
    m_law18_EcreadMissing_l9 (tb 6 g) x63 l x98 e (ps.map toS, z) r3 q f (i : Int) = m_law18_EcreadMissing_j8 x63 l x98 e r3 (f && (ps.drop i).all fun p => g p.1) := by
  induction d with
  | zero =>
    intro i q f hi hq
    obtain ⟨q, rfl⟩ : ∃ q', q = q' + 1 := ⟨q - 1, by omega⟩
    unfold m_law18_EcreadMissing_l9
    rw [if_neg (by rw [List.length_map]; omega), List.drop_of_length_le (by omega)]; simp
  | succ d ih =>
    intro i q f hi hq
    obtain ⟨q, rfl⟩ : ∃ q', q = q' + 1 := ⟨q - 1, by omega⟩
    have h1 : i < ps.length := by omega
    have hp := hps _ (List.getElem_mem h1)
    have ei : idx (ps.map toS) (i : Int) = some (toS ps[i]) := by rw [idx_nat, List.getElem?_map, List.getElem?_eq_getElem h1]; rfl
    unfold m_law18_EcreadMissing_l9
    rw [if_pos (by rw [List.length_map]; omega), ei, Option.bind_some, List.drop_eq_getElem_cons h1, List.all_cons]
    have eg : idx (tb 6 g) (toS ps[i]).fShard = some (g ps[i].1) := idx_tb (by omega)
    cases f
    · rw [if_neg (by simp), ck_of (by omega), Option.bind_some]
      refine (ih (i + 1) q false (by omega) (by omega)).trans ?_
      simp
    · rw [if_pos rfl, if_pos (by show (0 : Int) ≤ ((ps[i].1 : Nat) : Int); omega), if_pos (by show ((ps[i].1 : Nat) : Int) < 6; omega), eg, Option.bind_some, ck_of (by omega), Option.bind_some]
      refine (ih (i + 1) q _ (by omega) (by omega)).trans ?_
      rw [Bool.true_and]
def bitZ (m : Int) (i : Nat) : Bool := andi (m / 2 ^ i) (1 : Int) == (1 : Int)
theorem shr_bit (m : Int) {i : Nat} (hi : i < 6) : shri m ((BitVec.ofInt 64 (i : Int)).toNat : Nat) = some (m / 2 ^ i) := by
  have e : (BitVec.ofInt 64 (i : Int)).toNat = i := by rw [BitVec.ofInt_natCast, BitVec.toNat_ofNat]; exact Nat.mod_eq_of_lt (by omega)
  rw [e, shri, if_pos (by omega), Int.toNat_natCast]
section
variable {l : List Nd} (M : Made l)
abbrev x3of : List (BitVec 8) × List Rec × Int × Int × Int × Int × BitVec 32 × BitVec 32 × BitVec 32 × BitVec 32 × BitVec 32 × BitVec 32 × List Item × List Bytes := (datOf M.c (nsOf l 10), recsOf 16 (nsOf l 10), 1, 2, 3, ((datOf M.c (nsOf l 10)).length : Int), M.s0, M.s1, M.s2, M.s3, M.s4, M.s5, itemsOf (nsOf l 10), shardsOf M.C (datOf M.c (nsOf l 10)))
theorem mask_loop (m : Int) (d : Nat) : ∀ (i q : Nat), i + d = 6 → d < q →
    m_law18_EcreadMissing_l1 m (x3of M) (tb 6 fun _ => false) q (tb 6 (preb' (bitZ m) i)) ((sel (bitZ m) i).length : Int) (i : Int) = m_law18_EcreadMissing_j0 (x3of M) (tb 6 (bitZ m)) ((sel (bitZ m) 6).length : Int) := by
  induction d with
  | zero =>
    intro i q hi hq
    obtain ⟨q, rfl⟩ : ∃ q', q = q' + 1 := ⟨q - 1, by omega⟩
    obtain rfl : i = 6 := by omega
    unfold m_law18_EcreadMissing_l1
    rw [tb_len, if_neg (by omega), preb'_all]
  | succ d ih =>
    intro i q hi hq
    obtain ⟨q, rfl⟩ : ∃ q', q = q' + 1 := ⟨q - 1, by omega⟩
    have h6 : i < 6 := by omega
    have hsl := sel_len (bitZ m) i
    have step := ih (i + 1) q (by omega) (by omega)
    rw [← preb'_step, sel_succ] at step
    unfold m_law18_EcreadMissing_l1
    rw [tb_len, if_pos (by omega), shr_bit m h6, Option.bind_some, idx_tb h6, Option.bind_some, upd_tb h6, Option.bind_some, idx_tb h6, st_same, Option.bind_some]
    show (if bitZ m i = true then _ else _) = _
    by_cases hb : bitZ m i = true
    · rw [if_pos hb, ck_of (by omega), Option.bind_some, ck_of (by omega), Option.bind_some]
      rw [if_pos hb, List.length_append, List.length_singleton] at step
      exact step
    · rw [if_neg hb, ck_of (by omega), Option.bind_some]
      rw [if_neg hb] at step
      exact step
theorem miss_loop (g : Nat → Bool) (d : Nat) : ∀ (i q : Nat), i + d = (recsOf 16 (nsOf l 10)).length → d < q →
    m_law18_EcreadMissing_l3 (x3of M) (tb 6 g) ((sel g 6).length : Int) q (itemsOf (nsOf l 10)) (i : Int) = some true := by
  have hg := M.gen
  have hil := hg.itemsLen
  have hrl : (recsOf 16 (nsOf l 10)).length ≤ 15 := by rw [recsOf_len]; exact hg.few
  induction d with
  | zero =>
    intro i q hi hq
    obtain ⟨q, rfl⟩ : ∃ q', q = q' + 1 := ⟨q - 1, by omega⟩
    unfold m_law18_EcreadMissing_l3 m_law18_EcreadMissing_j2
    rw [if_neg (by show ¬ (i : Int) < ((recsOf 16 (nsOf l 10)).length : Int); omega), awake_ok, Option.bind_some]
  | succ d ih =>
    intro i q hi hq
    obtain ⟨q, rfl⟩ : ∃ q', q = q' + 1 := ⟨q - 1, by omega⟩
    have h1 : i < (recsOf 16 (nsOf l 10)).length := by omega
    have hr : (recsOf 16 (nsOf l 10))[i] ∈ recsOf 16 (nsOf l 10) := List.getElem_mem h1
    have nxt : m_law18_EcreadMissing_j4 (itemsOf (nsOf l 10)) (i : Int) (m_law18_EcreadMissing_l3 (x3of M) (tb 6 g) ((sel g 6).length : Int) q) = some true := by
      unfold m_law18_EcreadMissing_j4
      rw [ck_of (by omega), Option.bind_some]
      exact ih (i + 1) q (by omega) (by omega)
    have e0 : idx (x3of M).2.1 (i : Int) = some (recsOf 16 (nsOf l 10))[i] := by rw [idx_nat]; exact List.getElem?_eq_getElem h1
    unfold m_law18_EcreadMissing_l3
    rw [if_pos (by show (i : Int) < ((recsOf 16 (nsOf l 10)).length : Int); omega), e0, Option.bind_some]
    generalize (recsOf 16 (nsOf l 10))[i] = r at hr
    refine (live_loop (x3of M) (tb 6 g) _ (itemsOf (nsOf l 10)) (i : Int) r _ (by omega) (itemsOf (nsOf l 10)).length 0 forever false (by omega) (by unfold forever; omega)).trans ?_
    rw [List.drop_zero, Bool.false_or]
    unfold m_law18_EcreadMissing_j5
    by_cases hx : itemOf r ∈ itemsOf (nsOf l 10)
    · rw [if_pos (decide_eq_true hx)]
      unfold m_law18_given
      rw [Option.bind_some]
      dsimp only
      have er := eRead_ok 1 2 3 ((datOf M.c (nsOf l 10)).length : Int) M.s0 M.s1 M.s2 M.s3 M.s4 M.s5 (itemsOf (nsOf l 10)) (shardsOf M.C (datOf M.c (nsOf l 10))) (tb 6 g) (by omega) (itemOf r)
      have er' : m_ecread_Read 1 2 3 ((datOf M.c (nsOf l 10)).length : Int) M.s0 M.s1 M.s2 M.s3 M.s4 M.s5 (itemsOf (nsOf l 10)) (shardsOf M.C (datOf M.c (nsOf l 10))) (tb 6 g) r.fNeedle.fKey r.fNeedle.fCookie r.fOff ((r.fNeedle.fData.length : Nat) : Int) = _ := er
      rw [er']
      obtain ⟨h1n, off, tail, h2, h3, _, h5, _⟩ := hg.at hr
      have hlen := hg.len
      rcases miss_read hg M.code g hr hx with e | ⟨e, h4, p, hp, hgp⟩
      · rw [e, Option.bind_some]
        unfold m_law18_EcreadMissing_j7
        rw [if_pos rfl, same_ok, Option.bind_some, if_pos (by simp)]
        exact nxt
      · rw [e, Option.bind_some]
        unfold m_law18_EcreadMissing_j7
        have hb := sizeN_bd h1n
        rw [if_neg (by decide), needle_Size_eq, Option.bind_some, size_rec hg hr, h2, stripe_Pieces_nat (by omega) (by omega), Option.bind_some]
        have hpl := pieces_len (sizeN r.fNeedle) off
        refine (whole_loop g _ (itemsOf (nsOf l 10)) (i : Int) _ (pieces off (sizeN r.fNeedle)) (fun p hp => (pieces_mem (sizeN r.fNeedle) off h5 p hp).1) (by omega) 0 _ (pieces off (sizeN r.fNeedle)).length 0 forever _ (by omega) (by unfold forever; omega)).trans ?_
        unfold m_law18_EcreadMissing_j8
        have hall : ((pieces off (sizeN r.fNeedle)).all fun p => g p.1) = false := by
          refine Bool.eq_false_iff.2 fun h => ?_
          unfold pcsOf at hp; rw [h2, Int.toNat_natCast] at hp
          have := List.all_eq_true.1 h p hp
          rw [hgp] at this; cases this
        rw [if_pos (show (rBad 11).2.2.2.2 = 11 from rfl), if_neg (by omega), List.drop_zero, hall, Bool.and_false, if_neg (by simp)]
        exact nxt
    · rw [if_neg (by simpa using hx)]
      exact nxt
end
theorem ok_EcreadMissing (l : List Nd) (m : Int) : m_law18_EcreadMissing l m = some true := by
  obtain ⟨M⟩ := made_ok l
  unfold m_law18_EcreadMissing
  rw [M.eq, Option.bind_some, show mks 1 (6 : Int) false = some (tb 6 fun _ => false) from mks_tb (n := 6) (by omega) (by omega), Option.bind_some]
  have e0 := mask_loop M m 6 0 forever (by omega) (by unfold forever; omega)
  rw [preb'_zero] at e0
  refine Eq.trans e0 ?_
  unfold m_law18_EcreadMissing_j0
  exact miss_loop M (bitZ m) (recsOf 16 (nsOf l 10)).length 0 forever (by omega) (by have : (recsOf 16 (nsOf l 10)).length ≤ 15 := by rw [recsOf_len]; exact M.gen.few
                                                                                     unfold forever; omega)
end Go.Proofs.YtcncappgheopgaaGreat
