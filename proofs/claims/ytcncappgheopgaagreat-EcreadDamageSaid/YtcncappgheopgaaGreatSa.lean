/- A part of the proof. Conditions: as each theorem says. -/
import Derived.Test.YtcncappgheopgaaGreatVb
import Derived.Test.YtcncappgheopgaaGreatMdl
namespace Go.Proofs.YtcncappgheopgaaGreat
set_option linter.unusedVariables false
set_option linter.unusedSimpArgs false
def ssz (n : Nat) : Nat := (n + 255) / 256 * 64
theorem stripe_Size_nat (n : Nat) (h : n <= 1000000000) : m_stripe_Size (n : Int) = some ((ssz n : Nat) : Int) := by
 unfold m_stripe_Size ssz
 by_cases h0 : n = 0
 ·subst h0; rfl
 ·rw [if_neg (by omega), ck_of (by omega), obs, dvi_of (by omega) (by omega), obs, ck_of (by omega), obs, ck_of (by omega), obs]
  congr 1; omega
theorem r05_Size_nat (n : Nat) (h : n <= 1000000000) : m_r05_Size (n : Int) = some ((ssz n : Nat) : Int) := by
 unfold m_r05_Size ssz
 rw [if_neg (by omega), dvi_of (by omega) (by omega), obs, rmi_of (by omega) (by omega), obs]
 by_cases h1 : (0 : Int) < (n : Int) % 256
 ·rw [if_pos h1, ck_of (by omega), obs, ck_of (by omega), obs]; congr 1; omega
 ·rw [if_neg h1, ck_of (by omega), obs]; congr 1; omega
def plS (off : Nat) : Nat := off / 64 % 4
def plA (off : Nat) : Nat := off / 64 / 4 * 64 + off % 64
theorem stripe_place_nat (off : Nat) (h : off <= 5000000000000000000) : m_stripe_place (off : Int) = some ((plS off : Int), (plA off : Int)) := by
 unfold m_stripe_place plS plA
 rw [dvi_of (by omega) (by omega), obs, rmi_of (by omega) (by omega), obs, dvi_of (by omega) (by omega), obs, ck_of (by omega), obs, rmi_of (by omega) (by omega), obs, ck_of (by omega), obs]
 try (congr 2 <;> omega)
theorem r05_Place_nat (off : Nat) (h : off <= 5000000000000000000) : m_r05_Place (off : Int) = some ((plS off : Int), (plA off : Int), 0) := by
 unfold m_r05_Place plS plA
 rw [if_neg (by omega), dvi_of (by omega) (by omega), obs, rmi_of (by omega) (by omega), obs, dvi_of (by omega) (by omega), obs, ck_of (by omega), obs, rmi_of (by omega) (by omega), obs, ck_of (by omega), obs]
 simp only [Option.some.injEq, Prod.mk.injEq, and_true]; omega
abbrev Pc := Nat × Nat × Nat
def pk (off n : Nat) : Nat := min (64 - off % 64) n
theorem pk_pos {off n : Nat} (h : 0 < n) : 0 < pk off n /\ pk off n <= n /\ pk off n <= 64 /\ pk off n <= 64 - off % 64 := by unfold pk; omega
def pcs : Nat -> Nat -> Nat -> List Pc
 | 0, _, _ => []
 | q + 1, off, n => if n = 0 then [] else (plS off, plA off, pk off n) :: pcs q (off + pk off n) (n - pk off n)
def pieces (off n : Nat) : List Pc := pcs n off n
theorem pcs_enough : ∀ (q n off : Nat), n <= q -> pcs q off n = pcs n off n
  | 0, n, off, h => by have : n = 0 := by omega
                       subst this; rfl
  | q + 1, 0, off, h => by unfold pcs; rw [if_pos rfl]
  | q + 1, n + 1, off, h => by
    have := pk_pos (off := off) (n := n + 1) (by omega)
    conv => lhs; unfold pcs
    conv => rhs; unfold pcs
    rw [if_neg (by omega), if_neg (by omega), pcs_enough q (n + 1 - pk off (n + 1)) _ (by omega), pcs_enough n (n + 1 - pk off (n + 1)) _ (by omega)]
theorem pieces_zero (off : Nat) : pieces off 0 = [] := rfl
theorem pieces_step {off n : Nat} (h : 0 < n) : pieces off n = (plS off, plA off, pk off n) :: pieces (off + pk off n) (n - pk off n) := by
 obtain ⟨m, rfl⟩ : ∃ m, n = m + 1 := ⟨n - 1, by omega⟩
 have := pk_pos (off := off) (n := m + 1) (by omega)
 unfold pieces
 conv => lhs; unfold pcs
 rw [if_neg (by omega), pcs_enough m _ _ (by omega)]
theorem pieces_ind {motive : Nat -> Nat -> Prop} (h0 : ∀ off, motive off 0) (hs : ∀ off n, 0 < n -> motive (off + pk off n) (n - pk off n) -> motive off n) : ∀ n off, motive off n := by
 intro n
 induction n using Nat.strongRecOn with
 | _ n ih =>
  intro off
  rcases Nat.eq_zero_or_pos n with h | h
  ·subst h; exact h0 off
  ·have := pk_pos (off := off) h
   exact hs off n h (ih _ (by omega) _)
theorem pieces_len (n off : Nat) : (pieces off n).length <= n := by
 refine pieces_ind (motive := fun off n => (pieces off n).length <= n) (fun off => Nat.zero_le _) (fun off n h ih => ?_) n off
 have := pk_pos (off := off) h
 rw [pieces_step h, List.length_cons]; omega
theorem pieces_mem {L : Nat} (n off : Nat) : off + n <= L -> ∀ p ∈ pieces off n, p.1 < 4 /\ 0 < p.2.2 /\ p.2.2 <= 64 /\ p.2.1 + p.2.2 <= ssz L := by
 refine pieces_ind (motive := fun off n => off + n <= L -> ∀ p ∈ pieces off n, p.1 < 4 /\ 0 < p.2.2 /\ p.2.2 <= 64 /\ p.2.1 + p.2.2 <= ssz L) (fun off _ p hp => ?_) (fun off n h ih hL p hp => ?_) n off
 ·rw [pieces_zero] at hp; cases hp
 ·have := pk_pos (off := off) h
  rw [pieces_step h] at hp
  rcases List.mem_cons.1 hp with rfl | hp
  ·unfold ssz plS plA; simp only; omega
  ·exact ih (by omega) p hp
def toS (p : Pc) : Sstripe_Piece := ⟨(p.1 : Int), (p.2.1 : Int), (p.2.2 : Int)⟩
def toR (p : Pc) : Sneedlestoreref05_Piece := ⟨(p.1 : Int), (p.2.1 : Int), (p.2.2 : Int)⟩
theorem apd1 {α : Type} {B : Nat} {l : List α} {x : α} (hB : B <= 100) (hl : l.length <= 100000000) : apd B l [x] = some (l ++ [x]) := by
 refine apd_of ⟨?_, by simp only [List.length_singleton]; omega⟩
 refine Nat.le_trans (Nat.mul_le_mul_left _ hB) ?_
 simp only [List.length_singleton]; omega
theorem stripe_loop (n off : Nat) : ∀ (q : Nat) (acc : List Sstripe_Piece), n < q -> off + n <= 4700000000000000000 -> acc.length + n <= 100000000 ->
  m_stripe_Pieces_l0 ((off + n : Nat) : Int) q acc (off : Int) = some (acc ++ (pieces off n).map toS, 0) := by
 refine pieces_ind (motive := fun off n => ∀ (q : Nat) (acc : List Sstripe_Piece), n < q -> off + n <= 4700000000000000000 -> acc.length + n <= 100000000 -> m_stripe_Pieces_l0 ((off + n : Nat) : Int) q acc (off : Int) = some (acc ++ (pieces off n).map toS, 0)) (fun off q acc hq _ _ => ?_) (fun off n h ih q acc hq hb ha => ?_) n off
 ·obtain ⟨q, rfl⟩ : ∃ q', q = q' + 1 := ⟨q - 1, by omega⟩
  unfold m_stripe_Pieces_l0
  rw [if_neg (by omega), pieces_zero, List.map_nil, List.append_nil]
 ·obtain ⟨q, rfl⟩ : ∃ q', q = q' + 1 := ⟨q - 1, by omega⟩
  have hk := pk_pos (off := off) h
  unfold m_stripe_Pieces_l0
  have e : (min ((64 : Int) - (off : Int) % 64) (((off + n : Nat) : Int) - (off : Int))) = ((pk off n : Nat) : Int) := by unfold pk; omega
  rw [if_pos (by omega), rmi_of (by omega) (by omega), obs, ck_of (by omega), obs, ck_of (by omega), obs, stripe_place_nat off (by omega), obs, e,
   apd1 (by omega) (by omega), obs, ck_of (by omega), obs]
  have := ih q (acc ++ [toS (plS off, plA off, pk off n)]) (by omega) (by omega) (by rw [List.length_append, List.length_singleton]; omega)
  rw [show off + pk off n + (n - pk off n) = off + n by omega] at this
  rw [show ((off : Int) + (pk off n : Int)) = ((off + pk off n : Nat) : Int) by omega]
  refine this.trans ?_
  rw [pieces_step h, List.map_cons, List.append_assoc]; rfl
theorem stripe_Pieces_nat {off n : Nat} (h1 : off <= 4611686018427387904) (h2 : n <= 1048576) : m_stripe_Pieces (off : Int) (n : Int) = some ((pieces off n).map toS, 0) := by
 unfold m_stripe_Pieces
 rw [if_neg (by omega), if_neg (by omega), if_neg (by omega), if_neg (by omega), ck_of (by omega), obs]
 have := stripe_loop n off forever [] (by unfold forever; omega) (by omega) (by simp; omega)
 rw [List.nil_append] at this
 exact this
theorem r05_loop (b t : Nat) (hb : b + t <= 4700000000000000000) (n : Nat) : ∀ (i q : Nat) (acc : List Sneedlestoreref05_Piece), i + n = t -> n < q -> acc.length + n <= 100000000 ->
  m_r05_Pieces_l2 (b : Int) (t : Int) q acc (i : Int) = some (acc ++ (pieces (b + i) n).map toR, 0) := by
 induction n using Nat.strongRecOn with
 | _ n ih =>
  intro i q acc hi hq ha
  obtain ⟨q, rfl⟩ := sucq hq
  unfold m_r05_Pieces_l2
  rcases Nat.eq_zero_or_pos n with h | h
  ·subst h; rw [if_neg (by omega), pieces_zero, List.map_nil, List.append_nil]; rfl
  ·have hk := pk_pos (off := b + i) h
   have e0 : ck ((b : Int) + (i : Int)) = some ((b + i : Nat) : Int) := by rw [ck_of (by omega)]; rfl
   have e : (min ((64 : Int) - ((b + i : Nat) : Int) % 64) ((t : Int) - (i : Int))) = ((pk (b + i) n : Nat) : Int) := by unfold pk; omega
   rw [if_pos (by omega), e0, obs, r05_Place_nat _ (by omega), obs, obs, rmi_of (by omega) (by omega), obs, ck_of (by omega), obs, ck_of (by omega), obs, e,
    apd1 (by omega) (by omega), obs, ck_of (by omega), obs]
   have := ih (n - pk (b + i) n) (by omega) (i + pk (b + i) n) q (acc ++ [toR (plS (b + i), plA (b + i), pk (b + i) n)]) (by omega) (by omega) (by rw [List.length_append, List.length_singleton]; omega)
   rw [show ((i : Int) + (pk (b + i) n : Int)) = ((i + pk (b + i) n : Nat) : Int) by omega]
   refine this.trans ?_
   rw [pieces_step h, List.map_cons, List.append_assoc, Nat.add_assoc]; rfl
theorem r05_Pieces_nat {off n : Nat} (h1 : off <= 4611686018427387904) (h2 : n <= 1048576) : m_r05_Pieces (off : Int) (n : Int) = some ((pieces off n).map toR, 0) := by
 unfold m_r05_Pieces m_r05_Pieces_j0
 rw [if_neg (by omega), if_neg (by omega), if_neg (by omega), if_neg (by omega)]
 have := r05_loop off n (by omega) n 0 forever [] (by omega) (by unfold forever; omega) (by simp; omega)
 rw [List.nil_append, Nat.add_zero] at this
 exact this
def pos (j t : Nat) : Nat := t / 64 * 256 + j * 64 + t % 64
theorem pos_pl (off : Nat) : pos (plS off) (plA off) = off := by unfold pos plS plA; omega
theorem pl_pos {j t : Nat} (h : j < 4) : plS (pos j t) = j /\ plA (pos j t) = t := by unfold pos plS plA; omega
theorem plA_lt {off L : Nat} (h : off < L) : plA off < ssz L := by unfold plA ssz; omega
theorem plS_lt (off : Nat) : plS off < 4 := by unfold plS; omega
def sD (b : By) (j t : Nat) : BitVec 8 := b.getD (pos j t) 0#8
def sDi (b : By) (i j t : Nat) : BitVec 8 := if pos j t < i then b.getD (pos j t) 0#8 else 0#8
def rows (b : By) (i : Nat) : List By := tb 4 fun j => tb (ssz b.length) (sDi b i j)
theorem split_step (b : By) (i : Nat) (hi : i < b.length) :
  tb 4 (st (fun j => tb (ssz b.length) (sDi b i j)) (plS i) (tb (ssz b.length) (st (sDi b i (plS i)) (plA i) (b.getD i 0#8)))) = rows b (i + 1) := by
 refine tb_ext fun j hj => ?_
 by_cases e : j = plS i
 ·subst e
  rw [st_same]
  refine tb_ext fun t _ => ?_
  by_cases e : t = plA i
  ·subst e
   rw [st_same]; unfold sDi; rw [pos_pl, if_pos (by omega)]
  ·rw [st_ne e]; unfold sDi
   have : pos (plS i) t ≠ i := fun h => e (by have := (pl_pos (j := plS i) (t := t) (plS_lt i)).2; rw [h] at this; exact this.symm)
   by_cases h1 : pos (plS i) t < i
   ·rw [if_pos h1, if_pos (by omega)]
   ·rw [if_neg h1, if_neg (by omega)]
 ·rw [st_ne e]
  refine tb_ext fun t _ => ?_
  unfold sDi
  have : pos j t ≠ i := fun h => e (by have := (pl_pos (j := j) (t := t) hj).1; rw [h] at this; exact this.symm)
  by_cases h1 : pos j t < i
  ·rw [if_pos h1, if_pos (by omega)]
  ·rw [if_neg h1, if_neg (by omega)]
theorem split_l3 (b : By) (hb : b.length <= 100000) (d : Nat) : ∀ (i q : Nat), i + d = b.length -> d < q -> m_r05_Split_l3 b q (rows b i) (i : Int) = some (rows b b.length) := by
 induction d with
 | zero =>
  intro i q hi hq
  obtain ⟨q, rfl⟩ := sucq hq
  unfold m_r05_Split_l3
  rw [if_neg (by omega), show i = b.length by omega]; rfl
 | succ d ih =>
  intro i q hi hq
  obtain ⟨q, rfl⟩ := sucq hq
  have h1 : i < b.length := by omega
  unfold m_r05_Split_l3
  rw [if_pos (by omega), r05_Place_nat i (by omega), obs]
  show (idx (rows b i) (plS i : Int)).bind _ = _
  unfold rows
  rw [idx_tb (plS_lt i), obs, idx_nat, List.getElem?_eq_getElem h1, obs]
  show (idx (tb (ssz b.length) (sDi b i (plS i))) (plA i : Int)).bind _ = _
  rw [idx_tb (plA_lt h1), obs]
  show (upd (tb (ssz b.length) (sDi b i (plS i))) (plA i : Int) _).bind _ = _
  rw [upd_tb (plA_lt h1), obs]
  show (upd (tb 4 fun j => tb (ssz b.length) (sDi b i j)) (plS i : Int) _).bind _ = _
  rw [upd_tb (plS_lt i), obs, ck_of (by omega), obs, show b[i] = b.getD i 0#8 by rw [List.getD_eq_getElem?_getD, List.getElem?_eq_getElem h1]; rfl, split_step b i h1]
  exact ih (i + 1) q (by omega) (by omega)
theorem split_l1 (b : By) (hb : b.length <= 100000) (d : Nat) : ∀ (i q : Nat), i + d = 4 -> d < q -> m_r05_Split_l1 b q (tb i fun j => tb (ssz b.length) fun _ => 0#8) (i : Int) = m_r05_Split_j0 b (tb 4 fun j => tb (ssz b.length) fun _ => 0#8) := by
 induction d with
 | zero =>
  intro i q hi hq
  obtain ⟨q, rfl⟩ := sucq hq
  unfold m_r05_Split_l1
  rw [if_neg (by omega), show i = 4 by omega]
 | succ d ih =>
  intro i q hi hq
  obtain ⟨q, rfl⟩ := sucq hq
  unfold m_r05_Split_l1
  rw [if_pos (by omega), r05_Size_nat _ (by omega), obs, mks_tb (by omega) (by unfold ssz; omega), obs, apd_tb (F := fun _ => tb (ssz b.length) fun _ => 0#8) (by omega) (by omega) rfl, obs, ck_of (by omega), obs]
  exact ih (i + 1) q (by omega) (by omega)
theorem split_ok (b : By) (hb : b.length <= 100000) : m_r05_Split b = some (tb 4 fun j => tb (ssz b.length) (sD b j)) := by
 unfold m_r05_Split
 refine (split_l1 b hb 4 0 forever (by omega) (by unfold forever; omega)).trans ?_
 unfold m_r05_Split_j0
 have e0 : (tb 4 fun j => tb (ssz b.length) fun _ => 0#8) = rows b 0 := tb_ext fun j _ => tb_ext fun t _ => by unfold sDi; rw [if_neg (by omega)]
 rw [e0]
 refine (split_l3 b hb b.length 0 forever (by omega) (by unfold forever; omega)).trans ?_
 congr 1
 refine tb_ext fun j hj => tb_ext fun t ht => ?_
 unfold sDi sD
 by_cases h : pos j t < b.length
 ·rw [if_pos h]
 ·rw [if_neg h, List.getD_eq_getElem?_getD, List.getElem?_eq_none (by omega)]; rfl
theorem piece_read (b : By) {off n : Nat} (h0 : 0 < n) (h : off + n <= b.length) : (tb (pk off n) fun u => sD b (plS off) (plA off + u)) = (b.drop off).take (pk off n) := by
 have hk := pk_pos (off := off) h0
 refine List.ext_getElem? fun u => ?_
 by_cases hu : u < pk off n
 ·rw [tb_get hu, List.getElem?_take, if_pos hu, List.getElem?_drop]
  have : pos (plS off) (plA off + u) = off + u := by unfold pos plS plA; omega
  unfold sD
  rw [this, List.getD_eq_getElem?_getD, List.getElem?_eq_getElem (by omega)]; rfl
 ·rw [List.getElem?_eq_none (by rw [tb_len]; omega), List.getElem?_eq_none (by rw [List.length_take]; omega)]
end Go.Proofs.YtcncappgheopgaaGreat
