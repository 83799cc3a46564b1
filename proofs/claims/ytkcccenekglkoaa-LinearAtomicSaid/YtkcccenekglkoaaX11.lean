/-
 From the rows' readings to typed values: what a readable argument consists of. No conditions.
-/
import Derived.Test.YtkcccenekglkoaaX10
import Derived.Deep.Slices
import Derived.ProofKit
import Derived.OpenShut
import Derived.ShutString
import Derived.ChangeOld
import Derived.WideShapes
import Derived.SizedLaws
namespace Go.Proofs.Ytkcccenekglkoaa
open Go Go.RowKit Go.Deep
set_option linter.unusedVariables false
set_option linter.unusedSimpArgs false
theorem Fn.law {P : Program} {f : FuncId} {args : Array Value} {w : World} (h : Fn P f args (Mem.snap w) fun r _ es => r = .bool true /\ es = []) :
  Calls P f args w fun e w' => e = .returned (.bool true) /\ Below w.heap.size w w' :=
 (h w (Holds.snap w)).mono fun e w' ⟨r, M', es, he, hr, _, hb, _⟩ => ⟨by rw [he, hr.1], hb⟩
section
variable {H : Type} {enc : TypeId × Value -> H} {P : Program} {w : World} {base : Nat} {spare : Nat -> Bool} {held : Bool} {fuel : Nat} {t e : TypeId} {cs : List Value} {x : DataW H × List MemPlace}
theorem opn_u8 (ht : P.underlying t = some (.int .u8)) (h : DataW.trod enc P w base spare held fuel t cs = some x) : ∃ a : BitVec 8, cs = [U8 a] := by
 obtain ⟨n, rfl, _, hw⟩ := DataW.trod_int ht h
 have := bounds_u8 hw
 exact ⟨BitVec.ofInt 8 n, by show [Value.int .u8 n] = [Value.int .u8 ((BitVec.ofInt 8 n).toNat : Int)]; rw [BitVec.toNat_ofInt]; congr 2; omega⟩
theorem opn_u32 (ht : P.underlying t = some (.int .u32)) (h : DataW.trod enc P w base spare held fuel t cs = some x) : ∃ a : BitVec 32, cs = [U32 a] := by
 obtain ⟨n, rfl, _, hw⟩ := DataW.trod_int ht h
 have := bounds_u32 hw
 exact ⟨BitVec.ofInt 32 n, by show [Value.int .u32 n] = [Value.int .u32 ((BitVec.ofInt 32 n).toNat : Int)]; rw [BitVec.toNat_ofInt]; congr 2; omega⟩
theorem opn_u64 (ht : P.underlying t = some (.int .u64)) (h : DataW.trod enc P w base spare held fuel t cs = some x) : ∃ a : BitVec 64, cs = [U64 a] := by
 obtain ⟨n, rfl, _, hw⟩ := DataW.trod_int ht h
 have := bounds_u64 hw
 exact ⟨BitVec.ofInt 64 n, by show [Value.int .u64 n] = [Value.int .u64 ((BitVec.ofInt 64 n).toNat : Int)]; rw [BitVec.toNat_ofInt]; congr 2; omega⟩
theorem opn_i64 (ht : P.underlying t = some (.int .i64)) (h : DataW.trod enc P w base spare held fuel t cs = some x) : ∃ a : Int, cs = [I64 a] /\ -9223372036854775808 <= a /\ a <= 9223372036854775807 := by
 obtain ⟨n, rfl, _, hw⟩ := DataW.trod_int ht h
 exact ⟨n, rfl, bounds_i64 hw⟩
theorem opn_bool (ht : P.underlying t = some .bool) (h : DataW.trod enc P w base spare held fuel t cs = some x) : ∃ a : Bool, cs = [.bool a] := by
 obtain ⟨b, rfl, _⟩ := DataW.trod_bool ht h
 exact ⟨b, rfl⟩
theorem opn_struct {fs : Array Field} (hs : P.underlying t = some (.struct fs)) (h : DataW.trod enc P w base spare held fuel t cs = some x) :
  cs.length = P.cellsOf t /\ ∃ n, ∀ (i : Nat) (f : Field), fs[i]? = some f -> ∃ y, DataW.trod enc P w base spare held n f.type ((cs.drop f.offset).take (P.cellsOf f.type)) = some y := by
 obtain ⟨xs, n, _, _, hl, h1, h2⟩ := DataW.trod_struct hs h
 refine ⟨hl, n, fun i f hf => ?_⟩
 have hi : i < xs.length := by rw [h1]; exact (Array.getElem?_eq_some_iff.1 hf).1
 exact ⟨xs[i], by rw [h2 i f hf, List.getElem?_eq_getElem hi]⟩
theorem rels_of {ρ δ : Type} (n : Nat) {p : Nat -> ρ -> δ -> Prop} (h : ∀ i, i < n -> ∃ r x, p i r x) :
  ∃ (rs : List ρ) (xs : List δ), rs.length = n /\ xs.length = n /\ ∀ (i : Nat) (r : ρ) (x : δ), rs[i]? = some r -> xs[i]? = some x -> p i r x := by
 induction n with
 | zero => exact ⟨[], [], rfl, rfl, fun i r x h => by simp at h⟩
 | succ n ih =>
  obtain ⟨rs, xs, h1, h2, h3⟩ := ih fun i hi => h i (by omega)
  obtain ⟨r, x, hp⟩ := h n (by omega)
  refine ⟨rs ++ [r], xs ++ [x], by simp [h1], by simp [h2], fun i r' x' g1 g2 => ?_⟩
  rw [List.getElem?_append] at g1 g2
  split at g1
  ·rename_i hi
   rw [if_pos (by omega)] at g2
   exact h3 i _ _ g1 g2
  ·rename_i hi
   rw [if_neg (by omega)] at g2
   have e1 : i - rs.length = 0 := by
    rcases Nat.eq_zero_or_pos (i - rs.length) with h | h
    ·exact h
    ·rw [List.getElem?_eq_none (by simp; omega)] at g1; cases g1
   rw [e1] at g1
   rw [show i - xs.length = 0 by omega] at g2
   simp at g1 g2; subst g1; subst g2
   rwa [show i = n by omega]
theorem opn_deep {ρ δ : Type} [Lay ρ] {R : ρ -> δ -> Prop} {Q : δ -> Prop} (ht : P.underlying t = some (.slice e)) (hc : P.cellsOf e = Lay.sz ρ)
  (hE : ∀ n cs y, DataW.trod enc P w base spare held n e cs = some y -> cs.length = Lay.sz ρ -> ∃ (r : ρ) (x : δ), cs = Lay.enc r /\ R r x /\ Q x)
  (h : DataW.trod enc P w base spare held fuel t cs = some x) :
  ∃ (A : Option Addr) (n c : Nat) (rs : List ρ) (xs : List δ), cs = [.slice A n c] /\ SlT (Mem.snap w) A n c rs /\ Rels R rs xs /\ ∀ x ∈ xs, Q x := by
 rcases open_slice ht h with ⟨rfl, _⟩ | ⟨a, len, cap, m, n, D, Pl, rfl, hb, hl, hm, hmm, _, hx⟩
 ·exact ⟨none, 0, 0, [], [], rfl, SlT.nil, Rels.nil, by simp⟩
 ·have hlm : len <= m := by rw [hmm]; split <;> omega
  have key : ∀ i, i < len -> ∃ (r : ρ) (x : δ), w.cells? base (a.add (i * P.cellsOf e)) (P.cellsOf e) = some (Lay.enc r) /\ R r x /\ Q x := by
   intro i hi
   obtain ⟨cs', h1, h2⟩ := hx i (by omega)
   obtain ⟨_, hlen, _⟩ := World.cells?_some h1
   obtain ⟨r, x, rfl, h3, h4⟩ := hE _ _ _ h2 (by rw [hlen, hc])
   exact ⟨r, x, h1, h3, h4⟩
  obtain ⟨rs, xs, h1, h2, h3⟩ := rels_of len key
  refine ⟨some a, len, cap, rs, xs, rfl, ⟨by rw [cel_length, h1], hl, hm, fun j u hj => ⟨rfl, ?_⟩⟩, ⟨by rw [h1, h2], fun i r x g1 g2 => (h3 i r x g1 g2).2.1⟩, fun x hx => ?_⟩
  ·rw [Mem.snap_cell]
   have hjl : j < (cel rs).length := (List.getElem?_eq_some_iff.1 hj).1
   rw [cel_length] at hjl
   have hpos : 0 < Lay.sz ρ := Lay.pos
   have hdm := Nat.div_add_mod j (Lay.sz ρ)
   have hil : j / Lay.sz ρ < rs.length := by
    rw [Nat.div_lt_iff_lt_mul hpos]; exact hjl
   have hil2 : j / Lay.sz ρ < xs.length := by omega
   obtain ⟨hcell, _⟩ := h3 (j / Lay.sz ρ) _ _ (List.getElem?_eq_getElem hil) (List.getElem?_eq_getElem hil2)
   obtain ⟨_, _, hget⟩ := World.cells?_some hcell
   have hmod : j % Lay.sz ρ < Lay.sz ρ := Nat.mod_lt _ hpos
   have e1 : j = (j / Lay.sz ρ) * Lay.sz ρ + j % Lay.sz ρ := by rw [Nat.mul_comm]; exact hdm.symm
   have e2 := cel_get (List.getElem?_eq_getElem hil) hmod
   rw [<- e1, hj] at e2
   have hml : j % Lay.sz ρ < (Lay.enc rs[j / Lay.sz ρ]).length := by rw [Lay.len]; exact hmod
   rw [List.getElem?_eq_getElem hml] at e2
   injection e2 with e2
   have := hget (j % Lay.sz ρ) (by rw [hc]; exact hmod)
   rw [add_add_, hc, <- e1, List.getElem?_eq_getElem hml, <- e2] at this
   exact this
  ·obtain ⟨i, hi, rfl⟩ := List.mem_iff_getElem.1 hx
   have hir : i < rs.length := by omega
   exact (h3 i _ _ (List.getElem?_eq_getElem hir) (List.getElem?_eq_getElem hi)).2.2
theorem rels_eq {α : Type} {rs xs : List α} (h : Rels (fun r x => r = x) rs xs) : rs = xs := by
 apply List.ext_getElem? 
 intro i
 by_cases hi : i < rs.length
 ·have hi2 : i < xs.length := by rw [<- h.len]; exact hi
  rw [List.getElem?_eq_getElem hi, List.getElem?_eq_getElem hi2, h.get i _ _ (List.getElem?_eq_getElem hi) (List.getElem?_eq_getElem hi2)]
 ·rw [List.getElem?_eq_none (by omega), List.getElem?_eq_none (by rw [<- h.len]; omega)]
theorem opn_slice {α : Type} [Lay α] {Q : α -> Prop} (ht : P.underlying t = some (.slice e)) (hc : P.cellsOf e = Lay.sz α)
  (hE : ∀ n cs y, DataW.trod enc P w base spare held n e cs = some y -> cs.length = Lay.sz α -> ∃ a : α, cs = Lay.enc a /\ Q a)
  (h : DataW.trod enc P w base spare held fuel t cs = some x) :
  ∃ (A : Option Addr) (n c : Nat) (xs : List α), cs = [.slice A n c] /\ SlT (Mem.snap w) A n c xs /\ ∀ a ∈ xs, Q a := by
 obtain ⟨A, n, c, rs, xs, h1, h2, h3, h4⟩ := opn_deep (ρ := α) (δ := α) (R := fun r x => r = x) (Q := Q) ht hc (fun n cs y hy hl => let ⟨a, h1, h2⟩ := hE n cs y hy hl; ⟨a, a, h1, rfl, h2⟩) h
 have := rels_eq h3
 subst this
 exact ⟨A, n, c, rs, h1, h2, h4⟩
end
end Go.Proofs.Ytkcccenekglkoaa
