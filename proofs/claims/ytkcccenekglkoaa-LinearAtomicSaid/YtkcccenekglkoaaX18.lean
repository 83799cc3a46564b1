/-
 A small symbolic executor for the walk, part 18: a loop whose first round stands alone, copy into a part of an own slice or of a row, make with a capacity, cutting an own slice, sorting.
 Conditions: none; plain lemmas over any program.
-/
import Derived.Test.YtkcccenekglkoaaX17
import Derived.Lib.AppendZeros
import Derived.Maps.RangeRun
namespace Go.Proofs.Ytkcccenekglkoaa
open Go Go.RowKit
set_option linter.unusedVariables false
section
variable {H : Heap} {E : TypeId} {sz : Nat} {A : Option Addr} {n c : Nat}
theorem HStep.cutOwn {n' : Nat} {us : List Value} (k : Nat) (hk : look H k = some (.own E sz A n c us)) (hn : n' <= n) : HStep H ((k, .own E sz A n' c (us.take (n' * sz))) :: H) := fun B w h => by
 refine h.set k _ (Nat.le_refl _) (fun _ _ _ => rfl) ?_ (fun i hi => .inl ⟨_, hk, hi⟩)
 rcases h.sat k _ hk with ⟨hl, h1⟩ | ⟨h1, h2, h3⟩
 ·left
  have hmul : n' * sz <= n * sz := Nat.mul_le_mul_right _ hn
  refine ⟨by rw [List.length_take, hl]; omega, ?_⟩
  rcases h1 with ⟨hv, hx⟩ | ⟨g, cap, cur, hv, hb, hg, hnc, hcm, hcs, ht⟩
  ·left
   obtain ⟨e1, e2, e3⟩ := Value.slice.inj hv
   have e0 : n' = 0 := by omega
   exact ⟨by rw [e1, e0, e3], e0⟩
  ·right
   obtain ⟨e1, _, e3⟩ := Value.slice.inj hv
   subst e1; subst e3
   refine ⟨g, c, cur, rfl, hb, hg, by omega, hcm, hcs, ?_⟩
   rw [<- ht, List.take_take, Nat.min_eq_left hmul]
 ·right
  subst h1; subst h3
  obtain rfl : n' = 0 := by omega
  exact ⟨rfl, h2, by simp⟩
end
section
variable {P : Program} {N : Nat} {w0 : World} {env : Env} {H : Heap} {α : Type} [Lay α] {xs ys bs : List α} {A : Option Addr} {n c bytes : Nat} {z : Value}
variable {d : Option Tmp} {ty T E : TypeId} {pos : String} {after : Array Edge} {g : Option (Nat × Bool)} {x y : Operand}
theorem take_mid {β : Type} (cur cs : List β) {lo n : Nat} (h : lo + cs.length <= n) (hn : n <= cur.length) : (cur.take lo ++ cs ++ cur.drop (lo + cs.length)).take n = (cur.take n).take lo ++ cs ++ (cur.take n).drop (lo + cs.length) := by
 have hl : (cur.take lo ++ cs).length = lo + cs.length := by simp; omega
 rw [List.take_append, hl, List.take_of_length_le (by omega), List.drop_take, List.take_take, Nat.min_eq_left (by omega)]
end
section
variable {P : Program} {N : Nat} {w0 : World} {env : Env} {H : Heap} {α : Type} [Lay α] {hs : List Hdr} {e e' : List (List α)} {ys bs b : List α} {bytes : Nat} {z : Value}
variable {d : Option Tmp} {ty T E : TypeId} {pos : String} {after : Array Edge} {g : Option (Nat × Bool)} {x y : Operand}
theorem HStep.cutTo {E : TypeId} {A : Option Addr} {n c : Nat} {xs bs : List α} {hi : Int} (k : Nat) (hk : look H k = some (.own E (Lay.sz α) A n c (cel xs))) (h : slc xs 0 hi = some bs) : HStep H ((k, .own E (Lay.sz α) A bs.length c (cel bs)) :: H) := fun B w hh => by
 obtain ⟨h1, h2, h3⟩ := slc_some h
 have e1 : n = xs.length := len_of_cel (own_SlR (hh.sat k _ hk))
 have e3 : cel bs = (cel xs).take (bs.length * Lay.sz α) := by
  conv => lhs; rw [h2]
  rw [h3, Int.toNat_zero, Nat.sub_zero, List.drop_zero]; exact (cel_take xs _).symm
 rw [e3]; exact HStep.cutOwn k hk (by omega) B w hh
end
theorem ckl {z x : Int} (h : z = x) (h2 : -9223372036854775808 <= x /\ x <= 9223372036854775807) : ck z = some x := by subst h; exact ck_of h2
namespace Z
section
variable {P : Program} {N : Nat} {w0 : World} {env : Env} {H Hro : Heap} {ops : Array Oper} {r : Option Nat} {Q : Exit -> Act -> World -> Prop}
theorem sd {id n : Nat} {y : Code} (Hro : Heap) (hm : P.follows .mixedOrders = true) (h : ∀ K : Act -> World -> Prop, (∀ e h, WC P N w0 r [] y Q e h -> Go.Proofs.Ytkcccenekglkoaa.KK N w0 K e h) -> WD P N w0 ops K Hro n (Array.replicate n false) env H) (hn : ops.size = n := by exact rfl) (hsub : Sub Hro H := by repeat (first | exact sn | refine sc ?_)) : WC P N w0 r [] (.seq (.region id ops true) y) Q env H := WC.seqRegionD Hro hn hm hsub h
end
end Z
end Go.Proofs.Ytkcccenekglkoaa
