/-
  From the rows' readings to this executor's: slices of integers that came in; the end of a law; the least of four ints; indexes modulo a length.
  Conditions: none; plain lemmas over any program.
-/
import Derived.Test.YtibopglhgbbmpaaK7
import Derived.ProofKit
import Derived.OpenShut
import Derived.ShutString
import Derived.ChangeOld
namespace Go.Proofs.Ytibopglhgbbmpaa
open Go Go.RowKit
set_option linter.unusedVariables false

theorem Fn.law {P : Program} {f : FuncId} {args : Array Value} {w : World} (h : Fn P f args w fun r _ => r = .bool true) :
    Calls P f args w fun e w' => e = .returned (.bool true) ∧ Below w.heap.size w w' :=
  h.mono fun e w' ⟨r, es, he, hr, hb, _⟩ => ⟨by rw [he, hr], hb⟩

/-- what is told of a slice of integers that came in -/
def IsRow (k : IntKind) (w : World) (a : Option Addr) (len cap : Nat) (zs : List Int) : Prop :=
  (a = none ∧ len = 0 ∧ cap = 0 ∧ zs = []) ∨
  ∃ x, a = some x ∧ len ≤ cap ∧ cap ≤ maxLen ∧ zs.length = cap ∧ (∀ i, i < zs.length → w.cell? (x.add i) = some (.int k (zs.getD i 0))) ∧ ∀ n ∈ zs, (Lit.int k n).wf = true

theorem IsRow.ints {k : IntKind} {w : World} {a : Option Addr} {len cap : Nat} {zs : List Int} (h : IsRow k w a len cap zs) :
    SlR w 1 a len cap ((zs.take len).map (Value.int k)) ∧ (∀ n ∈ zs.take len, (Lit.int k n).wf = true) ∧ (zs.take len).length = len := by
  rcases h with ⟨rfl, rfl, rfl, rfl⟩ | ⟨x, rfl, hl, hm, hz, hcell, hwz⟩
  · exact ⟨SlR.nil w 1, by simp, by simp⟩
  · have hlen : (zs.take len).length = len := by simp; omega
    refine ⟨⟨by simp; omega, hl, hm, fun j u hj => ⟨rfl, ?_⟩⟩, fun n hn => hwz n (List.mem_of_mem_take hn), hlen⟩
    rw [List.getElem?_map] at hj
    have hjl : j < len := by
      rcases Nat.lt_or_ge j len with h1 | h1
      · exact h1
      · rw [List.getElem?_eq_none (by omega)] at hj; cases hj
    rw [List.getElem?_take, if_pos hjl] at hj
    have := hcell j (by omega)
    rw [List.getD_eq_getElem?_getD] at this
    rw [List.getElem?_eq_getElem (by omega)] at hj this
    simp at hj this
    simp only [adr, Option.getD_some]
    rw [this, ← hj]

theorem IsRow.bv8 {w : World} {a : Option Addr} {len cap : Nat} {zs : List Int} (h : IsRow .u8 w a len cap zs) : ∃ xs : List (BitVec 8), SlR w 1 a len cap (xs.map U8) := by
  obtain ⟨h1, h2, _⟩ := h.ints
  refine ⟨(zs.take len).map (BitVec.ofInt 8), ?_⟩
  rw [List.map_map]
  have e : (zs.take len).map (Value.int .u8) = (zs.take len).map (U8 ∘ BitVec.ofInt 8) := List.map_congr_left fun n hn => by
    have := bounds_u8 (h2 n hn)
    show Value.int .u8 n = Value.int .u8 ((BitVec.ofInt 8 n).toNat : Int)
    rw [BitVec.toNat_ofInt]; congr 1; omega
  rw [← e]; exact h1
theorem IsRow.bv64 {w : World} {a : Option Addr} {len cap : Nat} {zs : List Int} (h : IsRow .u64 w a len cap zs) : ∃ xs : List (BitVec 64), SlR w 1 a len cap (xs.map U64) := by
  obtain ⟨h1, h2, _⟩ := h.ints
  refine ⟨(zs.take len).map (BitVec.ofInt 64), ?_⟩
  rw [List.map_map]
  have e : (zs.take len).map (Value.int .u64) = (zs.take len).map (U64 ∘ BitVec.ofInt 64) := List.map_congr_left fun n hn => by
    have := bounds_u64 (h2 n hn)
    show Value.int .u64 n = Value.int .u64 ((BitVec.ofInt 64 n).toNat : Int)
    rw [BitVec.toNat_ofInt]; congr 1; omega
  rw [← e]; exact h1
theorem IsRow.i64 {w : World} {a : Option Addr} {len cap : Nat} {zs : List Int} (h : IsRow .i64 w a len cap zs) : ∃ xs : List Int, SlR w 1 a len cap (xs.map I64) ∧ ∀ n ∈ xs, -9223372036854775808 ≤ n ∧ n ≤ 9223372036854775807 := by
  obtain ⟨h1, h2, _⟩ := h.ints
  exact ⟨zs.take len, h1, fun n hn => bounds_i64 (h2 n hn)⟩
theorem bv8_of {n : Int} (h : (Lit.int .u8 n).wf = true) : ∃ x : BitVec 8, Value.int .u8 n = U8 x := by
  have := bounds_u8 h
  exact ⟨BitVec.ofInt 8 n, by
    show Value.int .u8 n = Value.int .u8 ((BitVec.ofInt 8 n).toNat : Int)
    rw [BitVec.toNat_ofInt]; congr 1; omega⟩
theorem bv32_of {n : Int} (h : (Lit.int .u32 n).wf = true) : ∃ x : BitVec 32, Value.int .u32 n = U32 x := by
  have := bounds_u32 h
  exact ⟨BitVec.ofInt 32 n, by
    show Value.int .u32 n = Value.int .u32 ((BitVec.ofInt 32 n).toNat : Int)
    rw [BitVec.toNat_ofInt]; congr 1; omega⟩
theorem bv64_of {n : Int} (h : (Lit.int .u64 n).wf = true) : ∃ x : BitVec 64, Value.int .u64 n = U64 x := by
  have := bounds_u64 h
  exact ⟨BitVec.ofInt 64 n, by
    show Value.int .u64 n = Value.int .u64 ((BitVec.ofInt 64 n).toNat : Int)
    rw [BitVec.toNat_ofInt]; congr 1; omega⟩

section
variable {P : Program} {N : Nat} {w0 : World} {env : Env} {H : Heap}
variable {d : Option Tmp} {ty : TypeId} {pos : String} {after : Array Edge} {g : Option (Nat × Bool)} {x y z u : Operand}
theorem RdH.nilM {sz : Nat} {α : Type} {f : α → Value} : RdH w0 H sz none 0 0 (([] : List α).map f) := fun w _ _ => SlR.nil w sz
theorem Yld.min4 {a b c e : Int} {ts : Array TypeId} (hx : evl env x = some (I64 a)) (hy : evl env y = some (I64 b)) (hz : evl env z = some (I64 c)) (hu : evl env u = some (I64 e)) :
    Yld P N w0 env H ⟨d, .call ⟨.builtin .min, #[x, y, z, u], ts⟩, ty, pos, after, g⟩ (I64 (min (min (min a b) c) e)) := fun ac w hs => by
  simp [execOp, resolve, invoke, builtin, hs.eval hx, hs.eval hy, hs.eval hz, hs.eval hu, Builtin.min_, Builtin.min2]
  omega
end
theorem tmod_bd (a n : Int) (hn : 0 < n) : -n < a.tmod n ∧ a.tmod n < n := by
  have h1 := Int.tmod_lt_of_pos a hn
  have h2 := Int.lt_tmod_of_pos a hn
  omega
/-- '(a%n + n) % n' -/
theorem idx_mod (a : Int) (n : Nat) (hn : 0 < n) : ∃ k : Nat, (a.tmod n + n) % n = (k : Int) ∧ k < n := by
  have h1 := tmod_bd a n (by omega)
  have h2 := Int.emod_nonneg (a.tmod n + n) (b := (n : Int)) (by omega)
  have h3 := Int.emod_lt_of_pos (a.tmod n + n) (b := (n : Int)) (by omega)
  exact ⟨((a.tmod n + n) % n).toNat, by omega, by omega⟩
end Go.Proofs.Ytibopglhgbbmpaa
