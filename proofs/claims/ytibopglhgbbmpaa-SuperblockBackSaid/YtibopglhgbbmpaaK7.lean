/-
  A small symbolic executor for the walk, part 7: the same operations with the cells read as a typed list ('xs.map f').
  Conditions: none; plain lemmas over any program.
-/
import Derived.Test.YtibopglhgbbmpaaK6
namespace Go.Proofs.Ytibopglhgbbmpaa
open Go Go.RowKit
set_option linter.unusedVariables false

/-- a slice as a value -/
def SV (p : Option Addr × Nat × Nat) : Value := .slice p.1 p.2.1 p.2.2
/-- functions whose values fill one cell -/
class One {α : Type} (f : α → Value) : Prop where
  one : ∀ a, (f a).oneCell' = true
instance : One U8 := ⟨fun _ => rfl⟩
instance : One U16 := ⟨fun _ => rfl⟩
instance : One U32 := ⟨fun _ => rfl⟩
instance : One U64 := ⟨fun _ => rfl⟩
instance : One I64 := ⟨fun _ => rfl⟩
instance : One Value.bool := ⟨fun _ => rfl⟩
instance : One SV := ⟨fun _ => rfl⟩
theorem one_map {α : Type} (f : α → Value) [One f] (xs : List α) : ∀ u ∈ xs.map f, u.oneCell' = true := fun u hu => by
  obtain ⟨a, _, rfl⟩ := List.mem_map.1 hu; exact One.one a

section
variable {P : Program} {N : Nat} {w0 : World} {env : Env} {H : Heap} {ops : Array Oper} {K : Act → World → Prop} {rest : List Oper}
variable {sz : Nat} {A : Option Addr} {n c : Nat} {cs : List Value} {α : Type} {f : α → Value}
variable {d : Option Tmp} {ty T T' E : TypeId} {pos : String} {after : Array Edge} {g : Option (Nat × Bool)} {x y : Operand} {z : Value} {bytes : Nat}

theorem Eff.appendM [One f] (k : Nat) {s : Operand} {m c' : Nat} {A' : Option Addr} {xs ys : List α} (hT : STy P T E z 1 bytes) (hs1 : evl env s = some (.slice A n c)) (hk : look H k = some (.own E 1 A n c (xs.map f)))
    (hx : evl env x = some (.slice A' m c')) (hr : RdH w0 H 1 A' m c' (ys.map f)) (hb : (n + m) * bytes ≤ 140737488355328 ∧ n + m ≤ 9223372036854775807) :
    Eff P N w0 env H ⟨d, .call ⟨.builtin .append, #[s, x], #[T, T]⟩, ty, pos, after, g⟩ fun v H' => ∃ A2 c2, v = .slice A2 (n + m) c2 ∧ H' = (k, .own E 1 A2 (n + m) c2 ((xs ++ ys).map f)) :: H :=
  (Eff.append k hT (by omega) hs1 hk hx hr (one_map f ys) ⟨hb.1, by unfold maxLen; omega⟩).weaken fun v H' ⟨A2, c2, h1, h2⟩ => ⟨A2, c2, h1, by rw [h2, List.map_append]⟩

theorem Eff.appendGrowM (k : Nat) {s : Operand} {m c' : Nat} {A' : Option Addr} {xs ys : List α} (hT : STy P T E z 1 bytes) (hk : look H k = none) (hs1 : evl env s = some (.slice A n c)) (hr0 : RdH w0 H 1 A n c (xs.map f))
    (hx : evl env x = some (.slice A' m c')) (hr : RdH w0 H 1 A' m c' (ys.map f)) (hgrow : c < n + m ∧ 0 < m ∧ 0 < n) (hb : (n + m) * bytes ≤ 140737488355328 ∧ n + m ≤ 9223372036854775807) :
    Eff P N w0 env H ⟨d, .call ⟨.builtin .append, #[s, x], #[T, T]⟩, ty, pos, after, g⟩ fun v H' => ∃ A2 c2, v = .slice A2 (n + m) c2 ∧ H' = (k, .own E 1 A2 (n + m) c2 ((xs ++ ys).map f)) :: H :=
  (Eff.appendGrow k hT (by omega) hk hs1 hr0 hx hr hgrow ⟨hb.1, by unfold maxLen; omega⟩).weaken fun v H' ⟨A2, c2, h1, h2⟩ => ⟨A2, c2, h1, by rw [h2, List.map_append]⟩

theorem Eff.buildSliceM (f : α → Value) [One f] (k : Nat) {len : Nat} {parts : List (Nat × Operand)} {us : List Value} (ys : List α) (hT : STy P T E z 1 bytes) (hz : z.oneCell' = true) (hk : look H k = none) (hv : evlE env 0 parts = some us) (hu : us = ys.map f) (hl : ys.length = len)
    (hlen : len ≤ 16777216) :
    Eff P N w0 env H ⟨d, .buildSlice T len parts.toArray, ty, pos, after, g⟩ fun v H' => ∃ gb, v = .slice (some ⟨gb, 0, none⟩) len len ∧ H' = (k, .own E 1 (some ⟨gb, 0, none⟩) len len (ys.map f)) :: H := by
  subst hu
  exact Eff.buildSlice k hT hz hk hv (by simpa using hl) (by rw [List.all_eq_true]; exact one_map f ys) hlen

theorem Eff.makeM (f : α → Value) [One f] (k : Nat) (a0 : α) {m m' : Int} {kl kc : IntKind} (hT : STy P T E (f a0) 1 bytes) (hk : look H k = none) (hx : evl env x = some (.int kl m)) (hy : evl env y = some (.int kc m')) (hmm : m' = m) (h0 : 0 ≤ m ∧ m ≤ 281474976710656 ∧ bytes * m.toNat ≤ 281474976710656) :
    Eff P N w0 env H ⟨d, .makeSlice T x y, ty, pos, after, g⟩ fun v H' => ∃ gb, v = .slice (some ⟨gb, 0, none⟩) m.toNat m.toNat ∧ H' = (k, .own E 1 (some ⟨gb, 0, none⟩) m.toNat m.toNat ((List.replicate m.toNat a0).map f)) :: H :=
  (Eff.make k hT (One.one a0) hk hx hy hmm h0.1 h0.2.1 h0.2.2).weaken fun v H' ⟨gb, h1, h2⟩ => ⟨gb, h1, by rw [h2, List.map_replicate]⟩

theorem Eff0.weaken {o : Oper} {H1 H2 : Heap} (h : Eff0 P N w0 env H o H1) (e : H1 = H2) : Eff0 P N w0 env H o H2 := by subst e; exact h

theorem Eff0.storeBM (f : α → Value) [One f] (k : Nat) {gb j : Nat} {t : TypeId} {os : List α} {a : α} (hsz : (P.info? T).map (·.size) = some 1) (hx : evl env x = some (.pointer (some ⟨gb, j, none⟩))) (hy : evl env y = some (f a))
    (hk : look H k = some (.blk gb t (os.map f))) (hj : j < os.length) : Eff0 P N w0 env H ⟨none, .store T x y, ty, pos, after, g⟩ ((k, .blk gb t ((os.set j a).map f)) :: H) :=
  (Eff0.storeB k hsz hx hy (One.one a) hk (by simpa using hj)).weaken (by rw [List.map_set])
theorem Eff0.storeOM (f : α → Value) [One f] (k : Nat) {j : Nat} {os : List α} {a : α} (hsz : (P.info? T).map (·.size) = some 1) (hx : evl env x = some (.pointer (some ((adr A).add j)))) (hy : evl env y = some (f a))
    (hk : look H k = some (.own E sz A n c (os.map f))) (hj : j < os.length) : Eff0 P N w0 env H ⟨none, .store T x y, ty, pos, after, g⟩ ((k, .own E sz A n c ((os.set j a).map f)) :: H) :=
  (Eff0.storeO k hsz hx hy (One.one a) hk (by simpa using hj)).weaken (by rw [List.map_set])

/-- a whole array of a block -/
theorem Yld.loadBM {k gb s : Nat} {t : TypeId} (ha : Agg P T s) (hx : evl env x = some (.pointer (some ⟨gb, 0, none⟩))) (hk : look H k = some (.blk gb t cs)) (hl : cs.length = s) :
    Yld P N w0 env H ⟨d, .load T x, ty, pos, after, g⟩ (.agg cs.toArray) := by
  subst hl; exact Yld.loadBA ha hx hk
theorem Eff0.storeBAM (k : Nat) {gb s : Nat} {t : TypeId} {us : List Value} (ha : Agg P T s) (hx : evl env x = some (.pointer (some ⟨gb, 0, none⟩))) (hy : evl env y = some (.agg us.toArray))
    (hk : look H k = some (.blk gb t cs)) (hl : us.length = s ∧ cs.length = s) (hu : us.all (·.oneCell') = true) : Eff0 P N w0 env H ⟨none, .store T x y, ty, pos, after, g⟩ ((k, .blk gb t us) :: H) := by
  obtain ⟨h1, h2⟩ := hl
  subst h1
  exact Eff0.storeBA k ha.size hx hy hu hk h2
theorem all_one [One f] (xs : List α) : (xs.map f).all (·.oneCell') = true := by rw [List.all_eq_true]; exact one_map f xs

theorem ResIs.cellM {fn : Func} {a' : Tmp} {gb k s : Nat} {t : TypeId} (h : fn.results = #[.cell a' T]) (ha : Agg P T s) (he : look env a' = some (.pointer (some ⟨gb, 0, none⟩))) (hk : look H k = some (.blk gb t cs)) (hl : cs.length = s) :
    ResIs P N w0 fn env H (.agg cs.toArray) := by
  subst hl; exact ResIs.cell h ha he hk

theorem WL.newH {k : Nat} {e e' : HE} (h1 : e = e') (h : WL P N w0 ops K rest env ((k, e') :: H)) : WL P N w0 ops K rest env ((k, e) :: H) := by subst h1; exact h
theorem WS.yldG {Hro : Heap} {fuel : Nat} {listed : Array Bool} {i d j : Nat} {want : Bool} {op : Op} {ty : TypeId} {pos : String} {after : Array Edge} {v : Value} (hi : ops[i]? = some ⟨some d, op, ty, pos, after, some (j, want)⟩) (hd : d < N) (hj : guardIs ops env j = some (.bool want))
    (h : Yld P N w0 env H ⟨some d, op, ty, pos, after, some (j, want)⟩ v)
    (k : WD P N w0 ops K Hro fuel (listed.setIfInBounds i true) ((d, v) :: env) H) : WS P N w0 ops K Hro fuel listed env H i := by
  intro hsub a w hst
  unfold wpOp
  simp only [hi]
  rw [if_pos (by rw [wanted_of hst rfl hj]; simp)]
  refine .inl ?_
  unfold Oper.wp
  rw [h a w hst]
  have hst' := hst.put hd v
  exact ⟨hst'.ss hsub, k hsub _ _ hst'⟩

/-- an int that is not negative, as a shift's count -/
theorem Yld.conv_i64_uint {n : Int} (hs : (P.underlying T).isSome = true) (hd : P.underlying T' = some (.int .u64)) (hx : evl env x = some (.int .i64 n)) (h : 0 ≤ n ∧ n ≤ 9223372036854775807) :
    Yld P N w0 env H ⟨d, .convert T T' x, ty, pos, after, g⟩ (.int .u64 n) :=
  yld_conv hs hd hx (by rw [wrap_u64]; omega)
end
end Go.Proofs.Ytibopglhgbbmpaa
