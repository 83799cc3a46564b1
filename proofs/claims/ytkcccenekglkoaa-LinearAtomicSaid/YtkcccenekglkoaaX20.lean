/-
 A small symbolic executor for the walk, part 20: an element of a string; s[:n:n].
 Conditions: none; plain lemmas over any program.
-/
import Derived.Test.YtkcccenekglkoaaX18
import Derived.Test.YtkcccenekglkoaaMq
namespace Go.Proofs.Ytkcccenekglkoaa
open Go Go.RowKit
set_option linter.unusedVariables false
section
variable {P : Program} {N : Nat} {w0 : World} {env : Env} {H : Heap} {d : Option Tmp} {ty T : TypeId} {pos : String} {after : Array Edge} {g : Option (Nat × Bool)} {x y : Operand}
theorem bstr_get (s : List (BitVec 8)) (i : Nat) : (bstr s)[i]? = (s[i]?).map UInt8.ofBitVec := by
 by_cases h : i < s.length
 ·have hs : i < (bstr s).size := by simpa [bstr, ByteArray.size] using h
  rw [getElem?_pos (bstr s) i hs, List.getElem?_eq_getElem h]
  simp [bstr, ByteArray.getElem_eq_getElem_data]
 ·have hs : ¬ i < (bstr s).size := by simpa [bstr, ByteArray.size] using h
  rw [getElem?_neg (bstr s) i hs, List.getElem?_eq_none (by omega)]; rfl
theorem Yld.idxStr {k : IntKind} {m : Int} {s : List (BitVec 8)} {a : BitVec 8} (hT : P.underlying T = some .string) (hx : evl env x = some (.string (bstr s))) (hy : evl env y = some (.int k m)) (h : idx s m = some a) :
  Yld P N w0 env H ⟨d, .index T x y, ty, pos, after, g⟩ (.int .u8 (a.toNat : Int)) := fun b w hs => by
 unfold idx at h
 split at h
 ·rename_i h0
  have h1 : (bstr s)[m.toNat]? = some (UInt8.ofBitVec a) := by rw [bstr_get, h]; rfl
  simp [execOp, hs.eval hx, hs.eval hy, Instr.index, asIntOf, run_underlying hT, h0, h1]
 ·cases h
end
section
variable {α : Type} [Lay α] {P : Program} {N : Nat} {w0 : World} {env : Env} {H : Heap} {d : Option Tmp} {ty T E : TypeId} {pos : String} {after : Array Edge} {g : Option (Nat × Bool)} {x : Operand} {A : Option Addr} {n c : Nat} {xs ys : List α} {z : Value} {bytes : Nat}
theorem SlT.clip {M : Mem} {h : Int} (hm : SlT M A n c xs) (hs : Go.Proofs.Ytkcccenekglkoaa.slc xs 0 h = some ys) : SlT M A ys.length ys.length ys := by
 have h1 := SlT.slc0 hm hs
 exact ⟨h1.len, Nat.le_refl _, Nat.le_trans h1.le h1.cm, h1.cells⟩
theorem Yld.sliceHMC {h : Int} {kh km : IntKind} {hi mx : Operand} (hT : STy P T E z (Lay.sz α) bytes) (hx : evl env x = some (.slice A n c)) (hh : evl env hi = some (.int kh h)) (hx2 : evl env mx = some (.int km h)) (hr : RdT w0 H A n c xs) (hm : slc xs 0 h = some ys) :
  Yld P N w0 env H ⟨d, .slice T x none (some hi) (some mx), ty, pos, after, g⟩ (.slice A ys.length ys.length) := fun a w hs => by
 obtain ⟨⟨h1, h2, h3⟩, _, hlen⟩ := slc_some hm
 have e : ys.length = h.toNat := by rw [hlen]; simp
 rw [e]
 have hc : h <= c := by have := (hr w hs.below hs.heap).le; have := RdT.len hr hs; omega
 have ht : P.underlying T = some (.slice (P.elem T)) := by rw [P_elem hT.under]; exact hT.under
 have hr := run_slice_hm (P := P) w T A n c ht kh km h h h2 (Int.le_refl _) hc
 rw [P_elem hT.under, sizeOf_of hT.size] at hr
 simp only [Result.andThen_ok, sliced] at hr
 have e : (Instr.sliceAt T (.slice A n c) none (some (.int kh h)) (some (.int km h))).run P w = _ := (run_sliceAt_slice w T _ _ _ _ ht).trans hr
 have hz := subA_zero A c (Lay.sz α)
 simp only [subA] at hz
 simp [execOp, hs.eval hx, hs.eval hh, hs.eval hx2, e]
 intro _
 cases A with
 | none => rfl
 | some a => simp [Addr.add]
end
section
variable {α : Type} [Lay α] {P : Program} {N : Nat} {w0 : World} {env : Env} {H : Heap} {d : Option Tmp} {ty T E : TypeId} {pos : String} {after : Array Edge} {g : Option (Nat × Bool)} {x : Operand} {A : Option Addr} {n c : Nat} {xs ys : List α} {z : Value} {bytes : Nat}
theorem Yld.sliceLN {l : Int} {kl : IntKind} {lo : Operand} (hT : STy P T E z (Lay.sz α) bytes) (hx : evl env x = some (.slice A n c)) (hl : evl env lo = some (.int kl l)) (hr : RdT w0 H A n c xs) (hm : slc xs l (xs.length : Int) = some ys) :
  Yld P N w0 env H ⟨d, .slice T x (some lo) none none, ty, pos, after, g⟩ (.slice (subA A c l.toNat (Lay.sz α)) ((xs.length : Int).toNat - l.toNat) (c - l.toNat)) := by
 have := Yld.sliceLC (P := P) (N := N) (w0 := w0) (H := H) (d := d) (ty := ty) (pos := pos) (after := after) (g := g) hT hx hl hr hm
 rwa [(slc_some hm).2.2] at this
end
section
variable {α : Type} [Lay α] {P : Program} {N : Nat} {w0 : World} {env : Env} {H : Heap} {d : Option Tmp} {ty T E : TypeId} {pos : String} {after : Array Edge} {g : Option (Nat × Bool)} {x : Operand} {A : Option Addr} {n c : Nat} {xs bs : List α} {z : Value} {bytes : Nat}
theorem zeroCells_one {z : Value} (hz : z.oneCell' = true) (n : Nat) : (Builtin.zeroCells z.cells n).toList = List.replicate n z := by
 have hc : z.cells = #[z] := by cases z <;> simp [Value.oneCell'] at hz <;> rfl
 rw [hc]
 apply List.ext_getElem
 ·simp [Builtin.zeroCells]
 ·intro i h1 h2
  simp [Builtin.zeroCells, Nat.mod_one]
theorem eff0_of_value {o : Oper} {H' : Heap} (hd : o.dst = none) (h : ∀ a w, St N w0 env H a w -> ∃ v w', (execOp a.eval o).run P w = .ok (.value v) w' /\ Below w0.heap.size w0 w' /\ HS w0.heap.size w' H') :
  Eff0 P N w0 env H o H' := fun a w K Q hs hK => by
 obtain ⟨v, w', hr, hb, hh⟩ := h a w hs
 unfold Oper.wp
 rw [hr]
 have := hK w' hb hh
 rw [hd] at this
 show K (a.put o.dst v) w'
 rw [hd]
 exact this
theorem Eff0.clearS (k : Nat) {lo : Int} (a0 : α) (hT : STy P T E z 1 bytes) (h1 : Lay.sz α = 1) (ha : Lay.enc a0 = [z])
  (hs1 : evl env x = some (.slice (subA A c lo.toNat (Lay.sz α)) bs.length (c - lo.toNat))) (hcut : slc xs lo (xs.length : Int) = some bs) (hk : look H k = some (.own E (Lay.sz α) A n c (cel xs))) :
  Eff0 P N w0 env H ⟨none, .call ⟨.builtin .clear, #[x], #[T]⟩, ty, pos, after, g⟩ ((k, .own E (Lay.sz α) A n c (cel (clr xs lo a0))) :: H) :=
 eff0_of_value rfl fun a w hs => by
  obtain ⟨⟨hl0, hlh, _⟩, hbs, hbl⟩ := slc_some hcut
  have hsat := hs.heap.sat k _ hk
  have hxl : xs.length = n := (len_of_cel (own_SlR hsat)).symm
  have hz1 : z.oneCell' = true := Lay.one a0 z (by rw [ha]; exact List.mem_cons_self ..)
  rcases Nat.eq_zero_or_pos bs.length with h0 | h2
  ·have e : clr xs lo a0 = xs := by
    have : xs.length - lo.toNat = 0 := by omega
    rw [clr, this, List.take_of_length_le (by omega)]; simp
   refine ⟨.tuple #[], w, ?_, hs.below, hs.heap.set k _ (Nat.le_refl _) (fun _ _ _ => rfl) (by rw [e]; exact hsat) (fun _ hf => .inl ⟨_, hk, hf⟩)⟩
   rw [h0] at hs1
   have hrun : ∀ A c, (Builtin.clear_ #[T] ty #[.slice A 0 c]).run P w = .ok (.tuple #[]) w := by
    intro A c
    cases A <;> simp [Builtin.clear_, run_underlying hT.under]
   simp [execOp, resolve, invoke, builtin, hs.eval hs1, hrun]
  have ho : w.ownsRow w0.heap.size E (Lay.sz α) (.slice A n c) n (cel xs) := by
   rcases hsat with h | ⟨h, _⟩
   ·exact h
   ·omega
  rcases ho.2 with ⟨_, h0⟩ | ⟨gb, cap, cur, hv, hb, hg, hnc, hcm, hcs, htk⟩
  ·omega
  injection hv with hA hn hc
  subst hA; subst hc
  rw [h1] at htk hcs
  have hcl : cur.toList.length = c := by simpa using hcs
  have hlt : gb < w.heap.size := (Array.getElem?_eq_some_iff.1 hg).1
  have hsub : subA (some ⟨gb, 0, none⟩) c lo.toNat (Lay.sz α) = some ⟨gb, lo.toNat, none⟩ := by
   have hne : ¬ c = lo.toNat := by omega
   unfold subA; rw [if_neg hne, h1, Nat.mul_one, Option.map_some]; simp only [Addr.add, Nat.zero_add]
   split
   ·rename_i e; rw [e]
   ·rfl
  rw [hsub] at hs1
  obtain ⟨i, hi, hzz, hsz, hbb⟩ := hT.info
  obtain ⟨m, hm⟩ : ∃ m, bs.length = m + 1 := ⟨bs.length - 1, by omega⟩
  have hst := run_storeCells_at (P := P) gb lo.toNat E (List.replicate bs.length z) 0 cur w hg (by simp only [List.length_replicate]; simp at hcl; omega) (fun v hv => by rw [(List.mem_replicate.1 hv).2]; exact hz1)
  have hrun : (Builtin.clear_ #[T] ty #[.slice (some ⟨gb, lo.toNat, none⟩) bs.length (c - lo.toNat)]).run P w =
    .ok (.tuple #[]) (w.setRow gb (cur.toList.take (lo.toNat + 0) ++ List.replicate bs.length z ++ cur.toList.drop (lo.toNat + 0 + (List.replicate bs.length z).length)).toArray) := by
   rw [hm] at hst ⊢
   simp [Builtin.clear_, run_underlying hT.under, zeroValue, typeInfo, hi, hzz, zeroCells_one hz1, hst]
  rw [Nat.add_zero] at hrun
  refine ⟨.tuple #[], w.setRow gb (cur.toList.take lo.toNat ++ List.replicate bs.length z ++ cur.toList.drop (lo.toNat + (List.replicate bs.length z).length)).toArray, ?_, hs.below.trans ⟨rfl, rfl, rfl, by simp, fun i hi => setRow_other w gb i _ (by omega)⟩,
   hs.heap.set k _ (by simp) (fun i hi hne => setRow_other w gb i _ (fun e => hne _ hk ⟨by omega, _, rfl, e.symm⟩)) (.inl ?_) (fun _ hf => .inl ⟨_, hk, hf⟩)⟩
  ·simp [execOp, resolve, invoke, builtin, hs.eval hs1, hrun]
  ·have hzl : (clr xs lo a0).length = n := by simp only [clr, List.length_append, List.length_take, List.length_replicate]; omega
   refine ⟨by rw [cel_length, hzl], .inr ⟨gb, c, _, rfl, hb, setRow_heap w gb _ _ E _ hg, hnc, hcm, ?_, ?_⟩⟩
   ·rw [h1, Nat.mul_one]
    simp only [List.size_toArray, List.length_append, List.length_take, List.length_drop, List.length_replicate]; omega
   ·rw [Nat.mul_one] at htk
    rw [h1, Nat.mul_one, take_mid _ _ (by simp only [List.length_replicate]; omega) (by omega), htk, clr, cel_append, <- cel_take xs lo.toNat, h1, Nat.mul_one, cel_replicate1 _ _ ha, List.drop_of_length_le (by rw [cel_length, h1, List.length_replicate]; omega), List.append_nil]
    rw [show xs.length - lo.toNat = bs.length by omega]
end
end Go.Proofs.Ytkcccenekglkoaa
