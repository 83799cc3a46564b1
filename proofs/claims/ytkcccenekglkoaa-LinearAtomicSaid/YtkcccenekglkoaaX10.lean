/-
 A small symbolic executor for the walk, parts 8 to 10: function values; small additions; slices whose elements have slices.
 Conditions: none; plain lemmas over any program.
-/
import Derived.Test.YtkcccenekglkoaaX7
import Derived.Lib.LazyBuf
namespace Go.Proofs.Ytkcccenekglkoaa
open Go Go.RowKit
set_option linter.unusedVariables false
set_option linter.unusedSimpArgs false
section
variable {P : Program} {N : Nat} {w0 : World} {env : Env} {H : Heap}
variable {d : Option Tmp} {ty T T' E : TypeId} {pos : String} {after : Array Edge} {g : Option (Nat × Bool)} {x y : Operand} {z : Value}
theorem Yld.makeFunc {fn : Go.Fn} {fs gs : List Operand} {us vs : List Value} (hf : evls env fs = some us) (hg : evls env gs = some vs) :
  Yld P N w0 env H ⟨d, .makeFunc fn fs.toArray gs.toArray, ty, pos, after, g⟩ (.func fn us.toArray vs.toArray) := fun a w hs => by
 have e1 := hs.evals hf
 have e2 := hs.evals hg
 simp [execOp, Instr.makeFunc, e1, e2]
theorem Yld.nilCheckP {a : Addr} (hx : evl env x = some (.pointer (some a))) : Yld P N w0 env H ⟨d, .nilCheck x, ty, pos, after, g⟩ (.pointer (some a)) := fun ac w hs => by
 simp [execOp, hs.eval hx]
theorem wp_callV {o : Oper} {a : Act} {w : World} {K : Act -> World -> Prop} {Q : Exit -> Act -> World -> Prop} {f : FuncId} {fn : Func} {xs : List Operand} {ts : Array TypeId} {us vs cs : List Value}
  (ho : o.op = .call ⟨.value y, xs.toArray, ts⟩) (hy : a.eval y = .func (.func f) us.toArray cs.toArray) (hf : P.funcs[f]? = some fn) (hname : (fn.name == "runtime.NumGoroutine") = false) (hbody : fn.body.isNone = false)
  (hx : xs.map a.eval = vs) {R : Value -> World -> Prop} (h : Calls P f (us ++ vs ++ cs).toArray w fun e w' => ∃ r, e = .returned r /\ R r w') (k : ∀ r w', R r w' -> K (a.put o.dst r) w') : o.wp P a w K Q := by
 unfold Oper.wp
 have hrun : (execOp a.eval o).run P w = .ok (.enter f (us ++ vs ++ cs).toArray) w := by
  obtain ⟨dst, op, ty, pos, after, guard⟩ := o
  simp only at ho
  subst ho
  have h1 : fn.name ≠ "runtime.NumGoroutine" := by simpa using hname
  have h2 : fn.body ≠ none := by intro e; rw [e] at hbody; cases hbody
  simp [execOp, resolve, hy, Deferred.ofValue, invoke, callFunc, hf, h1, h2, hx]
 rw [hrun, Oper.upon_enter]
 refine h.mono fun e w' hR => ?_
 obtain ⟨r, rfl, hr⟩ := hR
 exact k r w' hr
theorem Eff.callVT {o : Oper} {f : FuncId} {fn : Func} {xs : List Operand} {ts : Array TypeId} {us vs cs : List Value} {R : Value -> Heap -> Prop}
  (ho : o.op = .call ⟨.value y, xs.toArray, ts⟩) (hy : evl env y = some (.func (.func f) us.toArray cs.toArray)) (hf : P.funcs[f]? = some fn) (hname : (fn.name == "runtime.NumGoroutine") = false) (hbody : fn.body.isNone = false)
  (hx : evls env xs = some vs) (hc : Tri P f (us ++ vs ++ cs).toArray w0 H R) : Eff P N w0 env H o R := by
 intro a w K Q hs hK
 refine wp_callV ho (hs.eval hy) hf hname hbody (hs.evals hx) (R := fun r w' => ∃ H', R r H' /\ Below w0.heap.size w0 w' /\ HS w0.heap.size w' H')
  ((hc w hs.below hs.heap).mono fun e w' ⟨r, H', he, hr, hb, hh⟩ => ⟨r, he, H', hr, hb, hh⟩) fun r w' ⟨H', hr, hb, hh⟩ => hK r H' w' hr hb hh
theorem WL.inlV {ops : Array Oper} {K : Act -> World -> Prop} {rest : List Oper} {d : Nat} {f : FuncId} {fn : Func} {xs : List Operand} {ts : Array TypeId} {us vs cs : List Value} (hd : d < N)
  (hy : evl env y = some (.func (.func f) us.toArray cs.toArray)) (hf : P.funcs[f]? = some fn) (hname : (fn.name == "runtime.NumGoroutine") = false) (hbody : fn.body.isNone = false) (hx : evls env xs = some vs)
  (h : Tri P f (us ++ vs ++ cs).toArray w0 H fun v H' => WL P N w0 ops K rest ((d, v) :: env) H') :
  WL P N w0 ops K (⟨some d, .call ⟨.value y, xs.toArray, ts⟩, ty, pos, after, none⟩ :: rest) env H :=
 WL.eff hd (Eff.callVT rfl hy hf hname hbody hx h) fun _ _ h => h
end
end Go.Proofs.Ytkcccenekglkoaa
namespace Go.Proofs.Ytkcccenekglkoaa
open Go Go.RowKit
set_option linter.unusedVariables false
set_option linter.unusedSimpArgs false
theorem not_t {b : Bool} (h : b = false) : (!b) = true := by rw [h]; rfl
theorem not_f {b : Bool} (h : b = true) : (!b) = false := by rw [h]; rfl
theorem Mem.snap_cellf (w : World) : (Mem.snap w).cell? = w.cell? := by funext a; rfl
section
variable {P : Program} {N : Nat} {w0 : World} {env : Env} {H : Heap} {ops : Array Oper} {K : Act -> World -> Prop}
variable {A : Option Addr} {n c sz : Nat} {cs : List Value}
variable {d : Option Tmp} {ty T T' E : TypeId} {pos : String} {after : Array Edge} {g : Option (Nat × Bool)} {x y : Operand} {z : Value} {bytes : Nat}
theorem RdH.sn (h : RdH w0 H sz A n c cs) (w : World) (hb : Below w0.heap.size w0 w) (hh : HS w0.heap.size w H) : SlM (Mem.snap w) sz A n c cs := by
 unfold SlM; rw [Mem.snap_cellf]; exact h w hb hh
theorem Yld.eqlNil (hT : P.underlying T = some (.slice E)) (hx : evl env x = some (.slice A n c)) (hy : evl env y = some (.slice none 0 0)) : Yld P N w0 env H ⟨d, .binOp .eql T x y T', ty, pos, after, g⟩ (.bool A.isNone) :=
 yld_bin hx hy (fun w => by simp [eqGuard]) fun w => run_eql_slice_nil w T E A n c hT
theorem nil_of {M : Mem} {α : Type} [Lay α] {xs : List α} (h : SlT M A n c xs) (hA : A = none) : xs = [] := by
 have hl := h.len
 rw [cel_length] at hl
 cases xs with
 | nil => rfl
 | cons a xs =>
  have hp : 0 < (cel (a :: xs)).length := by rw [cel_length]; exact Nat.mul_pos (by simp) Lay.pos
  have := (h.cells 0 _ (List.getElem?_eq_getElem hp)).1
  rw [hA] at this; cases this
theorem isNone_ne {α : Type} {A : Option α} (h : ¬ A = none) : A.isNone = false := by cases A <;> simp at *
theorem Sub.push {α : Type} {E F : List (Nat × α)} {k : Nat} {e : α} (hk : look E k = none) (h : Sub E F) : Sub E ((k, e) :: F) := fun k' v hv => by
 rw [look_cons]
 split
 ·rename_i e'; subst e'; rw [hk] at hv; cases hv
 ·exact h k' v hv
theorem ResIs.cellTmpM {fn : Func} {a' u : Tmp} {v : Value} {gb k s : Nat} {t : TypeId} (h : fn.results = #[.cell a' T, .tmp u]) (ha : Agg P T s) (he : look env a' = some (.pointer (some ⟨gb, 0, none⟩))) (hk : look H k = some (.blk gb t cs)) (hl : cs.length = s)
  (hu : look env u = some v) : ResIs P N w0 fn env H (.tuple #[.agg cs.toArray, v]) := by
 subst hl; exact ResIs.cellTmp h ha he hk hu
theorem Eff0.storeBAM (k : Nat) {gb s : Nat} {t : TypeId} {us : List Value} (ha : Agg P T s) (hx : evl env x = some (.pointer (some ⟨gb, 0, none⟩))) (hy : evl env y = some (.agg us.toArray))
  (hk : look H k = some (.blk gb t cs)) (hl : us.length = s /\ cs.length = s) (hu : us.all (·.oneCell') = true) : Eff0 P N w0 env H ⟨none, .store T x y, ty, pos, after, g⟩ ((k, .blk gb t us) :: H) := by
 obtain ⟨h1, h2⟩ := hl
 subst h1
 exact Eff0.storeBA k ha.size hx hy hu hk h2
theorem Yld.loadBM {k gb s : Nat} {t : TypeId} (ha : Agg P T s) (hx : evl env x = some (.pointer (some ⟨gb, 0, none⟩))) (hk : look H k = some (.blk gb t cs)) (hl : cs.length = s) :
  Yld P N w0 env H ⟨d, .load T x, ty, pos, after, g⟩ (.agg cs.toArray) := by
 subst hl; exact Yld.loadBA ha hx hk
end
end Go.Proofs.Ytkcccenekglkoaa
namespace Go.Proofs.Ytkcccenekglkoaa
open Go Go.RowKit
set_option linter.unusedVariables false
set_option linter.unusedSimpArgs false
class Mono {ρ δ : Type} (R : Mem -> ρ -> δ -> Prop) : Prop where
 mono : ∀ {M M' : Mem} {r : ρ} {x : δ}, R M r x -> (∀ g o, M g = some o -> M' g = some o) -> R M' r x
theorem Mem.cell_mono {M M' : Mem} (h : ∀ g o, M g = some o -> M' g = some o) {a : Addr} {v : Value} (hc : M.cell? a = some v) : M'.cell? a = some v :=
 Ext.cell (B := 0) ⟨h, fun _ _ _ => .inr (Nat.zero_le _)⟩ hc
def RelB {α : Type} [Lay α] (M : Mem) (h : Hdr) (x : List α) : Prop := SlT M h.A h.n h.c x
instance {α : Type} [Lay α] : Mono (RelB (α := α)) := ⟨fun h hm => SlRc.mono h fun _ _ e => Mem.cell_mono hm e⟩
structure Rels {ρ δ : Type} (R : ρ -> δ -> Prop) (rs : List ρ) (xs : List δ) : Prop where
 len : rs.length = xs.length
 get : ∀ (i : Nat) (r : ρ) (x : δ), rs[i]? = some r -> xs[i]? = some x -> R r x
section
variable {ρ δ : Type} {R : ρ -> δ -> Prop} {rs rs' : List ρ} {xs xs' : List δ}
theorem Rels.imp {R' : ρ -> δ -> Prop} (h : Rels R rs xs) (hi : ∀ r x, R r x -> R' r x) : Rels R' rs xs := ⟨h.len, fun i r x h1 h2 => hi _ _ (h.get i r x h1 h2)⟩
theorem Rels.lift {R : Mem -> ρ -> δ -> Prop} [Mono R] {B : Nat} {M M' : Mem} (h : Rels (R M) rs xs) (hx : Ext B M M') : Rels (R M') rs xs := h.imp fun _ _ e => Mono.mono e hx.le
theorem Rels.sn {R : Mem -> ρ -> δ -> Prop} [Mono R] {M : Mem} (h : Rels (R M) rs xs) {w : World} (hw : Holds M w) : Rels (R (Mem.snap w)) rs xs := h.imp fun _ _ e => Mono.mono e hw
theorem Rels.nil : Rels R [] [] := ⟨rfl, fun i r x h => by simp at h⟩
theorem Rels.cons {r : ρ} {x : δ} (h : R r x) (hs : Rels R rs xs) : Rels R (r :: rs) (x :: xs) := ⟨by simp [hs.len], fun i r' x' h1 h2 => by
 cases i with
 | zero => simp at h1 h2; subst h1; subst h2; exact h
 | succ i => simp at h1 h2; exact hs.get i _ _ h1 h2⟩
theorem Rels.append (h : Rels R rs xs) (h' : Rels R rs' xs') : Rels R (rs ++ rs') (xs ++ xs') := ⟨by simp [h.len, h'.len], fun i r x h1 h2 => by
 rw [List.getElem?_append] at h1 h2
 rw [h.len] at h1
 split at h1
 ·rename_i hi; rw [if_pos hi] at h2; exact h.get i _ _ h1 h2
 ·rename_i hi; rw [if_neg hi] at h2; exact h'.get _ _ _ h1 h2⟩
theorem Rels.set {r : ρ} {x : δ} (h : Rels R rs xs) (hr : R r x) (i : Nat) : Rels R (rs.set i r) (xs.set i x) := ⟨by simp [h.len], fun j r' x' h1 h2 => by
 rw [List.getElem?_set] at h1 h2
 split at h1
 ·rename_i hi
  rw [if_pos hi] at h2
  rw [h.len] at h1
  split at h1
  ·rename_i hj; rw [if_pos hj] at h2; injection h1 with h1; injection h2 with h2; subst h1; subst h2; exact hr
  ·cases h1
 ·rename_i hi; rw [if_neg hi] at h2; exact h.get _ _ _ h1 h2⟩
theorem Rels.sub (h : Rels R rs xs) (lo n : Nat) : Rels R ((rs.drop lo).take n) ((xs.drop lo).take n) := ⟨by simp [h.len], fun i r x h1 h2 => by
 rw [List.getElem?_take] at h1 h2
 split at h1
 ·rename_i hi
  rw [if_pos hi, List.getElem?_drop] at h2
  rw [List.getElem?_drop] at h1
  exact h.get _ _ _ h1 h2
 ·cases h1⟩
theorem Rels.idx {i : Int} {x : δ} (h : Rels R rs xs) (hx : Go.Proofs.Ytkcccenekglkoaa.idx xs i = some x) : ∃ r, Go.Proofs.Ytkcccenekglkoaa.idx rs i = some r /\ R r x := by
 obtain ⟨h1, h2, h3⟩ := idx_some hx
 have hlt : i.toNat < rs.length := by rw [h.len]; omega
 exact ⟨rs[i.toNat], by rw [Go.Proofs.Ytkcccenekglkoaa.idx, if_pos h1, List.getElem?_eq_getElem hlt], h.get _ _ _ (List.getElem?_eq_getElem hlt) h3⟩
theorem Rels.slc {lo hi : Int} {ys : List δ} (h : Rels R rs xs) (hx : Go.Proofs.Ytkcccenekglkoaa.slc xs lo hi = some ys) : ∃ ss, Go.Proofs.Ytkcccenekglkoaa.slc rs lo hi = some ss /\ Rels R ss ys := by
 obtain ⟨h1, rfl, _⟩ := slc_some hx
 exact ⟨_, slc_of (by rw [h.len]; exact h1), h.sub _ _⟩
theorem Rels.upd {i : Int} {x : δ} {ys : List δ} {r : ρ} (h : Rels R rs xs) (hx : Go.Proofs.Ytkcccenekglkoaa.upd xs i x = some ys) (hr : R r x) : Go.Proofs.Ytkcccenekglkoaa.upd rs i r = some (rs.set i.toNat r) /\ Rels R (rs.set i.toNat r) ys := by
 obtain ⟨h1, rfl⟩ := upd_some hx
 exact ⟨upd_of (by rw [h.len]; exact h1), h.set hr _⟩
theorem Rels.apd {B : Nat} {ys zs : List δ} {ss : List ρ} (h : Rels R rs xs) (h' : Rels R ss ys) (hx : Go.Proofs.Ytkcccenekglkoaa.apd B xs ys = some zs) : Go.Proofs.Ytkcccenekglkoaa.apd B rs ss = some (rs ++ ss) /\ Rels R (rs ++ ss) zs := by
 obtain ⟨h1, rfl⟩ := apd_some hx
 exact ⟨apd_of (by rw [h.len, h'.len]; exact h1), h.append h'⟩
end
section
variable {P : Program} {N : Nat} {w0 : World} {env : Env} {H : Heap}
variable {A : Option Addr} {n c : Nat}
variable {d : Option Tmp} {ty T T' E : TypeId} {pos : String} {after : Array Edge} {g : Option (Nat × Bool)} {x y : Operand} {z : Value} {bytes : Nat}
theorem Yld.lenD {ρ δ : Type} [Lay ρ] {rs : List ρ} {xs : List δ} (hl : rs.length = xs.length) (hT : P.underlying T = some (.slice E)) (hx : evl env x = some (.slice A n c)) (hr : RdT w0 H A n c rs) : Yld P N w0 env H ⟨d, .call ⟨.builtin .len, #[x], #[T]⟩, ty, pos, after, g⟩ (I64 (xs.length : Int)) := by
 rw [<- hl]; exact Yld.lenC hT hx hr
end
end Go.Proofs.Ytkcccenekglkoaa
