/-
 A small symbolic executor for the walk, part 23: maps whose values have slices; maps of pointers to structs of the call's own.
 Conditions: none; plain lemmas over any program.
-/
import Derived.Test.YtkcccenekglkoaaX22
namespace Go.Proofs.Ytkcccenekglkoaa
open Go Go.RowKit
set_option linter.unusedVariables false
def RelM {κ ρ ν : Type} (R : ρ -> ν -> Prop) : List (κ × ρ) -> List (κ × ν) -> Prop
 | [], [] => True
 | (k, a) :: l, (k', b) :: l' => k = k' /\ R a b /\ RelM R l l'
 | _, _ => False
section
variable {κ ρ ν : Type} {R : ρ -> ν -> Prop}
theorem RelM.nil : RelM R ([] : List (κ × ρ)) ([] : List (κ × ν)) := trivial
theorem RelM.imp {R' : ρ -> ν -> Prop} (hi : ∀ a b, R a b -> R' a b) : ∀ {rm : List (κ × ρ)} {m : List (κ × ν)}, RelM R rm m -> RelM R' rm m
 | [], [], _ => trivial
 | (_, _) :: _, (_, _) :: _, h => ⟨h.1, hi _ _ h.2.1, RelM.imp hi h.2.2⟩
 | [], _ :: _, h => h.elim
 | _ :: _, [], h => h.elim
theorem RelM.lift {R : Mem -> ρ -> ν -> Prop} [Mono R] {B : Nat} {M M' : Mem} {rm : List (κ × ρ)} {m : List (κ × ν)} (h : RelM (R M) rm m) (hx : Ext B M M') : RelM (R M') rm m := h.imp fun _ _ e => Mono.mono e hx.le
theorem RelM.len : ∀ {rm : List (κ × ρ)} {m : List (κ × ν)}, RelM R rm m -> rm.length = m.length
 | [], [], _ => rfl
 | (_, _) :: _, (_, _) :: _, h => congrArg (· + 1) (RelM.len h.2.2)
 | [], _ :: _, h => h.elim
 | _ :: _, [], h => h.elim
variable [BEq κ]
theorem RelM.get (q : κ) : ∀ {rm : List (κ × ρ)} {m : List (κ × ν)}, RelM R rm m -> (mget rm q = none /\ mget m q = none) ∨ ∃ a b, mget rm q = some a /\ mget m q = some b /\ R a b
 | [], [], _ => .inl ⟨rfl, rfl⟩
 | (k, a) :: l, (k', b) :: l', h => by
  obtain ⟨rfl, h2, h3⟩ := h
  unfold mget
  by_cases e : (q == k) = true
  ·rw [if_pos e, if_pos e]; exact .inr ⟨a, b, rfl, rfl, h2⟩
  ·rw [if_neg e, if_neg e]; exact RelM.get q h3
 | [], _ :: _, h => h.elim
 | _ :: _, [], h => h.elim
theorem RelM.set {q : κ} {a : ρ} {b : ν} (hab : R a b) : ∀ {rm : List (κ × ρ)} {m : List (κ × ν)}, RelM R rm m -> RelM R (mset rm q a) (mset m q b)
 | [], [], _ => ⟨rfl, hab, trivial⟩
 | (k, c) :: l, (k', d) :: l', h => by
  obtain ⟨rfl, h2, h3⟩ := h
  unfold mset
  by_cases e : (q == k) = true
  ·rw [if_pos e, if_pos e]; exact ⟨rfl, hab, h3⟩
  ·rw [if_neg e, if_neg e]; exact ⟨rfl, h2, RelM.set hab h3⟩
 | [], _ :: _, h => h.elim
 | _ :: _, [], h => h.elim
theorem RelM.del {q : κ} : ∀ {rm : List (κ × ρ)} {m : List (κ × ν)}, RelM R rm m -> RelM R (mdel rm q) (mdel m q)
 | [], [], _ => trivial
 | (k, c) :: l, (k', d) :: l', h => by
  obtain ⟨rfl, h2, h3⟩ := h
  unfold mdel
  by_cases e : (q == k) = true
  ·rw [if_pos e, if_pos e]; exact h3
  ·rw [if_neg e, if_neg e]; exact ⟨rfl, h2, RelM.del h3⟩
 | [], _ :: _, h => h.elim
 | _ :: _, [], h => h.elim
theorem RelM.at {q : κ} {rm : List (κ × ρ)} {m : List (κ × ν)} (h : RelM R rm m) {b : ν} (hv : mget m q = some b) : ∃ a, mget rm q = some a /\ R a b := by
 rcases h.get q with ⟨_, h2⟩ | ⟨a, b', h1, h2, h3⟩
 ·rw [hv] at h2; cases h2
 ·rw [hv] at h2; injection h2 with h2; subst h2; exact ⟨a, h1, h3⟩
theorem RelM.getD {q : κ} {rm : List (κ × ρ)} {m : List (κ × ν)} (h : RelM R rm m) {za : ρ} {zb : ν} (hz : R za zb) : ∃ a, (mget rm q).getD za = a /\ R a ((mget m q).getD zb) := by
 rcases h.get q with ⟨h1, h2⟩ | ⟨a, b', h1, h2, h3⟩
 ·rw [h1, h2]; exact ⟨za, rfl, hz⟩
 ·rw [h1, h2]; exact ⟨a, rfl, h3⟩
end
def PtrR {ρ ν : Type} (R : Mem -> ρ -> ν -> Prop) (M : Mem) (a : Nat × ρ) (b : ν) : Prop := R M a.2 b
instance {ρ ν : Type} (R : Mem -> ρ -> ν -> Prop) [Mono R] : Mono (PtrR R) := ⟨fun h hm => Mono.mono (R := R) h hm⟩
def evp (o : Option Nat) : Value := .pointer (o.map fun g => ⟨g, 0, none⟩)
def pme {κ ρ : Type} (rm : List (κ × (Nat × ρ))) : List (κ × Option Nat) := rm.map fun p => (p.1, some p.2.1)
def rowp {ρ : Type} [Lay ρ] (a : Nat × ρ) : ORow := (some ⟨a.1, 0, none⟩, 1, 1, Lay.enc a.2)
def pmr {κ ρ : Type} [Lay ρ] (rm : List (κ × (Nat × ρ))) : List ORow := rm.map fun p => rowp p.2
def pmg {κ ρ : Type} [BEq κ] (rm : List (κ × (Nat × ρ))) (q : κ) : Option Nat := (mget (pme rm) q).getD none
section
variable {κ ρ ν : Type} [BEq κ]
theorem pme_get (q : κ) : ∀ rm : List (κ × (Nat × ρ)), mget (pme rm) q = (mget rm q).map fun a => some a.1
 | [] => rfl
 | (k, a) :: l => by
  show mget ((k, some a.1) :: pme l) q = _
  unfold mget
  by_cases e : (q == k) = true
  ·rw [if_pos e, if_pos e]; rfl
  ·rw [if_neg e, if_neg e]; exact pme_get q l
theorem pmg_get (q : κ) (rm : List (κ × (Nat × ρ))) : pmg rm q = (mget rm q).map (·.1) := by
 unfold pmg; rw [pme_get]; cases mget rm q <;> rfl
theorem pme_set (q : κ) (a : Nat × ρ) : ∀ rm : List (κ × (Nat × ρ)), mset (pme rm) q (some a.1) = pme (mset rm q a)
 | [] => rfl
 | (k, b) :: l => by
  show mset ((k, some b.1) :: pme l) q _ = _
  unfold mset
  by_cases e : (q == k) = true
  ·rw [if_pos e, if_pos e]; rfl
  ·rw [if_neg e, if_neg e, pme_set q a l]; rfl
theorem pme_del (q : κ) : ∀ rm : List (κ × (Nat × ρ)), mdel (pme rm) q = pme (mdel rm q)
 | [] => rfl
 | (k, b) :: l => by
  show mdel ((k, some b.1) :: pme l) q = _
  unfold mdel
  by_cases e : (q == k) = true
  ·rw [if_pos e, if_pos e]
  ·rw [if_neg e, if_neg e, pme_del q l]; rfl
theorem pme_same [LawfulBEq κ] {q : κ} {g : Nat} {r : ρ} (r' : ρ) : ∀ {rm : List (κ × (Nat × ρ))}, mget rm q = some (g, r) -> pme (mset rm q (g, r')) = pme rm
 | [], h => by cases h
 | (k, b) :: l, h => by
  unfold mget at h
  unfold mset
  by_cases e : (q == k) = true
  ·rw [if_pos e] at h ⊢
   injection h with h; subst h
   rw [eq_of_beq e]; rfl
  ·rw [if_neg e] at h ⊢
   show (k, some b.1) :: pme _ = (k, some b.1) :: pme l
   rw [pme_same r' h]
theorem pmg_same [LawfulBEq κ] {q q' : κ} {g : Nat} {r : ρ} {p : Option Nat} (r' : ρ) {rm : List (κ × (Nat × ρ))} (h : mget rm q = some (g, r)) (hp : pmg rm q' = p) : pmg (mset rm q (g, r')) q' = p := by
 unfold pmg at hp ⊢; rw [pme_same r' h]; exact hp
theorem MapK.same [LawfulBEq κ] {ek : κ -> Value} {es : List MapEntry} {q : κ} {g : Nat} {r : ρ} (r' : ρ) {rm : List (κ × (Nat × ρ))} (h : mget rm q = some (g, r)) (hm : MapK ek evp es (pme rm)) : MapK ek evp es (pme (mset rm q (g, r'))) := by
 rw [pme_same r' h]; exact hm
variable [Lay ρ]
theorem pmr_get {q : κ} {a : Nat × ρ} : ∀ {rm : List (κ × (Nat × ρ))}, mget rm q = some a -> ∃ i, (pmr rm)[i]? = some (rowp a) /\ ∀ a', pmr (mset rm q a') = (pmr rm).set i (rowp a')
 | [], h => by cases h
 | (k, b) :: l, h => by
  unfold mget at h
  by_cases e : (q == k) = true
  ·rw [if_pos e] at h
   injection h with h; subst h
   exact ⟨0, rfl, fun a' => by unfold mset; rw [if_pos e]; rfl⟩
  ·rw [if_neg e] at h
   obtain ⟨i, h1, h2⟩ := pmr_get h
   exact ⟨i + 1, h1, fun a' => by unfold mset; rw [if_neg e]; show rowp b :: pmr _ = rowp b :: _; rw [h2]; rfl⟩
theorem pmr_mem {q : κ} {a : Nat × ρ} {x : ORow} : ∀ {rm : List (κ × (Nat × ρ))}, x ∈ pmr (mset rm q a) -> x = rowp a ∨ x ∈ pmr rm
 | [], h => by left; simpa [mset, pmr] using h
 | (k, b) :: l, h => by
  unfold mset at h
  by_cases e : (q == k) = true
  ·rw [if_pos e] at h
   rcases List.mem_cons.1 (show x ∈ rowp a :: pmr l from h) with h | h
   ·exact .inl h
   ·exact .inr (List.mem_cons_of_mem _ h)
  ·rw [if_neg e] at h
   rcases List.mem_cons.1 (show x ∈ rowp b :: pmr (mset l q a) from h) with h | h
   ·right; rw [h]; exact List.mem_cons_self ..
   ·rcases pmr_mem h with h | h
    ·exact .inl h
    ·exact .inr (List.mem_cons_of_mem _ h)
theorem pmr_pw {q : κ} {a : Nat × ρ} : ∀ {rm : List (κ × (Nat × ρ))}, (pmr rm).Pairwise rowAp -> (∀ x ∈ pmr rm, rowAp (rowp a) x) -> (pmr (mset rm q a)).Pairwise rowAp
 | [], _, _ => List.pairwise_singleton _ _
 | (k, b) :: l, h, hx => by
  obtain ⟨h1, h2⟩ := List.pairwise_cons.1 (show (rowp b :: pmr l).Pairwise rowAp from h)
  have hx' : ∀ x ∈ pmr l, rowAp (rowp a) x := fun x h => hx x (List.mem_cons_of_mem _ h)
  unfold mset
  by_cases e : (q == k) = true
  ·rw [if_pos e]
   exact List.pairwise_cons.2 ⟨hx', h2⟩
  ·rw [if_neg e]
   refine List.pairwise_cons.2 ⟨fun x hm => ?_, pmr_pw h2 hx'⟩
   rcases pmr_mem hm with rfl | hm
   ·exact (hx _ (List.mem_cons_self ..)).symm
   ·exact h1 x hm
theorem pmr_del {q : κ} : ∀ rm : List (κ × (Nat × ρ)), (pmr (mdel rm q)).Sublist (pmr rm)
 | [] => List.Sublist.refl _
 | (k, b) :: l => by
  unfold mdel
  by_cases e : (q == k) = true
  ·rw [if_pos e]; exact List.sublist_cons_self _ _
  ·rw [if_neg e]; exact List.Sublist.cons_cons _ (pmr_del l)
end
section
variable {H : Heap} {E : TypeId} {sz g : Nat} {xs : List Value}
theorem blk_ownSat {B : Nat} {w : World} (hl : xs.length = sz) (h : HE.sat B w (.blk g E xs)) : ownSat B w E sz (some ⟨g, 0, none⟩) 1 1 xs :=
 .inl ⟨by omega, .inr ⟨g, 1, xs.toArray, rfl, h.1, h.2, Nat.le_refl _, by unfold maxLen; omega, by simp [hl], by simp [<- hl]⟩⟩
theorem ownSat_blk {B : Nat} {w : World} (h : ownSat B w E sz (some ⟨g, 0, none⟩) 1 1 xs) : HE.sat B w (.blk g E xs) := by
 rcases h with h | ⟨h, _⟩
 ·rcases h.2 with ⟨h1, _⟩ | ⟨g', cap, cur, hv, hb, hg, _, _, h1, h2⟩
  ·cases h1
  ·injection hv with hv _ hc
   injection hv with hv
   injection hv with hv
   subst hv; subst hc
   refine ⟨hb, ?_⟩
   rw [hg]
   have : cur = xs.toArray := by
    rw [<- h2, List.take_of_length_le (by rw [Array.length_toList, h1]; exact Nat.le_refl _)]
   rw [this]
 ·cases h
theorem HStep.ownBlk (k : Nat) (hk : look H k = some (.own E sz (some ⟨g, 0, none⟩) 1 1 xs)) : HStep H ((k, .blk g E xs) :: H) := fun B w h =>
 h.set k _ (Nat.le_refl _) (fun _ _ _ => rfl) (ownSat_blk (h.sat k _ hk)) (fun i hi => .inl ⟨_, hk, Nat.one_ne_zero, _, rfl, hi⟩)
theorem HStep.blkOwn (k : Nat) (hl : xs.length = sz) (hk : look H k = some (.blk g E xs)) : HStep H ((k, .own E sz (some ⟨g, 0, none⟩) 1 1 xs) :: H) := fun B w h =>
 h.set k _ (Nat.le_refl _) (fun _ _ _ => rfl) (blk_ownSat hl (h.sat k _ hk)) (fun i ⟨_, a, ha, hi⟩ => .inl ⟨_, hk, by injection ha with ha; subst ha; exact hi⟩)
variable {κ ρ ν : Type} [BEq κ] [Lay ρ] {q : κ} {rm : List (κ × (Nat × ρ))} {r : ρ}
theorem HStep.pmPut (k k' : Nat) (q : κ) (r : ρ) (hne : Nat.beq k k' = false) (hk : look H k = some (.rows E (Lay.sz ρ) (pmr rm))) (hk' : look H k' = some (.blk g E (Lay.enc r))) : HStep H ((k, .rows E (Lay.sz ρ) (pmr (mset rm q (g, r)))) :: (k', .emp) :: H) := fun B w h => by
 have hne' : k ≠ k' := fun e => by subst e; simp at hne
 have h1 := h.sat k _ hk; have h2 := h.sat k' _ hk'
 have hap : ∀ x ∈ pmr rm, rowAp (rowp (g, r)) x := fun x hx i ⟨_, a, ha, hi⟩ gb => h.apart k k' _ _ hk hk' hne' i ⟨x, hx, gb⟩ (by injection ha with ha; subst ha; exact hi)
 refine h.two hne' ⟨fun x hx => ?_, pmr_pw h1.2 hap⟩ trivial (fun _ _ hg => hg.elim) (fun i hg => ?_) (fun _ hg => hg.elim)
 ·rcases pmr_mem hx with rfl | hx
  ·exact blk_ownSat (Lay.len _) h2
  ·exact h1.1 x hx
 ·obtain ⟨x, hx, hg⟩ := hg
  rcases pmr_mem hx with rfl | hx
  ·obtain ⟨_, a, ha, hi⟩ := hg
   exact .inr ⟨_, hk', by injection ha with ha; subst ha; exact hi⟩
  ·exact .inl ⟨_, hk, x, hx, hg⟩
theorem HStep.pmDel (k : Nat) (q : κ) (hk : look H k = some (.rows E (Lay.sz ρ) (pmr rm))) : HStep H ((k, .rows E (Lay.sz ρ) (pmr (mdel rm q))) :: H) := fun B w h => by
 have h1 := h.sat k _ hk; have hs := pmr_del (q := q) rm
 exact h.set k _ (Nat.le_refl _) (fun _ _ _ => rfl) ⟨fun x hx => h1.1 x (hs.subset hx), h1.2.sublist hs⟩ (fun i ⟨x, hx, hg⟩ => .inl ⟨_, hk, x, hs.subset hx, hg⟩)
omit [BEq κ] in
theorem HStep.pmOut {k kf i : Nat} (hf : k < kf) (hk : look H k = some (.rows E (Lay.sz ρ) (pmr rm))) (hi : (pmr rm)[i]? = some (rowp (g, r))) :
  HStep H ((kf, .blk g E (Lay.enc r)) :: (kf, .own E (Lay.sz ρ) (some ⟨g, 0, none⟩) 1 1 (Lay.enc r)) :: (k, .rows E (Lay.sz ρ) ((pmr rm).set i (none, 0, 0, []))) :: H) :=
 HStep.trans (HStep.rowsTake k kf i (by omega) hk hi) (HStep.ownBlk kf (sz := Lay.sz ρ) (look_cons_same _ _ _))
theorem HStep.pmBack {k kf i : Nat} {r' : ρ} {cs : List Value} {H1 : Heap} (hf : k < kf) (hn : look H kf = none) (he : cs = Lay.enc r') (h1 : look H1 k = some (.rows E (Lay.sz ρ) ((pmr rm).set i (none, 0, 0, [])))) (hH : ∀ j, j ≠ k -> j ≠ kf -> look H1 j = look H j) (hs : pmr (mset rm q (g, r')) = (pmr rm).set i (rowp (g, r'))) :
  HStep ((kf, .blk g E cs) :: H1) ((k, .rows E (Lay.sz ρ) (pmr (mset rm q (g, r')))) :: H) := by
 subst he
 refine HStep.trans (HStep.blkOwn kf (sz := Lay.sz ρ) (Lay.len _) (look_cons_same _ _ _)) (HStep.trans (HStep.rowsPut k kf i (nbeq (by omega)) (E := E) (sz := Lay.sz ρ) (rs := (pmr rm).set i (none, 0, 0, [])) (A := some ⟨g, 0, none⟩) (n := 1) (c := 1) (xs := Lay.enc r') ?_ (look_cons_same _ _ _)) (HStep.sub ?_))
 ·rw [look_cons_ne _ _ (by omega), look_cons_ne _ _ (by omega)]; exact h1
 ·intro j x hx
  rw [look_cons] at hx ⊢
  split at hx
  ·rename_i e0; rw [if_pos e0]
   rw [List.set_set]; rw [hs] at hx; exact hx
  ·rename_i e0; rw [if_neg e0]
   have hj : kf ≠ j := fun e1 => by subst e1; rw [hn] at hx; cases hx
   rw [look_cons_ne _ _ hj, look_cons_ne _ _ hj, look_cons_ne _ _ hj, hH j (fun e => e0 e.symm) (fun e => hj e.symm)]
   exact hx
end
section
variable {P : Program} {N : Nat} {w0 : World} {env : Env} {H : Heap} {d : Option Tmp} {ty T T' E Tk : TypeId} {pos : String} {after : Array Edge} {g : Option (Nat × Bool)} {x y : Operand}
variable {κ ρ ν : Type} [BEq κ] {ek : κ -> Value} {es : List MapEntry} {rm : List (κ × (Nat × ρ))} {m : List (κ × ν)} {cl gb : Nat} {q : κ} {p : Option Nat}
theorem Yld.lookupP {k : Nat} (hp : pmg rm q = p) (hT : P.underlying T = some (.map Tk E)) (hk1 : KeyL P Tk ek) (hz : (P.info? E).map (·.zero) = some (some (.pointer none)))
  (hx : evl env x = some (.map (some gb))) (hy : evl env y = some (ek q)) (hk : look H k = some (.obj gb (.map es.toArray cl))) (hm : MapK ek evp es (pme rm)) : Yld P N w0 env H ⟨d, .lookup T x y false, ty, pos, after, g⟩ (evp p) := by
 subst hp
 exact Yld.lookupK (ev := evp) (zv := none) hT hk1 hz hx hy hk hm
theorem Yld.eqlPm {E' : TypeId} {R : Nat × ρ -> ν -> Prop} (hp : pmg rm q = p) (hr : RelM R rm m) (hT : P.underlying T = some (.pointer E')) (hx : evl env x = some (evp p)) (hy : evl env y = some (.pointer none)) : Yld P N w0 env H ⟨d, .binOp .eql T x y T', ty, pos, after, g⟩ (.bool (mget m q).isNone) := by
 have ht : P.underlying T = some (.pointer (P.pointee T)) := by rw [hT]; simp [Program.pointee, hT]
 have e : (p.map fun g => (⟨g, 0, none⟩ : Addr)).isNone = (mget m q).isNone := by
  rw [<- hp, pmg_get]
  rcases hr.get q with ⟨h1, h2⟩ | ⟨a, b, h1, h2, _⟩ <;> rw [h1, h2] <;> rfl
 refine yld_bin hx hy (fun w => by simp [eqGuard, evp]) fun w => ?_
 rw [<- e]; exact run_eql_pointer_nil w T _ ht
theorem Yld.nilCheckPm {gp : Nat} {r : ρ} (hp : pmg rm q = p) (hr : mget rm q = some (gp, r)) (hx : evl env x = some (evp p)) : Yld P N w0 env H ⟨d, .nilCheck x, ty, pos, after, g⟩ (.pointer (some ⟨gp, 0, none⟩)) := by
 have e : p = some gp := by rw [<- hp, pmg_get, hr]; rfl
 subst e
 exact Yld.nilCheckP hx
omit [BEq κ] in
theorem pme_len {rm : List (κ × (Nat × ρ))} : (pme rm).length = rm.length := List.length_map ..
variable {ev : ρ -> Value} {m' : List (κ × ρ)}
omit [BEq κ] in
theorem Yld.lenMapR {m' : List (κ × ρ)} {k n : Nat} (hn : m'.length = n) (hT : P.underlying T = some (.map Tk E)) (hx : evl env x = some (.map (some gb))) (hk : look H k = some (.obj gb (.map es.toArray cl))) (hm : MapK ek ev es m') :
  Yld P N w0 env H ⟨d, .call ⟨.builtin .len, #[x], #[T]⟩, ty, pos, after, g⟩ (I64 (n : Int)) := by
 subst hn; exact Yld.lenMapK hT hx hk hm
theorem Yld.lookupKR {k : Nat} {zv v : ρ} (hv : (mget m' q).getD zv = v) (hT : P.underlying T = some (.map Tk E)) (hk1 : KeyL P Tk ek) (hz : (P.info? E).map (·.zero) = some (some (ev zv)))
  (hx : evl env x = some (.map (some gb))) (hy : evl env y = some (ek q)) (hk : look H k = some (.obj gb (.map es.toArray cl))) (hm : MapK ek ev es m') : Yld P N w0 env H ⟨d, .lookup T x y false, ty, pos, after, g⟩ (ev v) := by
 subst hv; exact Yld.lookupK hT hk1 hz hx hy hk hm
variable [Lay ρ]
theorem Yld.loadPm {k gp j : Nat} {r : ρ} {u : Value} (hsc : scal P T = true) (hx : evl env x = some (.pointer (some ⟨gp, j, none⟩))) (hk : look H k = some (.rows E (Lay.sz ρ) (pmr rm))) (hr : mget rm q = some (gp, r)) (hu : (Lay.enc r)[j]? = some u) :
  Yld P N w0 env H ⟨d, .load T x, ty, pos, after, g⟩ u := fun a w hs => by
 obtain ⟨kf, hf, hn⟩ := fresh_for H k
 obtain ⟨i, hi, _⟩ := pmr_get hr
 exact Yld.loadB (k := kf) (cs := Lay.enc r) hsc hx (look_cons_same _ _ _) hu a w (hs.hs (HStep.pmOut hf hk hi))
theorem Eff0.storePm (k : Nat) {gp j : Nat} {r : ρ} (r' : ρ) {u : Value} (hsz : (P.info? T).map (·.size) = some 1) (hx : evl env x = some (.pointer (some ⟨gp, j, none⟩))) (hy : evl env y = some u) (hu : u.oneCell' = true)
  (hk : look H k = some (.rows E (Lay.sz ρ) (pmr rm))) (hr : mget rm q = some (gp, r)) (hj : Nat.ble (j + 1) (Lay.sz ρ) = true) (he : (Lay.enc r).set j u = Lay.enc r') :
  Eff0 P N w0 env H ⟨none, .store T x y, ty, pos, after, g⟩ ((k, .rows E (Lay.sz ρ) (pmr (mset rm q (gp, r')))) :: H) := by
 obtain ⟨kf, hf, hn⟩ := fresh_for H k
 obtain ⟨i, hi, hs⟩ := pmr_get hr
 have hlt : j < (Lay.enc r).length := by rw [Lay.len]; exact Nat.le_of_ble_eq_true hj
 refine Eff0.via (HStep.pmOut hf hk hi) (Eff0.storeB kf (cs := Lay.enc r) hsz hx hy hu (look_cons_same _ _ _) hlt) (HStep.pmBack hf hn he ?_ (fun j h1 h2 => ?_) (hs _))
 ·rw [look_cons_ne _ _ (by omega), look_cons_ne _ _ (by omega), look_cons_same]
 ·rw [look_cons_ne _ _ (Ne.symm h2), look_cons_ne _ _ (Ne.symm h2), look_cons_ne _ _ (Ne.symm h1)]
end
end Go.Proofs.Ytkcccenekglkoaa
