/-
  The histories: what Build makes of all events, by a law kept from round to round; the events the statements make. Conditions: as each theorem says.
-/
import Derived.Test.YtpebhdepmbnjbaaHs
namespace Go.Proofs.Ytpebhdepmbnjbaa
set_option linter.unusedVariables false
set_option linter.unusedSimpArgs false
theorem app_some {ops : List HO} {a : HO} {j : Nat} {x : HO} (h : (ops ++ [a])[j]? = some x) : ops[j]? = some x ∨ (j = ops.length ∧ x = a) := by
  rw [List.getElem?_append] at h
  split at h
  · exact Or.inl h
  · rename_i h1
    have h2 : j - ops.length = 0 := by
      have := (List.getElem?_eq_some_iff.1 h).1; simp at this; omega
    rw [h2] at h
    injection h with h
    exact Or.inr ⟨by omega, h.symm⟩
theorem set_some {ops : List HO} {a : HO} {i j : Nat} {x : HO} (h : (ops.set i a)[j]? = some x) : (j ≠ i ∧ ops[j]? = some x) ∨ (j = i ∧ x = a) := by
  by_cases e : j = i
  · subst e
    have h1 := (List.getElem?_eq_some_iff.1 h).1
    rw [List.length_set] at h1
    rw [List.getElem?_set_self h1] at h
    injection h with h; exact Or.inr ⟨rfl, h.symm⟩
  · rw [List.getElem?_set_ne (fun h => e h.symm)] at h; exact Or.inl ⟨e, h⟩
theorem map_some {ops : List HO} {f : HO → HO} {j : Nat} {x : HO} (h : (ops.map f)[j]? = some x) : ∃ y, ops[j]? = some y ∧ x = f y := by
  rw [List.getElem?_map] at h
  cases e : ops[j]? with
  | none => rw [e] at h; cases h
  | some y => rw [e] at h; injection h with h; exact ⟨y, rfl, h.symm⟩
theorem opn_ret (n : Nat) (e : HV) (x : HO) : opn (retO n e x) = false := by
  cases h : opn (retO n e x) with
  | false => rfl
  | true => have := (opn_iff.1 h).1; have h2 : (retO n e x).fReturn = (n : Int) := rfl; omega
theorem opn_cl (n : Nat) (x : HO) : opn (clO n x) = false := by
  unfold clO
  by_cases h : opn x = true
  · rw [if_pos h]
    cases h2 : opn { x with fClosed := (n : Int) } with
    | false => rfl
    | true => have h3 : (n : Int) = -1 := (opn_iff.1 h2).2; omega
  · rw [if_neg h]; simpa using h
theorem cl_client (n : Int) (x : HO) : (clO n x).fClient = x.fClient := by unfold clO; split <;> rfl

theorem one_step {n : Nat} {e : HV} {ops o : List HO} (h1 : One ops) (hs : Step n e ops (some o)) : One o ∧ o.length ≤ ops.length + 1 := by
  cases hs with
  | call k1 o1 o2 hn =>
    refine ⟨fun i j x y hij hx hy hc => ?_, by simp⟩
    rcases app_some hy with hy | ⟨rfl, rfl⟩
    · rcases app_some hx with hx | ⟨rfl, rfl⟩
      · exact h1 i j x y hij hx hy hc
      · have := (List.getElem?_eq_some_iff.1 hy).1; omega
    · rcases app_some hx with hx | ⟨rfl, rfl⟩
      · have := hn i x hx
        cases h : opn x with
        | false => rfl
        | true => exact absurd ⟨hc, h⟩ this
      · omega
  | ret j0 x0 k2 hx0 hc0 ho0 =>
    refine ⟨fun i j x y hij hx hy hc => ?_, by simp⟩
    rcases set_some hx with ⟨_, hx'⟩ | ⟨rfl, rfl⟩
    · rcases set_some hy with ⟨_, hy'⟩ | ⟨rfl, rfl⟩
      · exact h1 i j x y hij hx' hy' hc
      · exact h1 i _ x x0 hij hx' hx0 hc
    · exact opn_ret _ _ _
  | kill k3 =>
    refine ⟨fun i j x y hij hx hy hc => ?_, by simp⟩
    obtain ⟨x', _, rfl⟩ := map_some hx
    exact opn_cl _ _

/-- Build, by a law kept from round to round -/
theorem build_loop (es : List RE) (hd : ∀ e ∈ es, e.fData.length ≤ 1000) (hl : es.length ≤ 900) (P : Nat → List HO → Prop)
    (hP : ∀ n e ops o, es[n]? = some e → One ops → P n ops → Step (n : Int) (gE e) ops (some o) → P (n + 1) o) :
    ∀ (d n q : Nat) (ops : List HO), n + d = es.length → d < q → One ops → ops.length ≤ n → P n ops →
      ∃ r, m_history_Build_l1 (es.map gE) q ops (n : Int) = some r ∧ m_r24_Build_l1 es q (ops.map tO) (n : Int) = some (r.1.map tO, r.2) ∧ r.1.length ≤ 900 ∧
        ((r.2 = 0 ∧ One r.1 ∧ P es.length r.1) ∨ (r.2 = 3 ∧ ∃ n e ops, es[n]? = some e ∧ One ops ∧ P n ops ∧ Step (n : Int) (gE e) ops none)) := by
  intro d
  induction d with
  | zero =>
    intro n q ops hn hq h1 ho hp
    obtain ⟨q, rfl⟩ : ∃ q', q = q' + 1 := ⟨q - 1, by omega⟩
    refine ⟨(ops, 0), ?_, ?_, by simp; omega, Or.inl ⟨rfl, h1, ?_⟩⟩
    · unfold m_history_Build_l1; rw [if_neg (by simp; omega)]; rfl
    · unfold m_r24_Build_l1; rw [if_neg (by omega)]; rfl
    · rw [← hn]; exact hp
  | succ d ih =>
    intro n q ops hn hq h1 ho hp
    obtain ⟨q, rfl⟩ : ∃ q', q = q' + 1 := ⟨q - 1, by omega⟩
    have he : es[n]? = some es[n] := List.getElem?_eq_getElem (by omega)
    obtain ⟨o, s, a, b⟩ := step_ok es n es[n] ops he (hd _ (List.getElem_mem _)) (by omega) (by omega) h1
    cases o with
    | none => exact ⟨([], 3), a q, b q, by simp, Or.inr ⟨rfl, n, _, ops, he, h1, hp, s⟩⟩
    | some o =>
      have h2 := one_step h1 s
      rw [a q, b q]
      exact ih (n + 1) q o (by omega) (by omega) h2.1 (by omega) (hP n _ ops o he h1 hp s)
theorem build_ok (es : List RE) (hd : ∀ e ∈ es, e.fData.length ≤ 1000) (hl : es.length ≤ 900) (P : Nat → List HO → Prop) (h0 : P 0 [])
    (hP : ∀ n e ops o, es[n]? = some e → One ops → P n ops → Step (n : Int) (gE e) ops (some o) → P (n + 1) o) :
    ∃ r, m_history_Build (es.map gE) = some r ∧ m_r24_Build es = some (r.1.map tO, r.2) ∧ r.1.length ≤ 900 ∧
      ((r.2 = 0 ∧ One r.1 ∧ P es.length r.1) ∨ (r.2 = 3 ∧ ∃ n e ops, es[n]? = some e ∧ One ops ∧ P n ops ∧ Step (n : Int) (gE e) ops none)) :=
  build_loop es hd hl P hP es.length 0 forever [] (by omega) (by unfold forever; omega) (fun i j x y _ h => by simp at h) (by simp) h0

theorem awake_ok : m_law24_awake = some true := by decide +kernel

/-! ### the made events -/
/-- is the client busy after these events (the last first)? -/
def bz : List RE → Int → Bool
  | [], _ => false
  | e :: l, c => if e.fKind = 3 then false else if e.fClient = c then decide (e.fKind = 1) else bz l c
def okE (l : List RE) (e : RE) : Prop := e.fKind = 3 ∨ (e.fKind = 2 ∧ bz l.reverse e.fClient = true) ∨ (e.fKind = 1 ∧ 1 ≤ e.fOp ∧ e.fOp ≤ 3 ∧ bz l.reverse e.fClient = false)
def WF (l : List RE) : Prop := ∀ (k : Nat) e, l[k]? = some e → okE (l.take k) e
theorem wf_snoc {l : List RE} {e : RE} (h : WF l) (he : okE l e) : WF (l ++ [e]) := by
  intro k x hx
  rw [List.getElem?_append] at hx
  split at hx
  · rename_i h1; rw [List.take_append_of_le_length (by omega)]; exact h k x hx
  · rename_i h1
    have h2 : k - l.length = 0 := by
      have := (List.getElem?_eq_some_iff.1 hx).1; simp at this; omega
    rw [h2] at hx; injection hx with hx; subst hx
    rw [show k = l.length by omega, List.take_left]; exact he
theorem mget_mset (m : List (Int × Bool)) (k k' : Int) (v : Bool) : mget (mset m k v) k' = if k' = k then some v else mget m k' := by
  induction m with
  | nil => simp [mset, mget]
  | cons p m ih =>
    obtain ⟨a, w⟩ := p
    unfold mset
    by_cases h : k = a
    · subst h
      rw [if_pos (by simp)]; unfold mget
      by_cases h2 : k' = k <;> simp [h2]
    · rw [if_neg (by simpa using h)]; unfold mget
      by_cases h2 : k' = a
      · subst h2; simp [Ne.symm h]
      · have e : (k' == a) = false := by simpa using h2
        rw [e, ih]; simp
theorem andi3 (m : Int) : 0 ≤ andi m 3 ∧ andi m 3 ≤ 3 := by
  have h : (BitVec.ofInt 64 m &&& BitVec.ofInt 64 3).toNat ≤ 3 := by
    rw [BitVec.toNat_and]; exact Nat.and_le_right
  have e : andi m 3 = ((BitVec.ofInt 64 m &&& BitVec.ofInt 64 3).toNat : Int) := BitVec.toInt_eq_toNat_of_lt (by omega)
  omega
theorem rmi3 (m : Int) : ∃ c, rmi (andi m 3) 3 = some c ∧ 0 ≤ c ∧ c ≤ 2 := by
  have := andi3 m
  exact ⟨_, rmi_of this.1 (by omega), by omega, by omega⟩
/-- what the made events keep -/
structure Mk (out : List RE) (busy : List (Int × Bool)) : Prop where
  wf : WF out
  bz : ∀ c, (mget busy c).getD false = bz out.reverse c
  dat : ∀ e ∈ out, e.fData.length ≤ 20
theorem Mk.snoc {out : List RE} {busy busy' : List (Int × Bool)} {e : RE} (h : Mk out busy) (he : okE out e) (hd : e.fData.length ≤ 20) (hb : ∀ c, (mget busy' c).getD false = Proofs.Ytpebhdepmbnjbaa.bz (e :: out.reverse) c) : Mk (out ++ [e]) busy' :=
  ⟨wf_snoc h.wf he, fun c => by rw [hb c]; simp, fun x hx => by
    rcases List.mem_append.1 hx with h1 | h1
    · exact h.dat x h1
    · simp at h1; subst h1; exact hd⟩
theorem made_loop (raw : List RE) (hs : raw.length ≤ 1000) : ∀ (d n q : Nat) (out : List RE) (busy : List (Int × Bool)), n + d = 30 → d < q → out.length = n → Mk out busy →
    ∃ w, m_law24_made_l1 raw q out busy (n : Int) = some w ∧ w.length ≤ 30 ∧ WF w ∧ ∀ e ∈ w, e.fData.length ≤ 20 := by
  intro d
  induction d with
  | zero =>
    intro n q out busy hn hq ho hm
    obtain ⟨q, rfl⟩ : ∃ q', q = q' + 1 := ⟨q - 1, by omega⟩
    refine ⟨out, ?_, by omega, hm.wf, hm.dat⟩
    unfold m_law24_made_l1
    rw [if_neg (show ¬ (n : Int) < 30 by omega)]
    exact ite_self _
  | succ d ih =>
    intro n q out busy hn hq ho hm
    obtain ⟨q, rfl⟩ : ∃ q', q = q' + 1 := ⟨q - 1, by omega⟩
    unfold m_law24_made_l1
    by_cases h1 : n < raw.length
    · rw [if_pos (by omega), if_pos (by omega)]
      unfold m_law24_made_j2
      rw [idx_nat, List.getElem?_eq_getElem h1, Option.bind_some]
      generalize raw[n] = e
      have key : ∀ dt : List (BitVec 8), dt.length ≤ 20 → ∃ w, m_law24_made_j3 out busy n e (m_law24_made_l1 raw q) dt = some w ∧ w.length ≤ 30 ∧ WF w ∧ ∀ e ∈ w, e.fData.length ≤ 20 := by
        intro dt hdt
        obtain ⟨c, hc, _, _⟩ := rmi3 e.fClient
        obtain ⟨p, hp, p1, p2⟩ := rmi3 e.fOp
        have hck : ck ((n : Int) + 1) = some ((n + 1 : Nat) : Int) := ck_nat (by omega)
        have ha : ∀ z : RE, apd 72 out [z] = some (out ++ [z]) := fun z => apd_of (by simp; omega)
        have hl : ∀ z : RE, (out ++ [z]).length = n + 1 := fun z => by simp [ho]
        unfold m_law24_made_j3
        rw [hc, Option.bind_some, hp, Option.bind_some, ck_of (by omega), Option.bind_some]
        by_cases k3 : andi e.fKind 15 = 3
        · rw [if_pos k3, ha, Option.bind_some, hck, Option.bind_some]
          exact ih (n + 1) q _ _ (by omega) (by omega) (hl _) (hm.snoc (Or.inl rfl) hdt fun c => rfl)
        · rw [if_neg k3]
          by_cases hb : (mget busy c).getD false = true
          · rw [if_pos hb, ha, Option.bind_some, hck, Option.bind_some]
            refine ih (n + 1) q _ _ (by omega) (by omega) (hl _) (hm.snoc (Or.inr (Or.inl ⟨rfl, by rw [← hm.bz]; exact hb⟩)) hdt fun c' => ?_)
            rw [mget_mset]
            unfold bz
            rw [if_neg (by decide : ¬ ((2 : Int) = 3))]
            by_cases h2 : c' = c
            · rw [if_pos h2, if_pos h2.symm]; rfl
            · rw [if_neg h2, if_neg (Ne.symm h2)]; exact hm.bz c'
          · rw [if_neg hb, ha, Option.bind_some, hck, Option.bind_some]
            refine ih (n + 1) q _ _ (by omega) (by omega) (hl _) (hm.snoc (Or.inr (Or.inr ⟨rfl, ?_, ?_, by rw [← hm.bz]; simpa using hb⟩)) hdt fun c' => ?_)
            · show (1 : Int) ≤ 1 + p; omega
            · show (1 : Int) + p ≤ 3; omega
            rw [mget_mset]
            unfold bz
            rw [if_neg (by decide : ¬ ((1 : Int) = 3))]
            by_cases h2 : c' = c
            · rw [if_pos h2, if_pos h2.symm]; rfl
            · rw [if_neg h2, if_neg (Ne.symm h2)]; exact hm.bz c'
      by_cases h20 : 20 < e.fData.length
      · rw [if_pos (by omega), slc_of (by omega), Option.bind_some]; exact key _ (by simp; omega)
      · rw [if_neg (by omega)]; exact key _ (by omega)
    · rw [if_neg (by omega)]
      exact ⟨out, rfl, by omega, hm.wf, hm.dat⟩
theorem made_ok (raw : List RE) (hs : raw.length ≤ 1000) : ∃ w, m_law24_made raw = some w ∧ w.length ≤ 30 ∧ WF w ∧ ∀ e ∈ w, e.fData.length ≤ 20 :=
  made_loop raw hs 30 0 forever [] [] rfl (by unfold forever; omega) rfl ⟨fun k e h => by simp at h, fun c => rfl, fun e h => by simp at h⟩
end Go.Proofs.Ytpebhdepmbnjbaa
