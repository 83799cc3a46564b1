/- A part of the proof. Conditions: as each theorem says. -/
import Derived.Test.YtcncappgheopgaaGreatSc
import Derived.Test.YtcncappgheopgaaGreatVb
namespace Go.Proofs.YtcncappgheopgaaGreat
set_option linter.unusedVariables false
set_option linter.unusedSimpArgs false
set_option maxRecDepth 10000
def hd7 : By := [78#8, 86#8, 79#8, 76#8, 0#8, 1#8, 0#8, 2#8, 0#8, 0#8, 0#8, 3#8]
def sb7 (c : BitVec 32) : By := hd7 ++ le4 c
theorem sb7_len (c : BitVec 32) : (sb7 c).length = 16 := rfl
theorem r07_enc {c : BitVec 32} (hc : crcSum hd7 = c) : m_r07_Encode 1 2 3 = some (sb7 c, 0) := by
 unfold m_r07_Encode
 rw [r07_Valid_eq, obs, if_pos (show sval 1 2 3 = true by decide)]
 rw [show m_r06_Number (BitVec.ofInt 64 1) (2 : Int) = some (be 2 (BitVec.ofInt 64 1)) from r06_Number_eq _ 2 (by omega), obs,
  show apg 1 ([78#8, 86#8, 79#8, 76#8] : By) (be 2 (BitVec.ofInt 64 1)) = some [78#8, 86#8, 79#8, 76#8, 0#8, 1#8] by decide, obs,
  show m_r06_Number (BitVec.ofInt 64 2) (2 : Int) = some (be 2 (BitVec.ofInt 64 2)) from r06_Number_eq _ 2 (by omega), obs,
  show apd 1 ([78#8, 86#8, 79#8, 76#8, 0#8, 1#8] : By) (be 2 (BitVec.ofInt 64 2)) = some [78#8, 86#8, 79#8, 76#8, 0#8, 1#8, 0#8, 2#8] by decide, obs,
  show m_r06_Number (BitVec.ofInt 64 3) (4 : Int) = some (be 4 (BitVec.ofInt 64 3)) from r06_Number_eq _ 4 (by omega), obs,
  show apd 1 ([78#8, 86#8, 79#8, 76#8, 0#8, 1#8, 0#8, 2#8] : By) (be 4 (BitVec.ofInt 64 3)) = some hd7 by decide, obs,
  r06_Check_eq _ (by decide), obs, hc]
 rw [apd_of (by rw [show (le4 c).length = 4 from rfl]; decide), obs]; rfl
theorem slc_lit {α : Type} (xs : List α) (lo hi : Nat) (h : lo <= hi /\ hi <= xs.length) : slc xs (lo : Int) (hi : Int) = some ((xs.drop lo).take (hi - lo)) := slc_nat xs lo hi h
theorem r07_dec {c : BitVec 32} (hc : crcSum hd7 = c) (rest : By) : m_r07_Decode (sb7 c ++ rest) = some (1, 2, 3, 0) := by
 have hl : (sb7 c ++ rest).length = 16 + rest.length := by rw [List.length_append, sb7_len]
 have e04 : slc (sb7 c ++ rest) 0 (4 : Int) = some [78#8, 86#8, 79#8, 76#8] := (slc_lit _ 0 4 (by omega)).trans rfl
 have e012 : slc (sb7 c ++ rest) 0 (12 : Int) = some hd7 := (slc_lit _ 0 12 (by omega)).trans rfl
 have e1216 : slc (sb7 c ++ rest) (12 : Int) (16 : Int) = some (le4 c) := (slc_lit _ 12 16 (by omega)).trans rfl
 have e46 : slc (sb7 c ++ rest) (4 : Int) (6 : Int) = some [0#8, 1#8] := (slc_lit _ 4 6 (by omega)).trans rfl
 have e68 : slc (sb7 c ++ rest) (6 : Int) (8 : Int) = some [0#8, 2#8] := (slc_lit _ 6 8 (by omega)).trans rfl
 have e812 : slc (sb7 c ++ rest) (8 : Int) (12 : Int) = some [0#8, 0#8, 0#8, 3#8] := (slc_lit _ 8 12 (by omega)).trans rfl
 unfold m_r07_Decode
 rw [if_neg (by omega), e04, obs, if_pos rfl, e012, obs, r06_Check_eq _ (by decide), obs, hc, e1216, obs, if_pos rfl,
  e46, obs, r06_Value_eq _ (by decide), obs, e68, obs, r06_Value_eq _ (by decide), obs, e812, obs, r06_Value_eq _ (by decide), obs,
  r07_Valid_eq, obs, if_pos (by decide)]
 rfl
abbrev Nd := Sapi_Needle
def okN (x : Nd) : Prop := nvalid x.fDeleted x.fData = true /\ x.fData.length <= 200
def encN (x : Nd) : By := nenc x.fKey x.fCookie x.fDeleted x.fData
def sizeN (x : Nd) : Nat := nsize x.fData.length
theorem encN_len (x : Nd) : (encN x).length = sizeN x := nenc_length _ _ _ _
theorem sizeN_bd {x : Nd} (h : okN x) : 24 <= sizeN x /\ sizeN x <= 231 /\ sizeN x % 8 = 0 := by
 have := nsize_lo x.fData.length; have := h.2; unfold sizeN; omega
theorem encR_ok {x : Nd} (h : okN x) : m_r06_Encode x.fKey x.fCookie x.fDeleted x.fData = some (encN x, 0) := by rw [r06_Encode_eq, nencR_val h.1]; rfl
theorem decR_ok {x : Nd} (h : okN x) (tail : By) (ht : tail.length <= 1000000) : m_r06_Decode (encN x ++ tail) = some (x.fKey, x.fCookie, x.fDeleted, x.fData, ((sizeN x : Nat) : Int), 0) := by
 have := sizeN_bd h
 rw [r06_Decode_eq _ (by rw [List.length_append, encN_len]; omega)]
 unfold encN; rw [ndec_enc _ _ _ _ _ h.1]; rfl
def encs (ns : List Nd) : By := ns.flatMap encN
theorem encs_cons (x : Nd) (ns : List Nd) : encs (x :: ns) = encN x ++ encs ns := rfl
theorem encs_snoc (ns : List Nd) (x : Nd) : encs (ns ++ [x]) = encs ns ++ encN x := by simp [encs]
theorem encs_len : ∀ (ns : List Nd), (∀ x ∈ ns, okN x) -> (encs ns).length <= 231 * ns.length
 | [], _ => Nat.le_refl _
 | x :: ns, h => by
  have := encs_len ns fun y hy => h y (List.mem_cons_of_mem _ hy)
  have := sizeN_bd (h x (List.mem_cons_self ..))
  rw [encs_cons, List.length_append, encN_len, List.length_cons]; omega
def recsOf : Nat -> List Nd -> List Rec
 | _, [] => []
 | off, x :: ns => ⟨(off : Int), x⟩ :: recsOf (off + sizeN x) ns
theorem recsOf_len : ∀ (ns : List Nd) (off : Nat), (recsOf off ns).length = ns.length
 | [], _ => rfl
 | _ :: ns, off => by rw [recsOf, List.length_cons, recsOf_len ns, List.length_cons]
theorem recsOf_mem : ∀ (ns : List Nd) (off : Nat), (∀ x ∈ ns, okN x) -> ∀ r ∈ recsOf off ns, okN r.fNeedle /\ ∃ a : Nat, ∃ tail : By, r.fOff = ((off + a : Nat) : Int) /\ a % 8 = 0 /\ a + sizeN r.fNeedle <= (encs ns).length /\ (encs ns).drop a = encN r.fNeedle ++ tail
 | [], _, _, r, h => by cases h
 | x :: ns, off, ho, r, h => by
  have hx := ho x (List.mem_cons_self ..)
  have hb := sizeN_bd hx
  rw [recsOf] at h
  rcases List.mem_cons.1 h with rfl | h
  ·refine ⟨hx, 0, encs ns, rfl, rfl, ?_, rfl⟩
   rw [encs_cons, List.length_append, encN_len]; simp only; omega
  ·obtain ⟨h1, a, tail, h2, h3, h4, h5⟩ := recsOf_mem ns (off + sizeN x) (fun y hy => ho y (List.mem_cons_of_mem _ hy)) r h
   refine ⟨h1, sizeN x + a, tail, by rw [h2, Nat.add_assoc], by omega, ?_, ?_⟩
   ·rw [encs_cons, List.length_append, encN_len]; omega
   ·rw [encs_cons, <- List.drop_drop, drop_app (encN_len x)]; exact h5
theorem records_loop (b : By) (hb : b.length <= 100000) : ∀ (ns : List Nd) (off q : Nat) (acc : List Rec), (∀ x ∈ ns, okN x) -> b.drop off = encs ns -> off <= b.length -> ns.length < q -> acc.length + ns.length <= 1000 ->
  m_r09_Records_l1 b q (off : Int) acc = some (acc ++ recsOf off ns, (b.length : Int))
 | [], off, q, acc, ho, hd, hle, hq, ha => by
  obtain ⟨q, rfl⟩ : ∃ q', q = q' + 1 := ⟨q - 1, by omega⟩
  have e : off = b.length := by
   have := congrArg List.length hd
   rw [List.length_drop] at this
   have h0 : (encs []).length = 0 := rfl
   omega
  have e2 : slc b (off : Int) (b.length : Int) = some [] := by rw [slc_nat _ _ _ ⟨by omega, by omega⟩, hd, List.take_of_length_le (by rw [show (encs []).length = 0 from rfl]; omega)]; rfl
  unfold m_r09_Records_l1
  rw [if_pos (by omega), e2, obs, r06_Decode_eq _ (by simp), obs, if_neg (by decide)]
  unfold m_r09_Records_j0
  rw [recsOf, List.append_nil, e]
 | x :: ns, off, q, acc, ho, hd, hle, hq, ha => by
  obtain ⟨q, rfl⟩ : ∃ q', q = q' + 1 := ⟨q - 1, by omega⟩
  rw [List.length_cons] at hq ha
  have hx := ho x (List.mem_cons_self ..)
  have hbd := sizeN_bd hx
  have hlen := congrArg List.length hd
  rw [List.length_drop, encs_cons, List.length_append, encN_len] at hlen
  have e2 : slc b (off : Int) (b.length : Int) = some (encN x ++ encs ns) := by rw [slc_nat _ _ _ ⟨by omega, by omega⟩, hd, List.take_of_length_le (by rw [encs_cons, List.length_append, encN_len]; omega)]; rfl
  unfold m_r09_Records_l1
  rw [if_pos (by omega), e2, obs, decR_ok hx _ (by omega), obs, if_pos rfl]
  show (apd 48 acc [(⟨(off : Int), x⟩ : Rec)]).bind _ = _
  rw [apd1 (by omega) (by omega), obs]
  show (ck ((off : Int) + ((sizeN x : Nat) : Int))).bind _ = _
  rw [ck_of (by omega), obs, show ((off : Int) + ((sizeN x : Nat) : Int)) = ((off + sizeN x : Nat) : Int) by omega]
  have hd' : b.drop (off + sizeN x) = encs ns := by
   rw [<- List.drop_drop, hd, encs_cons, drop_app (encN_len x)]
  have := records_loop b hb ns (off + sizeN x) q (acc ++ [⟨(off : Int), x⟩]) (fun y hy => ho y (List.mem_cons_of_mem _ hy)) hd' (by omega) (by omega) (by rw [List.length_append, List.length_singleton]; omega)
  rw [List.append_assoc] at this
  exact this
def datOf (c : BitVec 32) (ns : List Nd) : By := sb7 c ++ encs ns
structure Gen (c : BitVec 32) (ns : List Nd) : Prop where
 crc : crcSum hd7 = c
 ok : ∀ x ∈ ns, okN x
 few : ns.length <= 15
section
variable {c : BitVec 32} {ns : List Nd}
theorem datOf_len (c : BitVec 32) (ns : List Nd) : (datOf c ns).length = 16 + (encs ns).length := by unfold datOf; rw [List.length_append, sb7_len]
theorem Gen.len (h : Gen c ns) : 16 <= (datOf c ns).length /\ (datOf c ns).length <= 3600 := by
 have := encs_len ns h.ok; have := h.few; rw [datOf_len]; omega
theorem Gen.wid (h : Gen c ns) : ssz (datOf c ns).length <= 1000 := by have := h.len; unfold ssz; omega
theorem datOf_drop (c : BitVec 32) (ns : List Nd) (a : Nat) : (datOf c ns).drop (16 + a) = (encs ns).drop a := by
 unfold datOf
 rw [<- List.drop_drop, drop_app (sb7_len c)]
theorem Gen.opens (h : Gen c ns) : m_r09_Open (datOf c ns) = some (1, 2, 3, recsOf 16 ns, ((datOf c ns).length : Int), 0) := by
 unfold m_r09_Open
 rw [show datOf c ns = sb7 c ++ encs ns from rfl, r07_dec h.crc, obs, if_pos rfl]
 have := records_loop (datOf c ns) (by have := h.len; omega) ns 16 forever [] h.ok (by have := datOf_drop c ns 0; rw [List.drop_zero] at this; exact this) (by have := h.len; omega) (by have := h.few; unfold forever; omega) (by have := h.few; simp; omega)
 rw [List.nil_append] at this
 unfold m_r09_Records
 rw [show (16 : Int) = ((16 : Nat) : Int) from rfl]
 refine (congrArg (fun o => Option.bind o _) this).trans ?_
 rfl
theorem Gen.at (h : Gen c ns) {r : Rec} (hr : r ∈ recsOf 16 ns) : okN r.fNeedle /\ ∃ off : Nat, ∃ tail : By, r.fOff = (off : Int) /\ 16 <= off /\ off % 8 = 0 /\ off + sizeN r.fNeedle <= (datOf c ns).length /\ (datOf c ns).drop off = encN r.fNeedle ++ tail := by
 obtain ⟨h1, a, tail, h2, h3, h4, h5⟩ := recsOf_mem ns 16 h.ok r hr
 exact ⟨h1, 16 + a, tail, h2, by omega, by omega, by rw [datOf_len]; omega, (datOf_drop c ns a).trans h5⟩
def itemsOf (ns : List Nd) : List Item := itemsL (recsOf 16 ns)
theorem Gen.itemsLen (h : Gen c ns) : (itemsOf ns).length <= 15 := by
 have := items_len (recsOf 16 ns); rw [recsOf_len] at this; have := h.few; unfold itemsOf; omega
theorem Gen.items (h : Gen c ns) : m_r09_Items (recsOf 16 ns) = some (itemsOf ns) := items_ok _ (by rw [recsOf_len]; have := h.few; omega)
theorem Gen.vitem (h : Gen c ns) {y : Item} (hy : y ∈ itemsOf ns) : vItem y /\ fits ((datOf c ns).length : Int) y := by
 obtain ⟨r, hr, _, rfl⟩ := items_mem hy
 obtain ⟨h1, off, tail, h2, h3, h4, h5, _⟩ := h.at hr
 have := h.len; have := h1.2
 have e : sizeZ ((r.fNeedle.fData.length : Nat) : Int) = ((sizeN r.fNeedle : Nat) : Int) := sizeZ_nat _ (by omega)
 constructor
 ·unfold vItem itemOf; simp only; rw [h2]; omega
 ·unfold fits itemOf; simp only; rw [e, h2]; omega
theorem Gen.valid (h : Gen c ns) : hvalB 1 2 3 ((datOf c ns).length : Int) (itemsOf ns) = true := by
 unfold hvalB
 have := h.len
 rw [show sval 1 2 3 = true by decide, decide_eq_true (show 16 <= ((datOf c ns).length : Int) /\ ((datOf c ns).length : Int) <= 524288 by omega), ivalB_of (fun x hx => (h.vitem hx).1) (items_asc _), Bool.true_and, Bool.true_and, Bool.true_and]
 exact List.all_eq_true.2 fun x hx => decide_eq_true (h.vitem hx).2
def shardsOf (C : Mx) (b : By) : List Bytes := tb 6 fun i => tb (ssz b.length) (mm 4 C (sD b) i)
theorem shardsOf_len (C : Mx) (b : By) : (shardsOf C b).length = 6 := tb_len _ _
theorem shard_len (C : Mx) (b : By) {j : Nat} (hj : j < 6) : ((shardsOf C b).getD j []).length = ssz b.length := by unfold shardsOf; rw [getD_tb hj, tb_len]
theorem sum_at (C : Mx) (b : By) (hb : b.length <= 100000) {j : Nat} (hj : j < 6) : (idx (shardsOf C b) (j : Int)).bind (fun x => m_r01_Sum x) = some (crcSum ((shardsOf C b).getD j [])) := by
 unfold shardsOf
 rw [idx_tb hj, obs, getD_tb hj, r01_Sum_eq _ (by rw [tb_len]; unfold ssz; omega)]
theorem make_step (C : Mx) (b : By) (hb : b.length <= 100000) (dat : By) (z1 z2 z3 : Int) (l : List Item) (q j : Nat) (hj : j < 6) (a0 a1 a2 a3 a4 a5 : BitVec 32) :
  m_r17_Make_l2 dat z1 z2 z3 l (shardsOf C b) (q + 1) a0 a1 a2 a3 a4 a5 (j : Int) =
   let y := [a0, a1, a2, a3, a4, a5].set j (crcSum ((shardsOf C b).getD j []))
   m_r17_Make_l2 dat z1 z2 z3 l (shardsOf C b) q (y.getD 0 0#32) (y.getD 1 0#32) (y.getD 2 0#32) (y.getD 3 0#32) (y.getD 4 0#32) (y.getD 5 0#32) ((j + 1 : Nat) : Int) := by
 have key : ∀ (k : BitVec 32 -> Option (List Bytes × Int × Int × Int × Int × BitVec 32 × BitVec 32 × BitVec 32 × BitVec 32 × BitVec 32 × BitVec 32 × List Item × Int)), (idx (shardsOf C b) (j : Int)).bind (fun x92 => (m_r01_Sum x92).bind k) = k (crcSum ((shardsOf C b).getD j [])) := by
  intro k
  have := sum_at C b hb hj
  unfold shardsOf at this ⊢
  rw [idx_tb hj, obs] at this
  rw [idx_tb hj, obs, this, obs]
 conv => lhs; unfold m_r17_Make_l2
 rw [if_pos (by omega)]
 refine (key _).trans ?_
 have h6 : j < [a0, a1, a2, a3, a4, a5].length := hj
 rw [idx_nat, List.getElem?_eq_getElem h6, obs, upd_of ⟨by omega, by simpa using h6⟩, obs, ck_of (by omega), obs]
 rfl
theorem make_loop (C : Mx) (b : By) (hb : b.length <= 100000) (dat : By) (z1 z2 z3 : Int) (l : List Item) (q : Nat) :
  m_r17_Make_l2 dat z1 z2 z3 l (shardsOf C b) (q + 1 + 1 + 1 + 1 + 1 + 1 + 1) 0#32 0#32 0#32 0#32 0#32 0#32 0 = some (shardsOf C b, z1, z2, z3, (dat.length : Int), crcSum ((shardsOf C b).getD 0 []), crcSum ((shardsOf C b).getD 1 []), crcSum ((shardsOf C b).getD 2 []), crcSum ((shardsOf C b).getD 3 []), crcSum ((shardsOf C b).getD 4 []), crcSum ((shardsOf C b).getD 5 []), l, 0) := by
 have st := make_step C b hb dat z1 z2 z3 l
 refine (st _ 0 (by omega) _ _ _ _ _ _).trans ?_
 refine (st _ 1 (by omega) _ _ _ _ _ _).trans ?_
 refine (st _ 2 (by omega) _ _ _ _ _ _).trans ?_
 refine (st _ 3 (by omega) _ _ _ _ _ _).trans ?_
 refine (st _ 4 (by omega) _ _ _ _ _ _).trans ?_
 refine (st _ 5 (by omega) _ _ _ _ _ _).trans ?_
 show m_r17_Make_l2 dat z1 z2 z3 l (shardsOf C b) (q + 1) _ _ _ _ _ _ (6 : Int) = _
 unfold m_r17_Make_l2
 rw [if_neg (by omega)]; rfl
theorem r17_make {C : Mx} (hC : IsCode C) (b : By) (hb : b.length <= 3600) (z1 z2 z3 : Int) (l : List Item) (hl : l.length <= 100000) (hv : hvalB z1 z2 z3 (b.length : Int) l = true) :
  m_r17_Make b z1 z2 z3 l = some (shardsOf C b, z1, z2, z3, (b.length : Int), crcSum ((shardsOf C b).getD 0 []), crcSum ((shardsOf C b).getD 1 []), crcSum ((shardsOf C b).getD 2 []), crcSum ((shardsOf C b).getD 3 []), crcSum ((shardsOf C b).getD 4 []), crcSum ((shardsOf C b).getD 5 []), l, 0) := by
 have hw : ssz b.length <= 1000 := by unfold ssz; omega
 unfold m_r17_Make m_r17_Make_j0
 rw [apdI (by simp; omega), obs, List.nil_append, r17_Valid_eq _ _ _ _ _ _ _ _ _ _ _ (by omega), obs, if_pos hv, split_ok b (by omega), obs, rencode_ok hC hw, obs]
 show (apd 24 (tb 4 fun j => tb (ssz b.length) (sD b j)) (tb 2 fun i => tb (ssz b.length) (mm 4 C (sD b) (i + 4)))).bind _ = _
 rw [six_ok hC, obs]
 exact make_loop C b (by omega) b z1 z2 z3 l 18446744073709551609
end
end Go.Proofs.YtcncappgheopgaaGreat
