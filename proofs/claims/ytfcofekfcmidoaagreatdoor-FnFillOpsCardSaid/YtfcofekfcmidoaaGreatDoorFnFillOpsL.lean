/- Fn Fill Ops: plain laws of the models. -/
import Derived.Test.YtfcofekfcmidoaaGreatDoorFnFillOpsT
set_option linter.unusedVariables false
set_option linter.unusedSimpArgs false
namespace Go.Proofs.YtfcofekfcmidoaaGreatDoor
open Go.RowKit Go.X
theorem IndexFunc_Idx (xs : List DIdx) (f : DIdx → Bool) : g_slices_IndexFunc_Idx xs f = idxF f d_Idx xs := rfl
theorem ContainsFunc_Write (xs : List DWrite) (f : DWrite → Bool) : g_slices_ContainsFunc_Write xs f = xs.any f := idxF_any f d_Write xs
theorem ContainsFunc_string (xs : List Str) (f : Str → Bool) : g_slices_ContainsFunc_string xs f = xs.any f := idxF_any f d_Str xs
theorem Contains_string (xs : List Str) (y : Str) : g_slices_Contains_string xs y = xs.any (fun x => y == x) := idxF_any _ d_Str xs
theorem within_eq : i_within = s_l1In := rfl
theorem f_l1In {n lo hi : Int} (h : s_l1In n lo hi = true) : lo ≤ n ∧ n ≤ hi := by
  unfold s_l1In at h
  obtain ⟨h1, h2⟩ := of_cond_f h
  exact ⟨of_decide_eq_true h1, of_decide_eq_true h2⟩
theorem f_within {n lo hi : Int} (h : i_within n lo hi = true) : lo ≤ n ∧ n ≤ hi := f_l1In h
theorem indexByte_neg (l : List UInt8) (c : UInt8) : decide (Lib.indexByte l c < 0) = !(l.contains c) := by
  induction l with
  | nil => rfl
  | cons b l ih =>
    have hge := Lib.indexByte_ge l c
    rw [Bool.eq_iff_iff] at ih ⊢
    simp only [decide_eq_true_eq, Bool.not_eq_true', List.contains_cons] at ih ⊢
    unfold Lib.indexByte
    by_cases hb : b = c
    · subst hb; simp
    · have hb1 : (b == c) = false := by simpa using hb
      have hb2 : (c == b) = false := by simpa using fun h => hb h.symm
      rw [hb1, hb2]
      simp only [Bool.false_or, Bool.false_eq_true, if_false]
      split
      · rename_i h
        have : Lib.indexByte l c = -1 := by simpa using h
        rw [← ih]; omega
      · rename_i h
        have : Lib.indexByte l c ≠ -1 := by simpa using h
        constructor
        · intro h; omega
        · intro h; have := ih.2 h; omega
theorem byte_back (b : UInt8) : ((b.toNat : Int)).toNat.toUInt8 = b := by simp
theorem idxB_neg (s : Str) (b : UInt8) : decide (idxB s (b.toNat : Int) < 0) = !(s.contains b) := by
  unfold idxB
  rw [byte_back, indexByte_neg]
def byteOk (more : Str) (b : UInt8) : Bool := i_isLowerOrDigit (b.toNat : Int) || more.contains b
theorem hasBytes_eq (s more : Str) : i_hasBytes s more = s.all (byteOk more) := by
  unfold i_hasBytes
  rw [allE (0 : UInt8) (byteOk more) (r := false) fun k => by
    unfold B_i_hasBytes_0 byteOk g_strings_IndexByte g_internal_stringslite_IndexByte
    rw [idxB_neg]
    cases i_isLowerOrDigit ((s.getD k 0).toNat : Int) <;> cases more.contains (s.getD k 0) <;> rfl]
  cases s.all (byteOk more) <;> rfl
theorem toNat_eq (a b : UInt8) : decide ((a.toNat : Int) = (b.toNat : Int)) = (a == b) := by
  rw [Bool.eq_iff_iff, decide_eq_true_iff, beq_iff_eq]
  constructor
  · intro h; exact UInt8.toNat.inj oM
  · intro h; rw [h]
theorem l3B1 {T : Type} (s more : Str) (k : Nat) (x0 : Bool) (fr : Bool → T) (fd : Bool → T) : loopE (loopM (B_s_l3Bytes_1 s more k) (more.length - 0) 0 x0) fr fd = fd (x0 || more.contains (s.getD k 0)) := by
  rw [orE (0 : UInt8) (fun b => (s.getD k 0) == b) fun j x => by
    unfold B_s_l3Bytes_1
    rw [toNat_eq]
    cases x <;> rfl]
  rw [List.contains_eq_any_beq]
theorem l3Bytes_eq (s more : Str) : s_l3Bytes s more = s.all (byteOk more) := by
  unfold s_l3Bytes
  rw [allE (0 : UInt8) (byteOk more) (r := false) fun k => by
    unfold B_s_l3Bytes_0 byteOk i_isLowerOrDigit
    simp only [l3B1]
    cases decide (97 ≤ ((s.getD k 0).toNat : Int)) <;> cases decide (((s.getD k 0).toNat : Int) ≤ 122) <;> cases decide (48 ≤ ((s.getD k 0).toNat : Int)) <;> cases decide (((s.getD k 0).toNat : Int) ≤ 57) <;> cases more.contains (s.getD k 0) <;> rfl]
  cases s.all (byteOk more) <;> rfl
theorem GoodKey_eq (s : Str) : i_GoodKey s = s_l3Key s := by
  unfold i_GoodKey s_l3Key
  rw [hasBytes_eq, l3Bytes_eq, within_eq]
theorem GoodVal_eq (s : Str) : i_GoodVal s = s_l3Val s := by
  unfold i_GoodVal s_l3Val
  rw [hasBytes_eq, l3Bytes_eq]

theorem writeKeys_eq (l : List DWrite) : i_writeKeys l = l.map (·.Key) := by
  unfold i_writeKeys
  rw [mapE (body := B_i_writeKeys_0 l) (xs := l) d_Write (fun w => w.Key) fun k x _ => rfl]
  rfl
def rising (ks : List Str) (k : Nat) : Bool := bif decide (0 < (k : Int)) then sLt (ks.getD ((IntKind.wrap .i64 ((k : Int) - 1)).toNat) d_Str) (ks.getD k d_Str) else true
theorem areRising_eq (ks : List Str) : i_areRising ks = (List.range ks.length).all fun k => s_l3Key (ks.getD k d_Str) && rising ks k := by
  unfold i_areRising
  rw [loopU (fun k => s_l3Key (ks.getD k d_Str) && rising ks k) (r := false) fun k _ => by
    unfold B_i_areRising_0 rising
    rw [GoodKey_eq, sLe_not]
    cases s_l3Key (ks.getD k d_Str) <;> cases decide (0 < (k : Int)) <;> cases sLt (ks.getD ((IntKind.wrap .i64 ((k : Int) - 1)).toNat) d_Str) (ks.getD k d_Str) <;> rfl]
  cases (List.range ks.length).all fun k => s_l3Key (ks.getD k d_Str) && rising ks k <;> rfl
theorem l3Writes_eq (l : List DWrite) : s_l3Writes l = (((List.range l.length).all fun k => s_l3Write ((l.getD k d_Write).Key) ((l.getD k d_Write).Val) ((l.getD k d_Write).Gone) && rising (l.map (·.Key)) k) && decide ((l.length : Int) ≤ 24)) := by
  have hg : ∀ k, (l.map (·.Key)).getD k d_Str = (l.getD k d_Write).Key := by
    intro k
    simp only [List.getD_eq_getElem?_getD, List.getElem?_map]
    cases l[k]? <;> rfl
  unfold s_l3Writes
  rw [loopU (fun k => s_l3Write ((l.getD k d_Write).Key) ((l.getD k d_Write).Val) ((l.getD k d_Write).Gone) && rising (l.map (·.Key)) k) (r := false) fun k _ => by
    unfold B_s_l3Writes_0 rising
    rw [hg, hg]
    cases s_l3Write ((l.getD k d_Write).Key) ((l.getD k d_Write).Val) ((l.getD k d_Write).Gone) <;> cases decide (0 < (k : Int)) <;> cases sLt (l.getD ((IntKind.wrap .i64 ((k : Int) - 1)).toNat) d_Write).Key (l.getD k d_Write).Key <;> rfl]
  cases ((List.range l.length).all fun k => s_l3Write ((l.getD k d_Write).Key) ((l.getD k d_Write).Val) ((l.getD k d_Write).Gone) && rising (l.map (·.Key)) k) <;> rfl
theorem and_all {α : Type} (l : List α) (p q : α → Bool) : (l.all p && l.all q) = l.all fun x => p x && q x := by
  induction l with
  | nil => rfl
  | cons x l ih =>
    simp only [List.all_cons, ← ih]
    cases p x <;> cases q x <;> cases l.all p <;> rfl
theorem isStored_eq (v : Str) (g : Bool) : i_isStored v g = (s_l3Val v && (!g || v == ([] : Str))) := by
  unfold i_isStored
  rw [GoodVal_eq]
  cases s_l3Val v <;> cases g <;> cases (v == ([] : Str)) <;> rfl
theorem l3Write_eq (k v : Str) (g : Bool) : s_l3Write k v g = (s_l3Key k && i_isStored v g) := by
  rw [isStored_eq]
  unfold s_l3Write
  cases s_l3Key k <;> cases s_l3Val v <;> cases g <;> cases (v == ([] : Str)) <;> rfl
theorem GoodWrites_eq (l : List DWrite) : i_GoodWrites l = s_l3Writes l := by
  have hg : ∀ k, (l.map (·.Key)).getD k d_Str = (l.getD k d_Write).Key := by
    intro k
    simp only [List.getD_eq_getElem?_getD, List.getElem?_map]
    cases l[k]? <;> rfl
  unfold i_GoodWrites
  rw [writeKeys_eq, areRising_eq, l3Writes_eq, ContainsFunc_Write, List.length_map]
  have h1 : (!(l.any fun y => i_GoodWrites_c1 y)) = (List.range l.length).all fun k => i_isStored (l.getD k d_Write).Val (l.getD k d_Write).Gone := by
    rw [List.not_any_eq_all_not, ← range_all d_Write]
    unfold i_GoodWrites_c1
    simp only [Bool.not_not]
  rw [h1]
  have h2 : ((List.range l.length).all fun k => s_l3Write ((l.getD k d_Write).Key) ((l.getD k d_Write).Val) ((l.getD k d_Write).Gone) && rising (l.map (·.Key)) k) = (((List.range l.length).all fun k => s_l3Key ((l.map (·.Key)).getD k d_Str) && rising (l.map (·.Key)) k) && (List.range l.length).all fun k => i_isStored (l.getD k d_Write).Val (l.getD k d_Write).Gone) := by
    rw [and_all]
    congr 1; funext k
    rw [l3Write_eq, hg]
    cases s_l3Key (l.getD k d_Write).Key <;> cases i_isStored (l.getD k d_Write).Val (l.getD k d_Write).Gone <;> cases rising (l.map (·.Key)) k <;> rfl
  rw [h2]
  cases decide ((l.length : Int) ≤ 24) <;> cases ((List.range l.length).all fun k => s_l3Key ((l.map (·.Key)).getD k d_Str) && rising (l.map (·.Key)) k) <;> cases ((List.range l.length).all fun k => i_isStored (l.getD k d_Write).Val (l.getD k d_Write).Gone) <;> rfl
theorem isRows_eq (l : List DWrite) : i_isRows l = (s_l3Writes l && l.all fun w => !w.Gone) := by
  unfold i_isRows
  rw [GoodWrites_eq, ContainsFunc_Write, List.not_any_eq_all_not]
  cases s_l3Writes l <;> rfl
theorem letters_eq : i_areLetters = s_l24Letters := by
  funext s m
  unfold i_areLetters s_l24Letters
  rfl
theorem isField_eq (s : Str) : i_isField s = s_l25Field s := by
  unfold i_isField s_l25Field
  rw [hasBytes_eq, l3Bytes_eq, within_eq]
theorem l25Good_eq (t : DTable) (r : DRow) : s_l25Good t r = (r.Vals.all s_l25Field && decide ((r.Vals.length : Int) = (t.Cols.length : Int))) := by
  unfold s_l25Good
  rw [allE d_Str s_l25Field (r := false) fun k => rfl]
  cases r.Vals.all s_l25Field <;> rfl
theorem isRow_eq (t : DTable) (r : DRow) : i_Table_isRow t r = s_l25Good t r := by
  rw [l25Good_eq]
  unfold i_Table_isRow
  rw [ContainsFunc_string, List.not_any_eq_all_not]
  unfold i_Table_isRow_c1
  simp only [Bool.not_not, isField_eq]
  cases decide ((r.Vals.length : Int) = (t.Cols.length : Int)) <;> cases (r.Vals.all fun x => s_l25Field x) <;> rfl
theorem l24At_neg (l : List Str) (s : Str) : decide (0 ≤ s_l24At l s) = l.any fun x => x == s := by
  have : s_l24At l s = idxF (fun x => x == s) d_Str l := rfl
  rw [this, idxF_any]
def colOk (l : List Str) (k : Nat) : Bool := s_l24Letters (l.getD k d_Str) 3 && !((l.take k).any fun x => x == l.getD k d_Str)
theorem l24Cols_eq (l : List Str) : s_l24Cols l = ((List.range l.length).all (colOk l) && s_l1In (l.length : Int) 2 4) := by
  unfold s_l24Cols
  rw [loopU (colOk l) (r := false) fun k _ => by
    unfold B_s_l24Cols_0 colOk
    rw [l24At_neg]
    cases s_l24Letters (l.getD k d_Str) 3 <;> cases ((l.take k).any fun x => x == l.getD k d_Str) <;> rfl]
  cases (List.range l.length).all (colOk l) <;> rfl
theorem GoodTable_eq (t : DTable) : i_GoodTable t = s_GoodTable t := by
  unfold i_GoodTable s_GoodTable
  rw [l24Cols_eq, letters_eq, within_eq]
  rw [loopU (colOk t.Cols) (r := false) fun k _ => by
    unfold B_i_GoodTable_0 colOk
    rw [Contains_string, letters_eq]
    rw [show ((t.Cols.take k).any fun x => t.Cols.getD k d_Str == x) = ((t.Cols.take k).any fun x => x == t.Cols.getD k d_Str) by congr 1; funext x; rw [Bool.beq_comm]]
    cases s_l24Letters (t.Cols.getD k d_Str) 3 <;> cases ((t.Cols.take k).any fun x => x == t.Cols.getD k d_Str) <;> rfl]
  have hb : B_i_GoodTable_1 t = B_s_GoodTable_0 t := by
    funext k u
    unfold B_i_GoodTable_1 B_s_GoodTable_0 i_isStage
    rw [letters_eq, within_eq, sLe_not]
    cases s_l24Letters ((t.Idxs.getD k d_Idx).Name) 1 <;> cases s_l1In ((t.Idxs.getD k d_Idx).Col) 1 (IntKind.wrap .i64 ((t.Cols.length : Int) - 1)) <;> cases s_l1In ((t.Idxs.getD k d_Idx).Stage) 0 3 <;> cases decide (0 < (k : Int)) <;> cases sLt ((t.Idxs.getD ((IntKind.wrap .i64 ((k : Int) - 1)).toNat) d_Idx).Name) ((t.Idxs.getD k d_Idx).Name) <;> rfl
  rw [hb]
  cases s_l24Letters t.Name 1 <;> cases s_l1In (t.Cols.length : Int) 2 4 <;> cases decide (3 < (t.Idxs.length : Int)) <;> cases (List.range t.Cols.length).all (colOk t.Cols) <;> rfl
theorem GoodRow_eq (t : DTable) (r : DRow) : i_GoodRow t r = s_GoodRow t r := by
  unfold i_GoodRow s_GoodRow
  rw [GoodTable_eq, isRow_eq]
theorem f_s_GoodTable {t : DTable} (h : s_GoodTable t = true) : 2 ≤ (t.Cols.length : Int) ∧ (t.Cols.length : Int) ≤ 4 ∧ (t.Idxs.length : Int) ≤ 3 := by
  unfold s_GoodTable at h
  obtain ⟨_, h⟩ := of_cond_f h
  obtain ⟨h1, h⟩ := of_cond_f h
  rw [l24Cols_eq, Bool.and_eq_true] at h1
  have h2 := f_l1In h1.2
  refine ⟨h2.1, h2.2, ?_⟩
  cases h3 : decide (3 < (t.Idxs.length : Int))
  · have := of_decide_eq_false h3; omega
  · rw [h3] at h; cases h
theorem f_i_GoodTable {t : DTable} (h : i_GoodTable t = true) : 2 ≤ (t.Cols.length : Int) ∧ (t.Cols.length : Int) ≤ 4 ∧ (t.Idxs.length : Int) ≤ 3 := f_s_GoodTable (GoodTable_eq t ▸ h)
theorem f_s_l25Good' {t : DTable} {r : DRow} (h : s_l25Good t r = true) : r.Vals.length = t.Cols.length := by
  rw [l25Good_eq, Bool.and_eq_true] at h
  have := of_decide_eq_true h.2
  omega
theorem findIdx_eq (t : DTable) (s : Str) : i_Table_findIdx t s = s_l24Idx t s := by
  unfold i_Table_findIdx
  rw [IndexFunc_Idx]
  rfl
theorem l24Idx_idxF (t : DTable) (n : Str) : s_l24Idx t n = idxF (fun y => i_Table_findIdx_c1 y n) d_Idx t.Idxs := rfl
theorem l24Idx_spec (t : DTable) (n : Str) : (s_l24Idx t n = -1 ∧ ∀ x ∈ t.Idxs, x.Name ≠ n) ∨ ∃ (k : Nat) (_ : k < t.Idxs.length), s_l24Idx t n = (k : Int) ∧ (t.Idxs.getD k d_Idx).Name = n ∧ ∀ j, j < k → (t.Idxs.getD j d_Idx).Name ≠ n := by
  rw [l24Idx_idxF]
  rcases idxF_spec (fun y => i_Table_findIdx_c1 y n) d_Idx t.Idxs with ⟨h1, h2⟩ | ⟨k, hk, h1, h2, h3⟩
  · exact .inl ⟨h1, fun x hx e => by have := h2 x hx; unfold i_Table_findIdx_c1 at this; rw [e, beq_self_eq_true] at this; cases this⟩
  · refine .inr ⟨k, hk, h1, ?_, fun j hj e => ?_⟩
    · rw [getD_eq hk]; unfold i_Table_findIdx_c1 at h2; exact eq_of_beq h2
    · have := h3 j hj; rw [getD_eq oM] at e; unfold i_Table_findIdx_c1 at this; rw [e, beq_self_eq_true] at this; cases this
theorem rf_s_l24Idx (t : DTable) (n : Str) : -1 ≤ s_l24Idx t n ∧ s_l24Idx t n < (t.Idxs.length : Int) := by
  rcases l24Idx_spec t n with ⟨h, _⟩ | ⟨k, hk, h, _⟩ <;> omega
theorem rf_i_findIdx (t : DTable) (n : Str) : -1 ≤ i_Table_findIdx t n ∧ i_Table_findIdx t n < (t.Idxs.length : Int) := by rw [findIdx_eq]; exact rf_s_l24Idx t n
def idxOk (t : DTable) (k : Nat) : Bool := s_l24Letters (t.Idxs.getD k d_Idx).Name 1 && s_l1In (t.Idxs.getD k d_Idx).Col 1 (IntKind.wrap .i64 ((t.Cols.length : Int) - 1)) && s_l1In (t.Idxs.getD k d_Idx).Stage 0 3 && bif decide (0 < (k : Int)) then sLt (t.Idxs.getD ((IntKind.wrap .i64 ((k : Int) - 1)).toNat) d_Idx).Name (t.Idxs.getD k d_Idx).Name else true
theorem s_GoodTable_eq (t : DTable) : s_GoodTable t = (s_l24Letters t.Name 1 && s_l24Cols t.Cols && decide (t.Idxs.length ≤ 3) && (List.range t.Idxs.length).all (idxOk t)) := by
  unfold s_GoodTable
  rw [loopU (idxOk t) (r := false) fun k _ => by
    unfold B_s_GoodTable_0 idxOk
    cases s_l24Letters (t.Idxs.getD k d_Idx).Name 1 <;> cases s_l1In (t.Idxs.getD k d_Idx).Col 1 (IntKind.wrap .i64 ((t.Cols.length : Int) - 1)) <;> cases s_l1In (t.Idxs.getD k d_Idx).Stage 0 3 <;> cases decide (0 < (k : Int)) <;> cases sLt (t.Idxs.getD ((IntKind.wrap .i64 ((k : Int) - 1)).toNat) d_Idx).Name (t.Idxs.getD k d_Idx).Name <;> rfl]
  have e : decide (t.Idxs.length ≤ 3) = !decide (3 < (t.Idxs.length : Int)) := by
    by_cases h : t.Idxs.length ≤ 3
    · rw [decide_eq_true h, decide_eq_false oM]; rfl
    · rw [decide_eq_false h, decide_eq_true oM]; rfl
  rw [e]
  cases s_l24Letters t.Name 1 <;> cases s_l24Cols t.Cols <;> cases decide (3 < (t.Idxs.length : Int)) <;> cases (List.range t.Idxs.length).all (idxOk t) <;> rfl
def letter (b : UInt8) : Bool := !decide ((b.toNat : Int) < 97) && !decide (122 < (b.toNat : Int))
theorem l24Letters_eq (s : Str) (m : Int) : s_l24Letters s m = (s.all letter && decide (1 ≤ (s.length : Int)) && decide ((s.length : Int) ≤ m)) := by
  unfold s_l24Letters
  rw [allE (0 : UInt8) letter (r := false) fun k => by
    unfold B_s_l24Letters_0 letter
    cases decide (((s.getD k 0).toNat : Int) < 97) <;> cases decide (122 < ((s.getD k 0).toNat : Int)) <;> rfl]
  cases s.all letter <;> cases decide (1 ≤ (s.length : Int)) <;> rfl
theorem letters_len {s : Str} {m : Int} (h : s_l24Letters s m = true) : 1 ≤ (s.length : Int) ∧ (s.length : Int) ≤ m := by
  rw [l24Letters_eq] at h
  simp only [Bool.and_eq_true, decide_eq_true_eq] at h
  exact ⟨h.1.2, h.2⟩
structure GoodT (t : DTable) : Prop where
  name : t.Name.length = 1
  cols : 2 ≤ t.Cols.length ∧ t.Cols.length ≤ 4
  idxs : t.Idxs.length ≤ 3
  idx : ∀ k, k < t.Idxs.length → (t.Idxs.getD k d_Idx).Name.length = 1 ∧ 1 ≤ (t.Idxs.getD k d_Idx).Col ∧ (t.Idxs.getD k d_Idx).Col < (t.Cols.length : Int) ∧ 0 ≤ (t.Idxs.getD k d_Idx).Stage ∧ (t.Idxs.getD k d_Idx).Stage ≤ 3
  rise : ∀ k, k + 1 < t.Idxs.length → (t.Idxs.getD k d_Idx).Name < (t.Idxs.getD (k + 1) d_Idx).Name
theorem GoodT.of {t : DTable} (h : s_GoodTable t = true) : GoodT t := by
  have hf := f_s_GoodTable h
  rw [s_GoodTable_eq] at h
  simp only [Bool.and_eq_true, decide_eq_true_eq, List.all_eq_true, List.mem_range] at h
  obtain ⟨⟨⟨h1, h2⟩, h3⟩, h4⟩ := h
  have h5 : ∀ k, k < t.Idxs.length → _ := fun k hk => h4 k hk
  unfold idxOk at h5
  simp only [Bool.and_eq_true] at h5
  refine ⟨by have := letters_len h1; omega, oM, h3, fun k hk => ?_, fun k hk => ?_⟩
  · obtain ⟨⟨⟨a, b⟩, c⟩, d⟩ := h5 k hk
    have a := letters_len a
    have b := f_l1In b
    have c := f_l1In c
    rw [wrap_in oM] at b
    omega
  · have d := (h5 (k + 1) hk).2
    rw [wrap_in oM, decide_eq_true (show 0 < ((k + 1 : Nat) : Int) by omega)] at d
    have e : (((k + 1 : Nat) : Int) - 1).toNat = k := by omega
    rw [e] at d
    exact (sLt_iff _ _).1 d
theorem f_i_hasIdx' {t : DTable} {n : Str} (h : i_hasIdx t n = true) : (2 ≤ (t.Cols.length : Int) ∧ (t.Cols.length : Int) ≤ 4 ∧ (t.Idxs.length : Int) ≤ 3) ∧ (0 ≤ i_Table_findIdx t n ∧ i_Table_findIdx t n < (t.Idxs.length : Int)) ∧ 1 ≤ (i_Table_idx t n).Col ∧ (i_Table_idx t n).Col < (t.Cols.length : Int) := by
  unfold i_hasIdx at h
  obtain ⟨h1, h2⟩ := of_cond_f h
  have h2 := of_decide_eq_true h2
  have h3 := rf_i_findIdx t n
  rw [GoodTable_eq] at h1
  have hg := GoodT.of h1
  refine ⟨f_s_GoodTable h1, ⟨h2, h3.2⟩, ?_⟩
  unfold i_Table_idx
  have := hg.idx (i_Table_findIdx t n).toNat oM
  omega
theorem f_s_IdxAt' {t : DTable} {n : Str} (h : (s_IdxAt t n).2 = true) : (2 ≤ (t.Cols.length : Int) ∧ (t.Cols.length : Int) ≤ 4 ∧ (t.Idxs.length : Int) ≤ 3) ∧ (0 ≤ s_l24Idx t n ∧ s_l24Idx t n < (t.Idxs.length : Int)) ∧ 1 ≤ (s_IdxAt t n).1.Col ∧ (s_IdxAt t n).1.Col < (t.Cols.length : Int) := by
  unfold s_IdxAt at h ⊢
  cases h1 : s_GoodTable t
  · rw [h1] at h; cases h
  · rw [h1] at h
    simp only [cond_true] at h ⊢
    cases h2 : decide (s_l24Idx t n < 0)
    · simp only [cond_false]
      have h2 := of_decide_eq_false h2
      have h3 := rf_s_l24Idx t n
      have := (GoodT.of h1).idx (s_l24Idx t n).toNat oM
      exact ⟨f_s_GoodTable h1, ⟨by omega, h3.2⟩, by omega⟩
    · rw [h2] at h; cases h
theorem hasIdx_eq (t : DTable) (n : Str) : i_hasIdx t n = (s_IdxAt t n).2 := by
  unfold i_hasIdx s_IdxAt
  rw [GoodTable_eq, findIdx_eq]
  cases s_GoodTable t
  · rfl
  · simp only [cond_true]
    by_cases h : s_l24Idx t n < 0
    · rw [decide_eq_true h, decide_eq_false (show ¬ 0 ≤ s_l24Idx t n by omega)]; rfl
    · rw [decide_eq_false h, decide_eq_true (show 0 ≤ s_l24Idx t n by omega)]; rfl
theorem IdxAt_fst {t : DTable} {n : Str} (h : (s_IdxAt t n).2 = true) : (s_IdxAt t n).1 = i_Table_idx t n ∧ (i_Table_idx t n).Name = n := by
  have hf := f_s_IdxAt' h
  unfold s_IdxAt at h ⊢
  unfold i_Table_idx
  cases h1 : s_GoodTable t
  · rw [h1] at h; cases h
  · simp only [cond_true]
    rw [decide_eq_false (show ¬ s_l24Idx t n < 0 by omega), findIdx_eq]
    refine ⟨rfl, ?_⟩
    rcases l24Idx_spec t n with ⟨h, _⟩ | ⟨k, hk, h, h', _⟩
    · omega
    · rw [h]; exact h'
theorem rf_idxHead (t : DTable) (n : Str) : (i_Table_idxHead t n).length = t.Name.length + n.length + 2 := by
  unfold i_Table_idxHead
  simp only [lN]; omega
def rowShort (r : DRow) : Prop := ∀ v ∈ r.Vals, v.length ≤ 3
theorem rowShort.getD {r : DRow} (h : rowShort r) (k : Nat) : (r.Vals.getD k d_Str).length ≤ 3 := by
  rcases Nat.lt_or_ge k r.Vals.length with hk | hk
  · exact h _ (getD_mem hk)
  · rw [List.getD_eq_getElem?_getD, List.getElem?_eq_none hk]; exact Nat.zero_le _
theorem okS_idxKey {t : DTable} {n : Str} {r : DRow} (h : t.Name.length ≤ 1 ∧ n.length ≤ 1) (hr : rowShort r) {a b : Nat} : okS ((((i_Table_idxHead t n) ++ (r.Vals.getD a d_Str)) ++ ([47] : Str)) ++ (r.Vals.getD b d_Str)) := by
  have h1 := rf_idxHead t n
  have h2 := hr.getD a
  have h3 := hr.getD b
  unfold okS
  simp only [lN]; omega
theorem okS_l25Entry {t : DTable} {x : DIdx} {r : DRow} (h : t.Name.length ≤ 1 ∧ x.Name.length ≤ 1) (hr : rowShort r) {a b : Nat} : okS ((((((t.Name ++ ([46] : Str)) ++ x.Name) ++ ([47] : Str)) ++ (r.Vals.getD a d_Str)) ++ ([47] : Str)) ++ (r.Vals.getD b d_Str)) := by
  have h2 := hr.getD a
  have h3 := hr.getD b
  unfold okS
  simp only [lN]; omega
theorem field_len {s : Str} (h : s_l25Field s = true) : 1 ≤ (s.length : Int) ∧ (s.length : Int) ≤ 3 := by
  unfold s_l25Field at h
  exact f_l1In (of_cond_f h).1
theorem f_s_l25Good {t : DTable} {r : DRow} (h : s_l25Good t r = true) : r.Vals.length = t.Cols.length ∧ rowShort r := by
  refine ⟨f_s_l25Good' h, fun v hv => ?_⟩
  rw [l25Good_eq, Bool.and_eq_true] at h
  have := field_len (List.all_eq_true.1 h.1 v hv)
  omega
theorem f_i_isRow {t : DTable} {r : DRow} (h : i_Table_isRow t r = true) : r.Vals.length = t.Cols.length ∧ rowShort r := f_s_l25Good (isRow_eq t r ▸ h)
theorem f_s_GoodRow {t : DTable} {r : DRow} (h : s_GoodRow t r = true) : (r.Vals.length = t.Cols.length ∧ 2 ≤ (t.Cols.length : Int) ∧ (t.Cols.length : Int) ≤ 4 ∧ (t.Idxs.length : Int) ≤ 3) ∧ t.Name.length = 1 ∧ rowShort r := by
  unfold s_GoodRow at h
  obtain ⟨h1, h2⟩ := of_cond_f h
  exact ⟨⟨(f_s_l25Good h2).1, f_s_GoodTable h1⟩, (GoodT.of h1).name, (f_s_l25Good h2).2⟩
theorem f_i_GoodRow {t : DTable} {r : DRow} (h : i_GoodRow t r = true) : (r.Vals.length = t.Cols.length ∧ 2 ≤ (t.Cols.length : Int) ∧ (t.Cols.length : Int) ≤ 4 ∧ (t.Idxs.length : Int) ≤ 3) ∧ t.Name.length = 1 ∧ rowShort r := f_s_GoodRow (GoodRow_eq t r ▸ h)
theorem f_i_hasIdx {t : DTable} {n : Str} (h : i_hasIdx t n = true) : (2 ≤ (t.Cols.length : Int) ∧ (t.Cols.length : Int) ≤ 4 ∧ (t.Idxs.length : Int) ≤ 3) ∧ (0 ≤ i_Table_findIdx t n ∧ i_Table_findIdx t n < (t.Idxs.length : Int)) ∧ 1 ≤ (i_Table_idx t n).Col ∧ (i_Table_idx t n).Col < (t.Cols.length : Int) ∧ 0 ≤ (i_Table_idx t n).Stage ∧ (i_Table_idx t n).Stage ≤ 3 ∧ t.Name.length = 1 ∧ n.length = 1 := by
  have h0 := f_i_hasIdx' h
  unfold i_hasIdx at h
  obtain ⟨h1, h2⟩ := of_cond_f h
  rw [GoodTable_eq] at h1
  have hg := GoodT.of h1
  have h3 := IdxAt_fst (t := t) (n := n) (by unfold s_IdxAt; rw [h1, cond_true, decide_eq_false (by have := of_decide_eq_true h2; rw [findIdx_eq] at this; omega)]; rfl)
  refine ⟨h0.1, h0.2.1, h0.2.2.1, h0.2.2.2, ?_⟩
  have h4 := hg.idx (i_Table_findIdx t n).toNat oM
  have h5 : (t.Idxs.getD (i_Table_findIdx t n).toNat d_Idx).Name = n := h3.2
  rw [h5] at h4
  unfold i_Table_idx
  exact ⟨h4.2.2.2.1, h4.2.2.2.2, hg.name, h4.1⟩
theorem f_s_IdxAt {t : DTable} {n : Str} (h : (s_IdxAt t n).2 = true) : (2 ≤ (t.Cols.length : Int) ∧ (t.Cols.length : Int) ≤ 4 ∧ (t.Idxs.length : Int) ≤ 3) ∧ (0 ≤ s_l24Idx t n ∧ s_l24Idx t n < (t.Idxs.length : Int)) ∧ (1 ≤ (s_IdxAt t n).1.Col ∧ (s_IdxAt t n).1.Col < (t.Cols.length : Int)) ∧ t.Name.length = 1 ∧ (s_IdxAt t n).1.Name.length = 1 := by
  have h0 := f_s_IdxAt' h
  have h1 := IdxAt_fst h
  have h2 := f_i_hasIdx (hasIdx_eq t n ▸ h)
  refine ⟨h0.1, h0.2.1, h0.2.2, ?_, ?_⟩
  · exact h2.2.2.2.2.2.2.1
  · rw [h1.1, h1.2]; exact h2.2.2.2.2.2.2.2
theorem idx_eq (t : DTable) (n : Str) : i_Table_idx t n = t.Idxs.getD (s_l24Idx t n).toNat d_Idx := by unfold i_Table_idx; rw [findIdx_eq]
theorem l5Rows_eq (l : List DWrite) : s_l5Rows l = i_isRows l := by
  rw [isRows_eq]
  unfold s_l5Rows
  rw [allE d_Write (fun w => !w.Gone) (r := false) fun k => by
    unfold B_s_l5Rows_0
    cases (l.getD k d_Write).Gone <;> rfl]
  cases s_l3Writes l <;> cases (l.all fun w => !w.Gone) <;> rfl
theorem hasIdx_iff (t : DTable) (n : Str) : i_hasIdx t n = true ↔ s_GoodTable t = true ∧ 0 ≤ s_l24Idx t n := by
  unfold i_hasIdx
  rw [GoodTable_eq, findIdx_eq]
  constructor
  · intro h
    obtain ⟨h1, h2⟩ := of_cond_f h
    exact ⟨h1, of_decide_eq_true h2⟩
  · rintro ⟨h1, h2⟩
    rw [h1, decide_eq_true h2]; rfl
theorem l3Key_len {s : Str} (h : s_l3Key s = true) : s.length ≤ 12 := by
  unfold s_l3Key at h
  have := f_l1In (of_cond_f h).1
  omega
theorem l3Val_len {s : Str} (h : s_l3Val s = true) : s.length ≤ 24 := by
  unfold s_l3Val at h
  have := of_decide_eq_true (of_cond_f h).1
  omega
theorem l3Write_len {k v : Str} {g : Bool} (h : s_l3Write k v g = true) : k.length ≤ 12 ∧ v.length ≤ 24 := by
  rw [l3Write_eq, isStored_eq] at h
  simp only [Bool.and_eq_true] at h
  exact ⟨l3Key_len h.1, l3Val_len h.2.1⟩
theorem f_l3Writes {l : List DWrite} (h : s_l3Writes l = true) : l.length ≤ 24 ∧ ∀ k, k < l.length → (l.getD k d_Write).Key.length ≤ 12 ∧ (l.getD k d_Write).Val.length ≤ 24 := by
  rw [l3Writes_eq, Bool.and_eq_true, decide_eq_true_eq] at h
  refine ⟨by omega, fun k hk => ?_⟩
  have := List.all_eq_true.1 h.1 k (List.mem_range.2 hk)
  rw [Bool.and_eq_true] at this
  exact l3Write_len this.1
theorem Index_one (s : Str) (c : UInt8) : g_internal_stringslite_Index s [c] = Lib.indexByte s c := by
  unfold g_internal_stringslite_Index g_internal_stringslite_IndexByte idxB
  have h : ((([c] : Str).getD 0 0).toNat : Int).toNat.toUInt8 = c := by simp
  rw [h]
  cases hc : ([c] : Str) == s
  · rfl
  · have : s = [c] := (eq_of_beq hc).symm
    subst this
    simp [Lib.indexByte]
theorem rf_Index {s sub : Str} (h : sub.length = 1) : -1 ≤ g_internal_stringslite_Index s sub ∧ g_internal_stringslite_Index s sub ≤ (s.length : Int) - 1 := by
  match sub, h with
  | [c], _ =>
    rw [Index_one]
    rcases indexByte_split c s with ⟨_, h2⟩ | ⟨a, r, h1, _, h3⟩
    · rw [h2]; omega
    · rw [h3, h1]; simp only [List.length_append, List.length_cons]; omega
theorem f_Cut {s sub : Str} (o : okS s) (h : sub.length = 1) (hd : decide (0 ≤ g_internal_stringslite_Index s sub) = true) : 0 ≤ IntKind.wrap .i64 ((g_internal_stringslite_Index s sub) + (sub.length : Int)) ∧ IntKind.wrap .i64 ((g_internal_stringslite_Index s sub) + (sub.length : Int)) ≤ (s.length : Int) := by
  have h1 := of_decide_eq_true hd
  have h2 := rf_Index (s := s) h
  unfold okS at o
  rw [h, wrap_in oM]
  omega
theorem f_HasPrefix {s p : Str} (h : g_internal_stringslite_HasPrefix s p = true) : p.length ≤ s.length := by
  unfold g_internal_stringslite_HasPrefix at h
  have := of_decide_eq_true (of_cond_f h).1
  omega
theorem f_isIdxStore {t : DTable} {n : Str} {l : List DWrite} (h : i_isIdxStore t n l = true) : t.Name.length ≤ 1 ∧ n.length ≤ 1 := by
  unfold i_isIdxStore at h
  have := f_i_hasIdx (of_cond_f h).1
  omega
theorem okS_idxHead {t : DTable} {n : Str} (h : t.Name.length ≤ 1 ∧ n.length ≤ 1) : okS (i_Table_idxHead t n) := by
  have := rf_idxHead t n
  unfold okS; omega
theorem okS_l1Split {s : Str} (h : okS s) (b : Int) (i : Nat) : okS ((s_l1Split s b).getD i d_Str) := by
  have hh : ∀ x ∈ s_l1Split s b, okS x := by
    unfold s_l1Split
    refine loopM_val (fun _ (p : List Str × Int) => ∀ x ∈ p.1, okS x) (fun (v : List Str) => ∀ x ∈ v, okS x) (fun _ h => by cases h) ?_ ?_
    · rintro ⟨x, a⟩ hx y hy
      rcases List.mem_append.1 hy with hy | hy
      · exact hx y hy
      · rw [List.mem_singleton.1 hy]; exact h.drop _
    · rintro j ⟨x, a⟩ _ _ hx
      unfold B_s_l1Split_0
      dsimp only
      cases decide (((s.getD j 0).toNat : Int) = b)
      · exact hx
      · intro y hy
        rcases List.mem_append.1 hy with hy | hy
        · exact hx y hy
        · rw [List.mem_singleton.1 hy]; exact (h.take _).drop _
  rw [List.getD_eq_getElem?_getD]
  cases h1 : (s_l1Split s b)[i]? with
  | none => exact ok_d_Str
  | some x => exact hh x (List.mem_of_getElem? h1)

theorem l1Split_sp (s : Str) (b : UInt8) : s_l1Split s (b.toNat : Int) = sp b s := by
  unfold s_l1Split
  refine loopM_val (fun k (p : List Str × Int) => 0 ≤ p.2 ∧ p.2.toNat ≤ k ∧ b ∉ (s.take k).drop p.2.toNat ∧ p.1 ++ sp b (s.drop p.2.toNat) = sp b s) (fun (v : List Str) => v = sp b s) ⟨by omega, by simp, by simp, by simp⟩ ?_ ?_
  · rintro ⟨x, a⟩ ⟨h1, h2, h3, h4⟩
    dsimp only at h1 h2 h3 h4 ⊢
    rw [show s.take (0 + (s.length - 0)) = s from by rw [List.take_of_length_le oM]] at h3
    rw [sp_none h3] at h4
    exact h4
  · rintro j ⟨x, a⟩ _ hj ⟨h1, h2, h3, h4⟩
    have hj' : j < s.length := by omega
    unfold B_s_l1Split_0
    dsimp only at h1 h2 h3 h4 ⊢
    have ht : (s.take (j + 1)).drop a.toNat = (s.take j).drop a.toNat ++ [s.getD j 0] := by
      rw [getD_eq hj', List.take_succ_eq_append_getElem hj', List.drop_append_of_le_length (by rw [List.length_take]; omega)]
    have hd : s.drop a.toNat = (s.take j).drop a.toNat ++ s.getD j 0 :: s.drop (j + 1) := by
      conv => lhs; rw [← List.take_append_drop j s]
      rw [List.drop_append_of_le_length (by rw [List.length_take]; omega), getD_eq hj', List.drop_eq_getElem_cons hj']
    rw [toNat_eq]
    cases hc : s.getD j 0 == b
    · refine ⟨h1, oM, ?_, h4⟩
      rw [ht]
      intro hm
      rcases List.mem_append.1 hm with hm | hm
      · exact h3 hm
      · rw [← List.mem_singleton.1 hm] at hc; simp at hc
    · have hb : s.getD j 0 = b := eq_of_beq hc
      refine ⟨by omega, by simp, by simp, ?_⟩
      rw [hd, hb, sp_some h3] at h4
      rw [← h4, List.append_assoc]
      show x ++ ([_] ++ sp b (s.drop _)) = _
      rw [show (((j + 1 : Nat) : Int)).toNat = j + 1 from by simp]
      rfl
theorem Cut_none {s : Str} {c : UInt8} (h : c ∉ s) : (g_strings_Cut s [c]).2.2 = false := by
  have h1 : g_internal_stringslite_Index s [c] = -1 := by
    rw [Index_one]
    rcases indexByte_split c s with ⟨_, h2⟩ | ⟨a, r, h2, _, _⟩
    · exact h2
    · rw [h2] at h; simp at h
  unfold g_strings_Cut g_internal_stringslite_Cut
  rw [h1]; rfl
theorem Cut_some {a r : Str} {c : UInt8} (h : c ∉ a) (hl : a.length ≤ 1073741824) : g_strings_Cut (a ++ c :: r) [c] = (a, r, true) := by
  have h1 : g_internal_stringslite_Index (a ++ c :: r) [c] = (a.length : Int) := by
    rw [Index_one]
    rcases indexByte_split c (a ++ c :: r) with ⟨h2, _⟩ | ⟨a', r', h2, h3, h4⟩
    · simp at h2
    · have : a' :: sp c r' = a :: sp c r := by rw [← sp_some h3, ← sp_some h, h2]
      rw [h4, (List.cons.inj this).1]
  unfold g_strings_Cut g_internal_stringslite_Cut
  rw [h1, decide_eq_true oM]
  simp only [cond_true]
  rw [wrap_in (by simp only [List.length_cons, List.length_nil]; omega)]
  have h2 : ((a.length : Int)).toNat = a.length := by simp
  have h3 : ((a.length : Int) + (([c] : Str).length : Int)).toNat = a.length + 1 := by simp only [List.length_cons, List.length_nil]; omega
  rw [h2, h3]
  simp
theorem slash_field {s : Str} (h : s_l25Field s = true) : (47 : UInt8) ∉ s := by
  unfold s_l25Field at h
  obtain ⟨_, h2⟩ := of_cond_f h
  rw [l3Bytes_eq, List.all_eq_true] at h2
  intro hm
  exact absurd (h2 _ hm) (by decide)
theorem CutPrefix_iff (k p : Str) : (g_strings_CutPrefix k p).2 = p.isPrefixOf k ∧ ((g_strings_CutPrefix k p).2 = true → (g_strings_CutPrefix k p).1 = k.drop p.length) := by
  have h : g_internal_stringslite_HasPrefix k p = p.isPrefixOf k := by
    unfold g_internal_stringslite_HasPrefix
    by_cases hp : p <+: k
    · obtain ⟨r, rfl⟩ := hp
      rw [decide_eq_true (by rw [List.length_append]; omega), cond_true, List.take_left]
      simp
    · rw [show p.isPrefixOf k = false from by rw [Bool.eq_false_iff]; intro e; exact hp (List.isPrefixOf_iff_prefix.1 e)]
      cases hd : decide ((p.length : Int) ≤ (k.length : Int))
      · rfl
      · rw [cond_true, beq_eq_false_iff_ne]
        intro e
        exact hp (e ▸ List.take_prefix ..)
  unfold g_strings_CutPrefix g_internal_stringslite_CutPrefix
  rw [h]
  cases p.isPrefixOf k <;> simp
theorem getD0 {α : Type} (x d : α) (xs : List α) : (x :: xs).getD 0 d = x := rfl
theorem getD1 {α : Type} (x y d : α) (xs : List α) : (x :: y :: xs).getD 1 d = y := rfl
theorem getD2 {α : Type} (x y z d : α) (xs : List α) : (x :: y :: z :: xs).getD 2 d = z := rfl
theorem len_ne {α : Type} {x y z : α} {xs : List α} (h : 0 < xs.length) : decide (((x :: y :: z :: xs).length : Int) = 3) = false := decide_eq_false (by simp only [List.length_cons]; omega)
theorem read_eq {t : DTable} {n k : Str} (hh : (47 : UInt8) ∉ (t.Name ++ ([46] : Str)) ++ n) (hk : k.length ≤ 1073741824) : i_Table_readIdxKey t n k = s_l25ReadEntry t n k := by
  have hsp : s_l1Split k 47 = sp 47 k := l1Split_sp k 47
  have hd : i_Table_idxHead t n = ((t.Name ++ ([46] : Str)) ++ n) ++ ([47] : Str) := rfl
  unfold i_Table_readIdxKey s_l25ReadEntry
  rw [hsp, hd]
  generalize (t.Name ++ ([46] : Str)) ++ n = hd at hh
  obtain ⟨hc1, hc2⟩ := CutPrefix_iff k (hd ++ ([47] : Str))
  rcases cut_dec 47 k with h47 | ⟨a, r, rfl, ha⟩
  · have hp : (g_strings_CutPrefix k (hd ++ ([47] : Str))).2 = false := by
      rw [hc1, Bool.eq_false_iff]; intro e
      obtain ⟨r, rfl⟩ := List.isPrefixOf_iff_prefix.1 e
      simp at h47
    rw [hp, sp_none h47]; rfl
  · rw [sp_some ha]
    by_cases e : a = hd
    · subst e
      have hp : (a ++ ([47] : Str)).isPrefixOf (a ++ 47 :: r) = true := List.isPrefixOf_iff_prefix.2 ⟨r, by simp⟩
      have hr : (g_strings_CutPrefix (a ++ 47 :: r) (a ++ ([47] : Str))).1 = r := by
        rw [hc2 (hc1.trans hp)]
        rw [show a ++ 47 :: r = (a ++ ([47] : Str)) ++ r from by simp, List.drop_left]
      rw [hc1.trans hp, hr, cond_true, getD0, beq_self_eq_true, cond_true]
      rcases cut_dec 47 r with h47 | ⟨b, u, rfl, hb⟩
      · rw [Cut_none h47, sp_none h47]; rfl
      · rw [Cut_some hb (by simp only [List.length_append, List.length_cons] at hk; omega), sp_some hb]
        rw [getD1]
        dsimp only
        rw [isField_eq, isField_eq, cond_true]
        rcases cut_dec 47 u with h47 | ⟨d, v, rfl, hdd⟩
        · rw [sp_none h47, getD2]; rfl
        · have hf : s_l25Field (d ++ 47 :: v) = false := by
            rw [Bool.eq_false_iff]; intro e; exact slash_field e (by simp)
          rw [sp_some hdd, len_ne (sp_ne 47 v), hf]
          cases s_l25Field b <;> rfl
    · have hp : (g_strings_CutPrefix (a ++ 47 :: r) (hd ++ ([47] : Str))).2 = false := by
        rw [hc1, Bool.eq_false_iff]; intro h
        obtain ⟨r', h'⟩ := List.isPrefixOf_iff_prefix.1 h
        rw [List.append_assoc] at h'
        have : hd :: sp 47 r' = a :: sp 47 r := by rw [← sp_some hh, ← sp_some ha, ← h']; rfl
        exact e (List.cons.inj this).1.symm
      have hg : ((a :: sp 47 r).getD 0 d_Str == hd) = false := by rw [getD0, beq_eq_false_iff_ne]; exact e
      rw [hp, hg]
      cases decide (((a :: sp 47 r).length : Int) = 3) <;> rfl
theorem slash_letters {s : Str} {m : Int} (h : s_l24Letters s m = true) : (47 : UInt8) ∉ s := by
  rw [l24Letters_eq, Bool.and_eq_true, Bool.and_eq_true, List.all_eq_true] at h
  intro hm
  exact absurd (h.1.1 _ hm) (by decide)
theorem slash_head {t : DTable} {n : Str} (h : i_hasIdx t n = true) : (47 : UInt8) ∉ (t.Name ++ ([46] : Str)) ++ n := by
  have h2 := IdxAt_fst (hasIdx_eq t n ▸ h)
  obtain ⟨h3, h4⟩ := (hasIdx_iff t n).1 h
  have h5 := rf_s_l24Idx t n
  rw [idx_eq] at h2
  rw [s_GoodTable_eq] at h3
  simp only [Bool.and_eq_true, List.all_eq_true, List.mem_range] at h3
  have h6 := h3.2 (s_l24Idx t n).toNat oM
  unfold idxOk at h6
  simp only [Bool.and_eq_true] at h6
  have h7 := slash_letters h6.1.1.1
  rw [h2.2] at h7
  have h8 := slash_letters h3.1.1.1
  intro hm
  rcases List.mem_append.1 hm with hm | hm
  · rcases List.mem_append.1 hm with hm | hm
    · exact h8 hm
    · exact absurd (List.mem_singleton.1 hm) (by decide)
  · exact h7 hm
theorem ReadIdxKey_eq (t : DTable) (n k : Str) (hk : k.length ≤ 1073741824) : i_ReadIdxKey t n k = s_ReadIdxKey t n k := by
  unfold i_ReadIdxKey s_ReadIdxKey
  rw [← hasIdx_eq]
  cases h : i_hasIdx t n
  · rfl
  · rw [read_eq (slash_head h) hk, cond_true, cond_true]
    unfold s_l25ReadEntry
    cases decide (((s_l1Split k 47).length : Int) = 3) <;> cases ((s_l1Split k 47).getD 0 d_Str) == ((t.Name ++ ([46] : Str)) ++ n) <;> cases s_l25Field ((s_l1Split k 47).getD 1 d_Str) <;> cases s_l25Field ((s_l1Split k 47).getD 2 d_Str) <;> rfl
theorem isRows_w {l : List DWrite} (h : i_isRows l = true) : s_l3Writes l = true := by
  rw [isRows_eq, Bool.and_eq_true] at h
  exact h.1
theorem ClearOps_eq (t : DTable) (n k : Str) (hk : k.length ≤ 1073741824) : i_ClearOps t n k = s_ClearOps t n k := by
  unfold i_ClearOps s_ClearOps
  rw [ReadIdxKey_eq t n k hk]
theorem ClearOps_len (t : DTable) (n k : Str) : (i_ClearOps t n k).1.length ≤ 1 := by
  unfold i_ClearOps
  cases (i_ReadIdxKey t n k).2.2
  · exact Nat.zero_le _
  · exact Nat.le_refl _
theorem inter_cons (sep x y : Str) (zs : List Str) : sep.intercalate (x :: y :: zs) = x ++ (sep ++ sep.intercalate (y :: zs)) := by
  simp [List.intercalate, List.intersperse]
theorem inter_one (sep x : Str) : sep.intercalate [x] = x := by simp [List.intercalate]
theorem inter_concat (sep x : Str) : ∀ xs : List Str, 0 < xs.length → sep.intercalate (xs ++ [x]) = (sep.intercalate xs ++ sep) ++ x
  | [], h => by simp at h
  | [y], _ => by show sep.intercalate (y :: x :: []) = _; rw [inter_cons, inter_one, inter_one, List.append_assoc]
  | y :: z :: zs, _ => by
    show sep.intercalate (y :: z :: (zs ++ [x])) = _
    rw [inter_cons, show z :: (zs ++ [x]) = (z :: zs) ++ [x] from rfl, inter_concat sep x (z :: zs) (Nat.succ_pos _), inter_cons]
    simp only [List.append_assoc]
theorem inter_len : ∀ xs : List Str, (∀ x ∈ xs, x.length ≤ 3) → (([44] : Str).intercalate xs).length ≤ 4 * xs.length
  | [], _ => Nat.zero_le _
  | [x], h => by have := h x (by simp); rw [inter_one, List.length_singleton]; omega
  | x :: y :: zs, h => by
    have h1 := h x (by simp)
    have h2 := inter_len (y :: zs) fun z hz => h z (List.mem_cons_of_mem _ hz)
    rw [inter_cons, List.length_append, List.length_append, List.length_cons (as := y :: zs)]
    simp only [List.length_cons, List.length_nil] at h2 ⊢
    omega
theorem join_drop {r : DRow} (h : r.Vals.length ≤ 4) (hr : rowShort r) : (g_strings_Join (r.Vals.drop 1) ([44] : Str)).length ≤ 1073741824 := by
  have := inter_len (r.Vals.drop 1) fun x hx => hr x (List.mem_of_mem_drop hx)
  rw [List.length_drop] at this
  unfold g_strings_Join; omega
theorem Join_eq (xs : List Str) (sep : Str) : s_l24Join xs sep = g_strings_Join xs sep := by
  unfold s_l24Join g_strings_Join
  refine loopM_val (fun k (s : Str) => s = sep.intercalate (xs.take k)) (fun (v : Str) => v = sep.intercalate xs) rfl (fun s h => by rw [h, List.take_of_length_le oM]) ?_
  intro j s _ hj hs
  have hj' : j < xs.length := by omega
  unfold B_s_l24Join_0
  dsimp only
  rw [List.take_succ_eq_append_getElem hj', getD_eq hj']
  by_cases h0 : 0 < j
  · rw [decide_eq_true oM, hs, inter_concat _ _ _ (by rw [List.length_take]; omega)]; rfl
  · have : j = 0 := by omega
    subst this
    rw [decide_eq_false oM, hs]
    show [] ++ _ = _
    simp [List.intercalate]
theorem rowWrite_eq (t : DTable) (r : DRow) : i_Table_rowWrite t r = s_l25Write t r := by
  unfold i_Table_rowWrite s_l25Write
  rw [Join_eq]
theorem FillOps_eq (t : DTable) (n : Str) (r : DRow) : i_FillOps t n r = s_FillOps t n r := by
  unfold i_FillOps s_FillOps
  rw [hasIdx_eq, GoodRow_eq]
  unfold s_GoodRow
  cases h : (s_IdxAt t n).2
  · cases s_GoodTable t <;> cases s_l25Good t r <;> rfl
  · have hg : s_GoodTable t = true := by
      unfold s_IdxAt at h
      cases h1 : s_GoodTable t
      · rw [h1] at h; cases h
      · rfl
    rw [hg]
    cases s_l25Good t r
    · rfl
    · obtain ⟨h1, h2⟩ := IdxAt_fst h
      simp only [cond_true]
      unfold i_Table_fillOps s_l26Fill i_Table_idxKey s_l25Entry i_Table_idxHead
      rw [rowWrite_eq, h1, h2]
theorem FillOps_len (t : DTable) (n : Str) (r : DRow) : (i_FillOps t n r).1.length ≤ 2 := by
  unfold i_FillOps
  cases i_GoodRow t r
  · exact Nat.zero_le _
  · cases i_hasIdx t n
    · exact Nat.zero_le _
    · exact Nat.le_refl _
theorem RowWrite_eq (t : DTable) (r : DRow) : i_RowWrite t r = s_RowWrite t r := by
  unfold i_RowWrite s_RowWrite
  rw [GoodRow_eq, rowWrite_eq]
theorem f_i_isStage {s : Int} (h : i_isStage s = true) : 0 ≤ s ∧ s ≤ 3 := f_within h
theorem rf_l1Split (s : Str) (b : Int) : 1 ≤ (s_l1Split s b).length ∧ (s_l1Split s b).length ≤ s.length + 1 := by
  unfold s_l1Split
  refine loopM_val (fun k (p : List Str × Int) => p.1.length ≤ k) (fun (v : List Str) => 1 ≤ v.length ∧ v.length ≤ s.length + 1) (Nat.zero_le _) ?_ ?_
  · rintro ⟨x, a⟩ h1
    dsimp only at h1 ⊢
    rw [List.length_append, List.length_singleton]; omega
  · rintro j ⟨x, a⟩ _ hj h1
    dsimp only at h1
    unfold B_s_l1Split_0
    dsimp only
    cases decide (((s.getD j 0).toNat : Int) = b)
    · exact Nat.le_succ_of_le h1
    · show (x ++ _).length ≤ _
      rw [List.length_append, List.length_singleton]; omega
theorem rf_Split (s sep : Str) : 1 ≤ (g_strings_Split s sep).length ∧ (g_strings_Split s sep).length ≤ s.length + 1 := ⟨sp_ne _ _, sp_length _ _⟩
theorem comma_split (s : Str) : s_l1Split s 44 = sp 44 s := l1Split_sp s 44
theorem gt_name {t : DTable} (h : s_GoodTable t = true) : t.Name.length ≤ 1 := Nat.le_of_eq (GoodT.of h).name
theorem okS_nm {t : DTable} (h : t.Name.length ≤ 1) : okS (t.Name ++ ([47] : Str)) := by unfold okS; rw [List.length_append]; show t.Name.length + 1 ≤ _; omega

theorem good_one {t : DTable} {r : DRow} (h : s_l25Good t r = true) {v : Str} (hv : v ∈ r.Vals) : 1 ≤ v.length ∧ v.length ≤ 3 := by
  rw [l25Good_eq, Bool.and_eq_true] at h
  have := field_len (List.all_eq_true.1 h.1 v hv)
  omega
def rowIn (w : DWrite) : DRow := ⟨[w.Key.drop 2] ++ s_l1Split w.Val 44⟩
theorem Split_comma (s : Str) : g_strings_Split s ([44] : Str) = s_l1Split s 44 := (comma_split s).symm
theorem drop_pre {p s k : Str} (h : s = p ++ k) : p.isPrefixOf s = true := by subst h; simp
theorem l25Read_eq (t : DTable) (w : DWrite) : s_l25Read t w = bif decide ((w.Key.length : Int) < 3) then (⟨[]⟩, false) else (rowIn w, s_l25Good t (rowIn w) && (((t.Name ++ ([47] : Str)) ++ w.Key.drop 2 == w.Key) && (((s_l25Write t (rowIn w)).Val == w.Val) && (false == w.Gone)))) := by
  unfold s_l25Read
  cases decide ((w.Key.length : Int) < 3)
  · show (bif s_l25Good t (rowIn w) then _ else _) = _
    cases s_l25Good t (rowIn w) <;> rfl
  · rfl
theorem read_row {t : DTable} (hg : s_GoodTable t = true) (w : DWrite) : i_Table_readRow t w = bif (s_l25Read t w).2 then ((s_l25Read t w).1, true) else (⟨[]⟩, false) := by
  have hn := (GoodT.of hg).name
  have hpl : (t.Name ++ ([47] : Str)).length = 2 := by rw [List.length_append, hn]; rfl
  obtain ⟨c1, c2⟩ := CutPrefix_iff w.Key (t.Name ++ ([47] : Str))
  rw [hpl] at c2
  rw [l25Read_eq]
  unfold i_Table_readRow
  rw [c1]
  cases hp : (t.Name ++ ([47] : Str)).isPrefixOf w.Key
  · rw [cond_false]
    have hne : ((t.Name ++ ([47] : Str)) ++ w.Key.drop 2 == w.Key) = false := by
      cases hh : ((t.Name ++ ([47] : Str)) ++ w.Key.drop 2 == w.Key)
      · rfl
      · rw [drop_pre (eq_of_beq hh).symm] at hp; cases hp
    cases decide ((w.Key.length : Int) < 3)
    · rw [cond_false, hne, Bool.false_and, Bool.and_false]; rfl
    · rfl
  · rw [c1] at c2
    rw [cond_true, c2 hp, Split_comma]
    show (bif i_Table_isRow t (rowIn w) then _ else _) = _
    rw [isRow_eq]
    cases hgd : s_l25Good t (rowIn w)
    · cases decide ((w.Key.length : Int) < 3) <;> rfl
    · have h1 := good_one hgd (v := w.Key.drop 2) (List.mem_cons_self ..)
      rw [List.length_drop] at h1
      rw [decide_eq_false oM, cond_false, cond_true, Bool.true_and, rowWrite_eq]
      show (bif (w.Key == (t.Name ++ ([47] : Str)) ++ w.Key.drop 2) && ((w.Val == (s_l25Write t (rowIn w)).Val) && (w.Gone == false)) then _ else _) = _
      rw [BEq.comm (a := w.Key), BEq.comm (a := w.Val), BEq.comm (a := w.Gone)]
      rfl
theorem read_good {t : DTable} {w : DWrite} (h : (s_l25Read t w).2 = true) : s_l25Good t (s_l25Read t w).1 = true := by
  rw [l25Read_eq] at h ⊢
  cases hd : decide ((w.Key.length : Int) < 3) <;> rw [hd] at h
  · exact (Bool.and_eq_true _ _ ▸ h).1
  · cases h
theorem rowsIn_eq {t : DTable} (hg : s_GoodTable t = true) (l : List DWrite) : i_Table_rowsIn t l = s_l25Rows t l := by
  unfold i_Table_rowsIn s_l25Rows
  have : B_i_Table_rowsIn_0 t l = B_s_l25Rows_0 t l := by
    funext k x
    unfold B_i_Table_rowsIn_0 B_s_l25Rows_0
    rw [read_row hg]
    cases (s_l25Read t (l.getD k d_Write)).2 <;> rfl
  rw [this]
theorem rows_good (t : DTable) (l : List DWrite) : (s_l25Rows t l).length ≤ l.length ∧ ∀ y ∈ s_l25Rows t l, s_l25Good t y = true := by
  unfold s_l25Rows
  refine loopM_val (fun k (p : List DRow) => p.length ≤ k ∧ ∀ y ∈ p, s_l25Good t y = true) (fun (v : List DRow) => v.length ≤ l.length ∧ ∀ y ∈ v, s_l25Good t y = true) ⟨Nat.le_refl _, fun _ h => by cases h⟩ (fun s hs => ⟨by have := hs.1; omega, hs.2⟩) ?_
  intro j x _ _ ⟨h1, h2⟩
  unfold B_s_l25Rows_0
  dsimp only
  cases h : (s_l25Read t (l.getD j d_Write)).2
  · exact ⟨Nat.le_succ_of_le h1, h2⟩
  · refine ⟨by rw [List.length_append, List.length_singleton]; omega, fun y hy => ?_⟩
    rcases List.mem_append.1 hy with hy | hy
    · exact h2 y hy
    · rw [List.mem_singleton.1 hy]; exact read_good h
theorem rowsIn_mem {t : DTable} (hg : s_GoodTable t = true) {l : List DWrite} {y : DRow} (h : y ∈ i_Table_rowsIn t l) : s_l25Good t y = true := (rows_good t l).2 y (rowsIn_eq hg l ▸ h)
theorem rf_l1Num (n : Int) : (s_l1Num n).length = 1 := rfl
theorem hasIdx_good {t : DTable} {n : Str} (h : i_hasIdx t n = true) : s_GoodTable t = true := by
  unfold i_hasIdx at h
  rw [← GoodTable_eq]
  exact (of_cond_f h).1
theorem isIdxStore_has {t : DTable} {n : Str} {l : List DWrite} (h : i_isIdxStore t n l = true) : i_hasIdx t n = true := by
  unfold i_isIdxStore at h
  exact (of_cond_f h).1
theorem rowsIn_at {t : DTable} {n : Str} (h : i_hasIdx t n = true) (l : List DWrite) {k : Nat} (hk : k < (i_Table_rowsIn t l).length) : ((i_Table_rowsIn t l).getD k d_Row).Vals.length = t.Cols.length ∧ rowShort ((i_Table_rowsIn t l).getD k d_Row) :=
  f_s_l25Good (rowsIn_mem (hasIdx_good h) (l := l) (getD_mem hk))
theorem rowsIn_len {t : DTable} {n : Str} (h : i_hasIdx t n = true) (l : List DWrite) : (i_Table_rowsIn t l).length ≤ l.length := rowsIn_eq (hasIdx_good h) l ▸ (rows_good t l).1
theorem ok_l25Entry {t : DTable} {x : DIdx} {r : DRow} (h : t.Name.length ≤ 1 ∧ x.Name.length ≤ 1) (hr : rowShort r) : okS (s_l25Entry t x r) := okS_l25Entry h hr
theorem less_eq (l o : List Str) : s_l25Less l o = l.filter fun s => !(o.any fun x => x == s) := by
  unfold s_l25Less
  refine loopM_val (fun k (p : List Str) => p = (l.take k).filter fun s => !(o.any fun x => x == s)) (fun (v : List Str) => v = l.filter fun s => !(o.any fun x => x == s)) rfl (fun s h => by rw [h, List.take_of_length_le oM]) ?_
  intro j s _ hj hs
  have hj' : j < l.length := by omega
  unfold B_s_l25Less_0
  dsimp only
  have e : decide (s_l24At o (l.getD j d_Str) < 0) = !(o.any fun x => x == l.getD j d_Str) := by
    rw [← l24At_neg]
    by_cases h : 0 ≤ s_l24At o (l.getD j d_Str)
    · rw [decide_eq_true h, decide_eq_false oM]; rfl
    · rw [decide_eq_false h, decide_eq_true oM]; rfl
  rw [e, List.take_succ_eq_append_getElem hj', List.filter_append, ← hs, ← getD_eq (d := d_Str) hj', List.filter_cons]
  cases (o.any fun x => x == l.getD j d_Str) <;> simp
theorem without_eq (l o : List Str) : i_without l o = s_l25Less l o := by
  rw [less_eq]
  unfold i_without g_slices_DeleteFunc_string
  have hc : g_slices_Clone_string l = l := rfl
  rw [hc]
  congr 1
  funext s
  unfold i_without_c1
  show (!g_slices_Contains_string o s) = _
  rw [Contains_string]
  congr 1
  congr 1
  funext x
  exact Bool.beq_comm
theorem iand_u8 (a : Int) : 0 ≤ IntKind.wrap .i64 (iand .u64 a 255) ∧ IntKind.wrap .i64 (iand .u64 a 255) ≤ 255 := by
  have := iand_255 a
  rw [wrap_in oM]; exact this
theorem getD_len {l : List Str} {m : Nat} (h : ∀ y ∈ l, y.length ≤ m) (k : Nat) : (l.getD k d_Str).length ≤ m := by
  rcases Nat.lt_or_ge k l.length with hk | hk
  · exact h _ (getD_mem hk)
  · rw [List.getD, List.getElem?_eq_none hk]; exact Nat.zero_le _
theorem of_len (m : Nat) (c : List Int) (s : Int × Int) (l : List Str) (h : ∀ y ∈ l, y.length ≤ m) : (u_of c s l).1.length ≤ m := by
  unfold u_of
  exact getD_len h _
theorem rf_row (c : List Int) (s : Int × Int) (t : DTable) (h : t.Cols.length ≤ 4) : (1 ≤ (u_row c s t).1.Vals.length ∧ (u_row c s t).1.Vals.length ≤ 4 ∧ (1 ≤ t.Cols.length → (u_row c s t).1.Vals.length = t.Cols.length)) ∧ rowShort (u_row c s t).1 := by
  unfold u_row
  refine loopW_val (fun (p : Int × Int × List Str) => (1 ≤ p.2.2.length ∧ (1 ≤ t.Cols.length → p.2.2.length ≤ t.Cols.length) ∧ p.2.2.length ≤ 4) ∧ ∀ v ∈ p.2.2, v.length ≤ 3) (fun (p : Int × Int × List Str) => t.Cols.length - p.2.2.length) (fun (v : DRow × (Int × Int)) => (1 ≤ v.1.Vals.length ∧ v.1.Vals.length ≤ 4 ∧ (1 ≤ t.Cols.length → v.1.Vals.length = t.Cols.length)) ∧ rowShort v.1) ?_ _ _ ⟨⟨Nat.le_refl _, fun h => h, nb rfl⟩, fun v hv => ?_⟩ (Nat.lt_succ_self _)
  · rintro ⟨a, b, x⟩ ⟨h1, h2⟩
    unfold B_u_row_0
    dsimp only at h1 h2 ⊢
    by_cases hl : (x.length : Int) < (t.Cols.length : Int)
    · rw [decide_eq_true hl]
      dsimp only [cond_true, Out.sat]
      rw [List.length_append, List.length_singleton]
      refine ⟨⟨⟨by omega, oM, by omega⟩, fun v hv => ?_⟩, by omega⟩
      rcases List.mem_append.1 hv with hv | hv
      · exact h2 v hv
      · rw [List.mem_singleton] at hv; subst hv
        exact of_len 3 _ _ _ (by decide)
    · rw [decide_eq_false hl]
      exact ⟨⟨h1.1, h1.2.2, fun h => by have := h1.2.1 h; show x.length = _; omega⟩, h2⟩
  · rw [List.mem_singleton] at hv; subst hv
    exact of_len 3 _ _ _ (by decide)
theorem rf_l25Write (t : DTable) (r : DRow) (h : t.Name.length ≤ 1) (hl : r.Vals.length ≤ 4) (hr : rowShort r) : (s_l25Write t r).Key.length ≤ 5 ∧ (s_l25Write t r).Val.length ≤ 16 := by
  unfold s_l25Write
  dsimp only
  rw [Join_eq]
  have h1 := inter_len (r.Vals.drop 1) fun x hx => hr x (List.mem_of_mem_drop hx)
  rw [List.length_drop] at h1
  have h2 := hr.getD 0
  simp only [lN]
  unfold g_strings_Join; omega
theorem ok_l25Write {t : DTable} {r : DRow} (h : t.Name.length ≤ 1) (hl : r.Vals.length ≤ 4) (hr : rowShort r) : ok_Write (s_l25Write t r) := by
  have := rf_l25Write t r h hl hr
  exact ⟨by unfold okS; omega, by unfold okS; omega⟩
theorem ok_RowWrite (t : DTable) (r : DRow) : ok_Write (i_RowWrite t r).1 := by
  unfold i_RowWrite
  cases h : i_GoodRow t r
  · exact ⟨Nat.zero_le _, Nat.zero_le _⟩
  · have h1 := f_i_GoodRow h
    show ok_Write (i_Table_rowWrite t r)
    rw [rowWrite_eq]
    exact ok_l25Write oM oM h1.2.2
theorem ok_IdxKey (t : DTable) (n : Str) (r : DRow) : okS (i_IdxKey t n r).1 := by
  unfold i_IdxKey
  cases h : i_GoodRow t r
  · exact Nat.zero_le _
  · cases hi : i_hasIdx t n
    · exact Nat.zero_le _
    · have h1 := f_i_GoodRow h
      have h2 := f_i_hasIdx hi
      exact okS_idxKey oM h1.2.2
def drawT (t : DTable) : Prop := t.Name.length ≤ 1 ∧ 2 ≤ t.Cols.length ∧ t.Cols.length ≤ 4 ∧ t.Idxs.length ≤ 3 ∧ ∀ k, k < t.Idxs.length → (t.Idxs.getD k d_Idx).Name.length ≤ 1 ∧ 0 ≤ (t.Idxs.getD k d_Idx).Col ∧ (t.Idxs.getD k d_Idx).Col < (t.Cols.length : Int)
theorem next_rng {c : List Int} (h : codeOk c) (s : Int × Int) : 0 ≤ (u_next c s).1 ∧ (u_next c s).1 ≤ 255 := by
  have h1 := codeOk_at h (s.1).toNat
  unfold u_next
  cases decide (s.1 < (c.length : Int))
  · cases decide ((IntKind.wrap .i64 (s.1 + 1)) ≤ (c.length : Int))
    · exact iand_u8 _
    · exact ⟨Int.le_refl _, (by decide : (0 : Int) ≤ 255)⟩
  · cases decide ((IntKind.wrap .i64 (s.1 + 1)) ≤ (c.length : Int))
    · exact iand_u8 _
    · show 0 ≤ IntKind.wrap .i64 (c.getD ((s.1).toNat) d_U8) ∧ IntKind.wrap .i64 (c.getD ((s.1).toNat) d_U8) ≤ 255
      rw [wrap_in oM]; exact h1
theorem pick_rng {c : List Int} (h : codeOk c) (s : Int × Int) {n : Int} (h1 : 1 ≤ n) (h2 : n ≤ 200) : 0 ≤ (u_pick c s n).1 ∧ (u_pick c s n).1 < n := by
  have h3 := next_rng h s
  unfold u_pick
  by_cases h4 : n ≤ 1
  · rw [decide_eq_true h4]; exact ⟨Int.le_refl _, h1⟩
  · rw [decide_eq_false h4, cond_false, decide_eq_false oM, cond_false]
    have := tmod_rng (a := (u_next c s).1) (b := n) h3.1 oM
    exact ⟨this.1, this.2.1⟩
def idxForm (c : List Int) (T : Int) (x3 : List DIdx) (j : Nat) (o : Out (DTable × (Int × Int)) (Int × Int × (List DIdx))) : Prop :=
  ∃ x', o = .cont x' ∧ (x'.2.2 = x3 ∨ ∃ s' m, x'.2.2 = x3 ++ [(⟨([[105], [106], [109]] : List Str).getD j d_Str, IntKind.wrap .i64 (1 + (u_pick c s' (IntKind.wrap .i64 (T - 1))).1), m⟩ : DIdx)])
theorem bif_P {α : Type} {P : α → Prop} {b : Bool} {x y : α} (h1 : P x) (h2 : P y) : P (bif b then x else y) := by cases b; exact h2; exact h1
theorem table_form (c : List Int) (s : Int × Int) (j : Nat) : ∀ x : Int × Int × List DIdx, idxForm c (((([] : List Str) ++ (([[107], [97], [98], [99, 99]] : List Str).take ((IntKind.wrap .i64 (2 + ((u_pick c ((u_of c s ([[116], [117]] : List Str)).2) 3).1))).toNat))).length : Nat) : Int) x.2.2 j (B_u_table_0 c s j x)
  | (_, _, _) => bif_P (bif_P (bif_P ⟨_, rfl, .inl rfl⟩ ⟨_, rfl, .inr ⟨_, _, rfl⟩⟩) ⟨_, rfl, .inl rfl⟩) ⟨_, rfl, .inr ⟨_, _, rfl⟩⟩
def drawnIx (T : Int) (x : DIdx) : Prop := x.Name.length ≤ 1 ∧ 0 ≤ x.Col ∧ x.Col < T
theorem table_loop {c : List Int} (h : codeOk c) {T : Int} (hT : 2 ≤ T) (hT4 : T ≤ 4) {body : Nat → Int × Int × List DIdx → Out (DTable × (Int × Int)) (Int × Int × List DIdx)} (hb : ∀ j x, idxForm c T x.2.2 j (body j x)) : ∀ (n k : Nat) (x : Int × Int × List DIdx), (∀ y ∈ x.2.2, drawnIx T y) → ∃ x', loopM body n k x = .done x' ∧ (∀ y ∈ x'.2.2, drawnIx T y) ∧ x'.2.2.length ≤ x.2.2.length + n
  | 0, _, x, hx => ⟨x, rfl, hx, Nat.le_refl _⟩
  | n + 1, k, x, hx => by
    obtain ⟨x1, e, h1⟩ := hb k x
    have hx1 : (∀ y ∈ x1.2.2, drawnIx T y) ∧ x1.2.2.length ≤ x.2.2.length + 1 := by
      rcases h1 with h1 | ⟨s', m, h1⟩
      · rw [h1]; exact ⟨hx, Nat.le_succ _⟩
      · rw [h1]
        refine ⟨fun y hy => ?_, by rw [List.length_append]; exact Nat.le_refl _⟩
        rcases List.mem_append.1 hy with hy | hy
        · exact hx y hy
        · rw [List.mem_singleton] at hy; subst hy
          rw [wrap_in (n := T - 1) oM]
          have hp := pick_rng h s' (n := T - 1) oM oM
          have hn := getD_len (l := ([[105], [106], [109]] : List Str)) (m := 1) (by decide) k
          refine ⟨hn, ?_⟩
          dsimp only
          rw [wrap_in oM]; omega
    obtain ⟨x', e2, h2, h3⟩ := table_loop h hT hT4 hb n (k + 1) x1 hx1.1
    refine ⟨x', ?_, h2, by omega⟩
    unfold loopM
    rw [e]; exact e2
theorem rf_table {c : List Int} (h : codeOk c) (s : Int × Int) : drawT (u_table c s).1 := by
  have hp := pick_rng h ((u_of c s ([[116], [117]] : List Str)).2) (n := 3) (by decide) (by decide)
  have hl : ((([] : List Str) ++ (([[107], [97], [98], [99, 99]] : List Str).take ((IntKind.wrap .i64 (2 + ((u_pick c ((u_of c s ([[116], [117]] : List Str)).2) 3).1))).toNat))).length : Nat) = (2 + (u_pick c ((u_of c s ([[116], [117]] : List Str)).2) 3).1).toNat := by
    rw [wrap_in oM, List.length_append, List.length_take]
    simp only [List.length_cons, List.length_nil]; omega
  obtain ⟨x', e, h2, h3⟩ := table_loop h (by rw [hl]; omega) (by rw [hl]; omega) (table_form c s) (3 - 0) 0 (((u_pick c ((u_of c s ([[116], [117]] : List Str)).2) 3).2).1, ((u_pick c ((u_of c s ([[116], [117]] : List Str)).2) 3).2).2, ([] : List DIdx)) (fun y hy => by cases hy)
  unfold u_table
  rw [e]
  refine ⟨of_len 1 c s ([[116], [117]] : List Str) (by decide), ?_, ?_, h3, fun k hk => ?_⟩
  · show 2 ≤ (([] : List Str) ++ _).length
    rw [hl]; omega
  · show (([] : List Str) ++ _).length ≤ 4
    rw [hl]; omega
  · have := h2 _ (getD_mem (d := d_Idx) hk)
    exact ⟨this.1, this.2.1, this.2.2⟩

theorem sp_inter (c : UInt8) : ∀ xs : List Str, 0 < xs.length → (∀ x ∈ xs, c ∉ x) → sp c (([c] : Str).intercalate xs) = xs
  | [], h, _ => absurd h (Nat.lt_irrefl _)
  | [x], _, h => by rw [inter_one]; exact sp_none (h x (by simp))
  | x :: y :: zs, _, h => by
    rw [inter_cons, show x ++ (([c] : Str) ++ ([c] : Str).intercalate (y :: zs)) = x ++ c :: ([c] : Str).intercalate (y :: zs) from rfl, sp_some (h x (by simp)), sp_inter c (y :: zs) (Nat.succ_pos _) fun z hz => h z (List.mem_cons_of_mem _ hz)]
theorem comma_field {s : Str} (h : s_l25Field s = true) : (44 : UInt8) ∉ s := by
  unfold s_l25Field at h
  obtain ⟨_, h2⟩ := of_cond_f h
  rw [l3Bytes_eq, List.all_eq_true] at h2
  intro hm
  exact absurd (h2 _ hm) (by decide)
theorem good_fields {t : DTable} {r : DRow} (h : i_GoodRow t r = true) : s_GoodTable t = true ∧ i_Table_isRow t r = true ∧ (∀ v ∈ r.Vals, s_l25Field v = true) ∧ 2 ≤ r.Vals.length ∧ r.Vals.length = t.Cols.length := by
  have h1 := f_i_GoodRow h
  unfold i_GoodRow at h
  obtain ⟨h2, h3⟩ := of_cond_f h
  have h4 := h3
  rw [isRow_eq, l25Good_eq, Bool.and_eq_true] at h4
  exact ⟨GoodTable_eq t ▸ h2, h3, List.all_eq_true.1 h4.1, oM, h1.1.1⟩
theorem row_back {t : DTable} {r : DRow} (h : i_GoodRow t r = true) : i_ReadRow t (i_Table_rowWrite t r) = (r, true) := by
  obtain ⟨hg, hr, hf, hl, hc⟩ := good_fields h
  have hn := (GoodT.of hg).name
  obtain ⟨v, vs, hv⟩ : ∃ v vs, r.Vals = v :: vs := by
    cases hr : r.Vals with
    | nil => rw [hr] at hl; simp at hl
    | cons v vs => exact ⟨v, vs, rfl⟩
  have hvs : 0 < vs.length := by rw [hv, List.length_cons] at hl; omega
  obtain ⟨c1, c2⟩ := CutPrefix_iff (i_Table_rowWrite t r).Key (t.Name ++ ([47] : Str))
  have hk : (i_Table_rowWrite t r).Key = (t.Name ++ ([47] : Str)) ++ v := by unfold i_Table_rowWrite; rw [hv]; rfl
  have hp : (t.Name ++ ([47] : Str)).isPrefixOf (i_Table_rowWrite t r).Key = true := drop_pre hk
  rw [hp] at c1
  have c3 : (g_strings_CutPrefix (i_Table_rowWrite t r).Key (t.Name ++ ([47] : Str))).1 = v := by rw [c2 c1, hk, List.drop_left' rfl]
  have hs : g_strings_Split (i_Table_rowWrite t r).Val ([44] : Str) = vs := by
    unfold i_Table_rowWrite g_strings_Split g_strings_Join
    dsimp only
    rw [hv]
    exact sp_inter 44 vs hvs fun x hx => comma_field (hf x (by rw [hv]; exact List.mem_cons_of_mem _ hx))
  have hrow : (⟨([v] : List Str) ++ vs⟩ : DRow) = r := by rw [show [v] ++ vs = r.Vals from hv.symm]
  unfold i_ReadRow
  rw [GoodTable_eq, hg, cond_true]
  have : i_Table_readRow t (i_Table_rowWrite t r) = (r, true) := by
    unfold i_Table_readRow
    rw [c1, c3, hs, hrow, cond_true, hr, cond_true]
    simp only [beq_self_eq_true, Bool.and_self, cond_true]
  rw [this]
theorem readRow_write {t : DTable} {w : DWrite} (h : (i_ReadRow t w).2 = true) : i_RowWrite t (i_ReadRow t w).1 = (w, true) := by
  unfold i_ReadRow at h ⊢
  cases hg : i_GoodTable t
  · rw [hg] at h; cases h
  · rw [hg] at h
    dsimp only [cond_true] at h ⊢
    unfold i_Table_readRow at h ⊢
    revert h
    generalize (⟨(([(g_strings_CutPrefix w.Key (t.Name ++ ([47] : Str))).1] : List Str) ++ (g_strings_Split w.Val ([44] : Str)))⟩ : DRow) = r
    intro h
    cases hc : (g_strings_CutPrefix w.Key (t.Name ++ ([47] : Str))).2
    · rw [hc] at h; cases h
    · rw [hc] at h
      dsimp only [cond_true] at h ⊢
      cases hr : i_Table_isRow t r
      · rw [hr] at h; cases h
      · rw [hr] at h
        dsimp only [cond_true] at h ⊢
        cases he : (w.Key == (i_Table_rowWrite t r).Key && (w.Val == (i_Table_rowWrite t r).Val && w.Gone == (i_Table_rowWrite t r).Gone))
        · rw [he] at h; cases h
        · dsimp only [cond_true]
          simp only [Bool.and_eq_true, beq_iff_eq] at he
          unfold i_RowWrite i_GoodRow
          rw [hg, cond_true, hr, cond_true]
          have : i_Table_rowWrite t r = w := by
            cases w; cases hq : i_Table_rowWrite t r
            rw [hq] at he
            simp only [DWrite.mk.injEq]
            exact ⟨he.1.symm, he.2.1.symm, he.2.2.symm⟩
          rw [this]
theorem key_back {t : DTable} {n : Str} {r : DRow} (h : i_GoodRow t r = true) (hi : i_hasIdx t n = true) : (0 ≤ (i_Table_idx t n).Col ∧ (i_Table_idx t n).Col < (r.Vals.length : Int)) ∧ i_ReadIdxKey t n (i_Table_idxKey t n r) = (r.Vals.getD ((i_Table_idx t n).Col).toNat d_Str, r.Vals.getD 0 d_Str, true) := by
  obtain ⟨hg, hr, hf, hl, hc⟩ := good_fields h
  have hcol : 0 ≤ (i_Table_idx t n).Col ∧ (i_Table_idx t n).Col < (r.Vals.length : Int) := by
    have := f_i_hasIdx hi
    omega
  refine ⟨hcol, ?_⟩
  have f1 := hf _ (getD_mem (d := d_Str) (i := ((i_Table_idx t n).Col).toNat) oM)
  have f0 := hf _ (getD_mem (d := d_Str) (i := 0) oM)
  obtain ⟨c1, c2⟩ := CutPrefix_iff (i_Table_idxKey t n r) (i_Table_idxHead t n)
  have hk : i_Table_idxKey t n r = i_Table_idxHead t n ++ (r.Vals.getD (((i_Table_idx t n).Col).toNat) d_Str ++ 47 :: r.Vals.getD 0 d_Str) := by
    unfold i_Table_idxKey
    simp only [List.append_assoc]; rfl
  rw [drop_pre hk] at c1
  have c3 := c2 c1
  rw [hk, List.drop_left' rfl] at c3
  have hs := (f_i_GoodRow h).2.2.getD ((i_Table_idx t n).Col).toNat
  have hcut := Cut_some (r := r.Vals.getD 0 d_Str) (slash_field f1) oM
  unfold i_ReadIdxKey
  rw [hi, cond_true]
  have : i_Table_readIdxKey t n (i_Table_idxKey t n r) = (r.Vals.getD ((i_Table_idx t n).Col).toNat d_Str, r.Vals.getD 0 d_Str, true) := by
    unfold i_Table_readIdxKey
    rw [c1, hk, c3, hcut, isField_eq, isField_eq]
    dsimp only [cond_true]
    rw [f1, f0]; rfl
  rw [this]
theorem pick2 (c : List Int) (s : Int × Int) : -1 ≤ (u_pick c s 2).1 ∧ (u_pick c s 2).1 ≤ 1 := by
  unfold u_pick
  rw [decide_eq_false (by decide), cond_false, decide_eq_false (by decide), cond_false]
  dsimp only
  generalize (u_next c s).1 = x
  have h1 : Int.tmod x 2 = x - 2 * Int.tdiv x 2 := by have := Int.tmod_add_mul_tdiv x 2; omega
  rcases Int.le_total 0 x with h | h
  · rw [Int.tmod_eq_emod_of_nonneg h]; omega
  · have : Int.tmod x 2 = -(Int.tmod (-x) 2) := by rw [Int.neg_tmod]; omega
    rw [this, Int.tmod_eq_emod_of_nonneg oM]; omega
theorem spoilt_len (c : List Int) (s : Int × Int) (t w : Str) : (u_spoilt c s t w).1.length ≤ 4 * t.length + 3 := by
  have hp := pick2 c s
  unfold u_spoilt
  rw [wrap_in oM]
  refine loopW_val (fun (p : Str × Int × Int × Int) => p.2.1 ≤ 2 ∧ (2 ≤ p.2.1 → p.1.length ≤ t.length) ∧ (1 ≤ p.2.1 → p.1.length ≤ 2 * t.length + 1) ∧ p.1.length ≤ 4 * t.length + 3) (fun (p : Str × Int × Int × Int) => p.2.1.toNat) (fun (v : Str × (Int × Int)) => v.1.length ≤ 4 * t.length + 3) ?_ _ _ ⟨by dsimp only; omega, fun _ => Nat.le_refl _, fun _ => by dsimp only; omega, by dsimp only; omega⟩ (Nat.lt_succ_self _)
  rintro ⟨x, n, a, d⟩ ⟨h1, h2, h3, h4⟩
  dsimp only at h1 h2 h3 h4
  unfold B_u_spoilt_0
  dsimp only
  by_cases hn : 0 < n
  · rw [decide_eq_true hn]
    cases decide (0 < (x.length : Int))
    · exact h4
    · dsimp only [cond_true]
      have hw : IntKind.wrap .i64 (n - 1) = n - 1 := wrap_in oM
      have key : ∀ (y : Str) (q : Int × Int), y.length ≤ 2 * x.length + 1 → ((n - 1 ≤ 2 ∧ (2 ≤ n - 1 → y.length ≤ t.length) ∧ (1 ≤ n - 1 → y.length ≤ 2 * t.length + 1) ∧ y.length ≤ 4 * t.length + 3) ∧ (n - 1).toNat < n.toNat) := by
        intro y q hy
        refine ⟨⟨by omega, fun h => by omega, fun h => ?_, ?_⟩, by omega⟩
        · have := h2 oM; omega
        · rcases Int.lt_or_le n 2 with h5 | h5
          · have := h3 oM; omega
          · have := h2 oM; omega
      have ts : ∀ z : Int, (toS [z]).length = 1 := fun z => rfl
      cases decide (((u_pick c ((u_pick c ((u_pick c (a, d) (x.length : Int)).2) (w.length : Int)).2) 3).1) = 0)
      · cases decide (((u_pick c ((u_pick c ((u_pick c (a, d) (x.length : Int)).2) (w.length : Int)).2) 3).1) = 1)
        · dsimp only [cond_false, Out.sat]
          rw [hw]
          exact key _ (0, 0) (by simp only [List.length_append, List.length_take, List.length_drop]; omega)
        · dsimp only [cond_false, cond_true, Out.sat]
          rw [hw]
          exact key _ (0, 0) (by simp only [List.length_append, List.length_take, List.length_drop, ts]; omega)
      · dsimp only [cond_true, Out.sat]
        rw [hw]
        exact key _ (0, 0) (by simp only [List.length_append, List.length_take, List.length_drop, ts]; omega)
  · rw [decide_eq_false hn]
    exact h4
theorem loopM_done {ρ σ : Type} {body : Nat → σ → Out ρ σ} (hb : ∀ j s, ∃ s', body j s = .cont s') : ∀ (n k : Nat) (s : σ), ∃ s', loopM body n k s = .done s'
  | 0, _, s => ⟨s, rfl⟩
  | n + 1, k, s => by
    obtain ⟨s', h⟩ := hb k s
    unfold loopM
    rw [h]
    exact loopM_done hb n (k + 1) s'
theorem bif_cont {ρ σ : Type} {b : Bool} {x y : Out ρ σ} (h1 : ∃ s, x = .cont s) (h2 : ∃ s, y = .cont s) : ∃ s, (bif b then x else y) = .cont s := by cases b; exact h2; exact h1
theorem table_body (c : List Int) (s : Int × Int) (j : Nat) : ∀ x : Int × Int × List DIdx, ∃ x', B_u_table_0 c s j x = .cont x'
  | (_, _, _) => bif_cont (bif_cont (bif_cont ⟨_, rfl⟩ ⟨_, rfl⟩) ⟨_, rfl⟩) ⟨_, rfl⟩
theorem table_name (c : List Int) (s : Int × Int) : (u_table c s).1.Name.length ≤ 1 := by
  unfold u_table
  obtain ⟨x, h⟩ := loopM_done (table_body c s) (3 - 0) 0 (((u_pick c ((u_of c s ([[116], [117]] : List Str)).2) 3).2).1, ((u_pick c ((u_of c s ([[116], [117]] : List Str)).2) 3).2).2, ([] : List DIdx))
  rw [h]
  exact of_len 1 c s ([[116], [117]] : List Str) (by decide)
set_option maxRecDepth 100000 in
theorem drawn_key (c : List Int) : (s_DrawReadIdxKey c).2.2.length ≤ 1073741824 := by
  unfold s_DrawReadIdxKey
  have h0 := table_name c (0, 0)
  have o1 := fun s => of_len 1 c s ([[105], [105], [105], [106], [109], [122]] : List Str) (by decide)
  have o2 := fun s => of_len 3 c s ([[120], [121], [97, 98, 99]] : List Str) (by decide)
  have o3 := fun s => of_len 2 c s ([[49], [97], [122, 122]] : List Str) (by decide)
  cases (u_one c ((u_of c ((u_of c ((u_of c ((u_table c (0, 0)).2) ([[105], [105], [105], [106], [109], [122]] : List Str)).2) ([[120], [121], [97, 98, 99]] : List Str)).2) ([[49], [97], [122, 122]] : List Str)).2) 3).1
  · dsimp only [cond_false]
    have q1 := o1 (u_table c (0, 0)).2
    have q2 := o2 ((u_of c ((u_table c (0, 0)).2) ([[105], [105], [105], [106], [109], [122]] : List Str)).2)
    have q3 := o3 ((u_of c ((u_of c ((u_table c (0, 0)).2) ([[105], [105], [105], [106], [109], [122]] : List Str)).2) ([[120], [121], [97, 98, 99]] : List Str)).2)
    simp only [lN]
    omega
  · dsimp only [cond_true]
    refine Nat.le_trans (spoilt_len _ _ _ _) ?_
    have q1 := o1 (u_table c (0, 0)).2
    have q2 := o2 ((u_of c ((u_table c (0, 0)).2) ([[105], [105], [105], [106], [109], [122]] : List Str)).2)
    have q3 := o3 ((u_of c ((u_of c ((u_table c (0, 0)).2) ([[105], [105], [105], [106], [109], [122]] : List Str)).2) ([[120], [121], [97, 98, 99]] : List Str)).2)
    simp only [lN]
    omega
theorem any_mem (o : List Str) (s : Str) : (o.any fun x => x == s) = true ↔ s ∈ o := by
  rw [List.any_eq_true]
  exact ⟨fun ⟨x, h, e⟩ => eq_of_beq e ▸ h, fun h => ⟨s, h, beq_self_eq_true s⟩⟩
theorem entriesIn_map (t : DTable) (n : Str) (l : List DWrite) : i_Table_entriesIn t n l = (l.filter fun w => (i_Table_readIdxKey t n w.Key).2.2).map (·.Key) := by
  unfold i_Table_entriesIn
  refine loopM_val (fun k (p : List Str) => p = ((l.take k).filter fun w => (i_Table_readIdxKey t n w.Key).2.2).map (·.Key)) (fun (v : List Str) => v = (l.filter fun w => (i_Table_readIdxKey t n w.Key).2.2).map (·.Key)) rfl (fun s h => by rw [h, List.take_of_length_le oM]) ?_
  intro j s _ hj hs
  have hj' : j < l.length := by omega
  unfold B_i_Table_entriesIn_0
  dsimp only
  rw [List.take_succ_eq_append_getElem hj', List.filter_append, List.map_append, ← hs, ← getD_eq (d := d_Write) hj', List.filter_cons]
  cases (i_Table_readIdxKey t n ((l.getD j d_Write).Key)).2.2 <;> simp
theorem rowsIn_map (t : DTable) (l : List DWrite) : i_Table_rowsIn t l = (l.filter fun w => (i_Table_readRow t w).2).map fun w => (i_Table_readRow t w).1 := by
  unfold i_Table_rowsIn
  refine loopM_val (fun k (p : List DRow) => p = ((l.take k).filter fun w => (i_Table_readRow t w).2).map fun w => (i_Table_readRow t w).1) (fun (v : List DRow) => v = (l.filter fun w => (i_Table_readRow t w).2).map fun w => (i_Table_readRow t w).1) rfl (fun s h => by rw [h, List.take_of_length_le oM]) ?_
  intro j s _ hj hs
  have hj' : j < l.length := by omega
  unfold B_i_Table_rowsIn_0
  dsimp only
  rw [List.take_succ_eq_append_getElem hj', List.filter_append, List.map_append, ← hs, ← getD_eq (d := d_Write) hj', List.filter_cons]
  cases (i_Table_readRow t (l.getD j d_Write)).2 <;> simp
theorem keysIn_map (t : DTable) (n : Str) (l : List DWrite) : i_Table_keysIn t n l = (i_Table_rowsIn t l).map (i_Table_idxKey t n) := by
  unfold i_Table_keysIn
  refine loopM_val (fun k (p : List Str) => p = ((i_Table_rowsIn t l).take k).map (i_Table_idxKey t n)) (fun (v : List Str) => v = (i_Table_rowsIn t l).map (i_Table_idxKey t n)) rfl (fun s h => by rw [h, List.take_of_length_le oM]) ?_
  intro j s _ hj hs
  have hj' : j < (i_Table_rowsIn t l).length := by omega
  unfold B_i_Table_keysIn_0
  dsimp only
  show _ ++ _ = _
  rw [List.take_succ_eq_append_getElem hj', List.map_append, ← hs, ← getD_eq (d := d_Row) hj']; rfl
theorem sLt_trans {a b c : Str} (h1 : sLt a b = true) (h2 : sLt b c = true) : sLt a c = true := by
  unfold sLt at *
  rw [bytesLess_lt, decide_eq_true_eq] at *
  exact List.lt_trans h1 h2
theorem sLt_irrefl (a : Str) : ¬ sLt a a = true := by
  unfold sLt
  rw [bytesLess_lt, decide_eq_true_eq]
  exact List.lt_irrefl a
theorem read_wrote {t : DTable} {w : DWrite} (hg : i_GoodTable t = true) (h : (i_Table_readRow t w).2 = true) : i_GoodRow t (i_Table_readRow t w).1 = true ∧ i_Table_rowWrite t (i_Table_readRow t w).1 = w := by
  have e : i_ReadRow t w = i_Table_readRow t w := by unfold i_ReadRow; rw [hg, cond_true]
  have h1 := readRow_write (t := t) (w := w) (by rw [e]; exact h)
  rw [e] at h1
  unfold i_RowWrite at h1
  cases hr : i_GoodRow t (i_Table_readRow t w).1
  · rw [hr] at h1; cases h1
  · rw [hr] at h1
    exact ⟨rfl, (Prod.mk.inj h1).1⟩
theorem row_key (t : DTable) (r : DRow) : (i_Table_rowWrite t r).Key = (t.Name ++ ([47] : Str)) ++ r.Vals.getD 0 d_Str := rfl
theorem idx_yes {t : DTable} {n : Str} {l : List DWrite} (h : i_isIdxStore t n l = true) : i_EntriesIn t n l = (i_Table_entriesIn t n l, true) ∧ i_OrphansIn t n l = (s_l25Less (i_Table_entriesIn t n l) (i_Table_keysIn t n l), true) ∧ i_LacksIn t n l = (s_l25Less (i_Table_keysIn t n l) (i_Table_entriesIn t n l), true) ∧ i_RowsIn t l = (i_Table_rowsIn t l, true) := by
  have hi := isIdxStore_has h
  have hg : i_GoodTable t = true := by rw [GoodTable_eq]; exact hasIdx_good hi
  have hr : i_isRows l = true := by unfold i_isIdxStore at h; exact (of_cond_f h).2
  unfold i_EntriesIn i_OrphansIn i_LacksIn i_RowsIn i_Table_orphansIn i_Table_lacksIn
  rw [h, hg, hr, without_eq, without_eq]
  exact ⟨rfl, rfl, rfl, rfl⟩
theorem rf_l5Text (n : Int) : (s_l5Text n).length ≤ 2 := by
  unfold s_l5Text
  cases decide (n < 0)
  · exact Nat.le_succ 1
  · show (([45] : Str) ++ s_l1Num _).length ≤ 2
    rw [List.length_append, rf_l1Num]; exact Nat.le_refl 2
theorem ok_l5Text (n : Int) : okS (s_l5Text n) := by
  have := rf_l5Text n
  unfold okS; omega
theorem tell_key (rows : List DWrite) (k : Str) : (s_l5Tell rows k).Key = k := by
  unfold s_l5Tell
  refine loopM_val (fun _ _ => True) (fun (v : DGot) => v.Key = k) trivial (fun _ _ => rfl) (fun j s _ _ _ => ?_)
  unfold B_s_l5Tell_0
  dsimp only
  cases ((rows.getD j d_Write).Key == k)
  · trivial
  · rfl
theorem stands_not {buf : List DWrite} {got : List DGot} {k : Str} (h : (s_l5Stands buf got k).2.2 = false) : (got.any fun g => g.Key == k) = false := by
  revert h
  unfold s_l5Stands
  refine loopM_val (fun _ _ => True) (fun (v : Str × Bool × Bool) => v.2.2 = false → (got.any fun g => g.Key == k) = false) trivial (fun _ _ => ?_) (fun j s _ _ _ => ?_)
  · refine loopM_val (fun j _ => ((got.take j).any fun g => g.Key == k) = false) (fun (v : Str × Bool × Bool) => v.2.2 = false → (got.any fun g => g.Key == k) = false) rfl (fun s hs _ => ?_) (fun j s _ hj hs => ?_)
    · rw [List.take_of_length_le oM] at hs; exact hs
    · have hj' : j < got.length := by omega
      unfold B_s_l5Stands_1
      dsimp only
      cases h1 : ((got.getD j d_Got).Key == k)
      · show ((got.take (j + 1)).any fun g => g.Key == k) = false
        have hs : ((got.take j).any fun g => g.Key == k) = false := hs
        rw [List.take_succ_eq_append_getElem hj', List.any_append, hs, ← getD_eq (d := d_Got) hj', List.any_cons, h1]; rfl
      · exact fun h => by cases h
  · unfold B_s_l5Stands_0
    cases ((buf.getD j d_Write).Key == k)
    · trivial
    · exact fun h => by cases h
theorem step_asks {l : List DOp} {got : List DGot} (h : (s_l5Step l got).1 = 1) : ∃ o ∈ l, (s_l5Step l got).2.1 = o.Key ∧ (got.any fun g => g.Key == o.Key) = false := by
  revert h
  unfold s_l5Step
  refine loopM_val (fun _ _ => True) (fun (v : Int × Str × List DWrite) => v.1 = 1 → ∃ o ∈ l, v.2.1 = o.Key ∧ (got.any fun g => g.Key == o.Key) = false) trivial (fun _ _ h => ?_) (fun j s _ hj _ => ?_)
  · cases h
  · have hm : l.getD j d_Op ∈ l := getD_mem (d := d_Op) oM
    unfold B_s_l5Step_0
    dsimp only
    cases hk : (s_l5Stands s got (l.getD j d_Op).Key).2.2
    · have hn := stands_not hk
      cases decide ((l.getD j d_Op).Kind = 2)
      · cases decide ((l.getD j d_Op).Kind = 3)
        · exact fun _ => ⟨_, hm, rfl, hn⟩
        · cases s_l5Gives (l.getD j d_Op) ((s_l5Stands s got (l.getD j d_Op).Key).1) ((s_l5Stands s got (l.getD j d_Op).Key).2.1)
          · trivial
          · exact fun h => by cases h
      · cases s_l5Gives (l.getD j d_Op) ((s_l5Stands s got (l.getD j d_Op).Key).1) ((s_l5Stands s got (l.getD j d_Op).Key).2.1)
        · trivial
        · exact fun h => by cases h
    · cases s_l5Gives (l.getD j d_Op) ((s_l5Stands s got (l.getD j d_Op).Key).1) ((s_l5Stands s got (l.getD j d_Op).Key).2.1)
      · cases decide ((l.getD j d_Op).Kind = 2)
        · cases decide ((l.getD j d_Op).Kind = 3)
          · cases decide ((l.getD j d_Op).Kind = 4)
            · trivial
            · cases (s_l5Stands s got (l.getD j d_Op).Key).2.1 <;> trivial
          · trivial
        · trivial
      · exact fun h => by cases h
theorem filter_less {α : Type} {p q : α → Bool} (hpq : ∀ x, q x = true → p x = true) : ∀ {l : List α}, (∃ x ∈ l, p x = true ∧ q x = false) → (l.filter q).length < (l.filter p).length
  | [], h => by obtain ⟨x, hx, _⟩ := h; cases hx
  | y :: l, h => by
    have hle : ∀ l : List α, (l.filter q).length ≤ (l.filter p).length := fun l => by
      induction l with
      | nil => exact Nat.le_refl _
      | cons y l ih => cases hq : q y <;> cases hp : p y <;> simp [hq, hp] <;> first | omega | (have := hpq y hq; rw [hp] at this; cases this)
    obtain ⟨x, hx, h1, h2⟩ := h
    rcases List.mem_cons.1 hx with rfl | hx
    · have := hle l; simp [h1, h2]; omega
    · have ih := filter_less hpq ⟨x, hx, h1, h2⟩
      cases hq : q y <;> cases hp : p y <;> simp [hq, hp] <;> first | omega | (have := hpq y hq; rw [hp] at this; cases this)
theorem ask_less {rows : List DWrite} {l : List DOp} {got : List DGot} (h : (s_l5Step l got).1 = 1) : (l.filter fun o => !((got ++ ([(s_l5Tell rows ((s_l5Step l got).2.1))] : List DGot)).any fun g => g.Key == o.Key)).length < (l.filter fun o => !(got.any fun g => g.Key == o.Key)).length := by
  obtain ⟨o, ho, hk, hn⟩ := step_asks h
  refine filter_less (fun x hx => ?_) ⟨o, ho, by rw [hn]; rfl, ?_⟩
  · rw [List.any_append, Bool.not_or, Bool.and_eq_true] at hx; exact hx.1
  · rw [List.any_append, hk]
    simp [tell_key]
theorem asks_0 (l : List DOp) : ([] : List DGot).length + (l.filter fun o => !(([] : List DGot).any fun g => g.Key == o.Key)).length ≤ l.length := by
  rw [List.length_nil, Nat.zero_add]; exact List.length_filter_le _ _
theorem ok_FillOps (t : DTable) (n : Str) (r : DRow) : (okL ok_Op) (i_FillOps t n r).1 := by
  have hw := ok_RowWrite t r
  have hk := ok_IdxKey t n r
  unfold i_FillOps
  unfold i_RowWrite at hw
  unfold i_IdxKey at hk
  cases hg : i_GoodRow t r
  · exact okL.nil _
  · rw [hg] at hw hk
    cases hi : i_hasIdx t n
    · exact okL.nil _
    · rw [hi] at hk
      exact okL.mk (nb rfl) (okE.cons ⟨hw.1, hw.2⟩ (okE.cons ⟨hk, okS.lit rfl⟩ okE.nil))
theorem noadd_Fill (t : DTable) (n : Str) (r : DRow) : ∀ y ∈ (i_FillOps t n r).1, y.Kind ≠ 4 := by
  unfold i_FillOps
  intro y hy
  cases hg : i_GoodRow t r
  · rw [hg] at hy; cases hy
  · cases hi : i_hasIdx t n
    · rw [hg, hi] at hy; cases hy
    · rw [hg, hi] at hy
      rcases List.mem_cons.1 hy with rfl | hy
      · exact (by decide : ¬ ((7 : Int) = 4))
      · rw [List.mem_singleton.1 hy]; exact (by decide : ¬ ((2 : Int) = 4))
theorem noadd_Clear (t : DTable) (n k : Str) : ∀ y ∈ (i_ClearOps t n k).1, y.Kind ≠ 4 := by
  unfold i_ClearOps
  intro y hy
  cases hg : (i_ReadIdxKey t n k).2.2
  · rw [hg] at hy; cases hy
  · rw [hg] at hy
    rw [List.mem_singleton.1 hy]; exact (by decide : ¬ ((3 : Int) = 4))
theorem l5Rows_len {l : List DWrite} (h : s_l5Rows l = true) : l.length ≤ 24 := by
  rw [l5Rows_eq] at h
  exact (f_l3Writes (isRows_w h)).1
theorem noadd_one {l : List DOp} (hl : l.length ≤ 2) (h : ∀ y ∈ l, y.Kind ≠ 4) : ∀ x ∈ ([l] : List (List DOp)), x.length ≤ 100 ∧ ∀ y ∈ x, y.Kind ≠ 4 := fun x hx => by rw [List.mem_singleton.1 hx]; exact ⟨by omega, h⟩
theorem short_Fill (t : DTable) (n : Str) (r : DRow) : ∀ x ∈ ([(i_FillOps t n r).1] : List (List DOp)), x.length ≤ 100 ∧ ∀ y ∈ x, y.Kind ≠ 4 := noadd_one (FillOps_len t n r) (noadd_Fill t n r)
theorem short_Clear (t : DTable) (n k : Str) : ∀ x ∈ ([(i_ClearOps t n k).1] : List (List DOp)), x.length ≤ 100 ∧ ∀ y ∈ x, y.Kind ≠ 4 := noadd_one (Nat.le_trans (ClearOps_len t n k) (Nat.le_succ 1)) (noadd_Clear t n k)

theorem put_low {w x : DWrite} (h : sLe w.Key x.Key = false) : s_l5PutW [w] x = [x, w] := by
  have b1 : B_s_l5PutW_0 [w] x 1 = .cont 0 := by
    unfold B_s_l5PutW_0
    show (bif sLe w.Key x.Key then _ else _) = _
    rw [h]; rfl
  have b0 : B_s_l5PutW_0 [w] x 0 = .brk 0 := rfl
  unfold s_l5PutW
  show loopE (loopW (B_s_l5PutW_0 [w] x) 2 1) _ _ = _
  simp only [loopW, b1, b0]; rfl
theorem put_same {w x : DWrite} (h : w.Key = x.Key) : s_l5PutW [w] x = [x] := by
  have b1 : B_s_l5PutW_0 [w] x 1 = .brk 1 := by
    unfold B_s_l5PutW_0
    show (bif sLe w.Key x.Key then _ else _) = _
    unfold sLe
    rw [h, beq_self_eq_true, Bool.or_true]; rfl
  unfold s_l5PutW
  show loopE (loopW (B_s_l5PutW_0 [w] x) 2 1) _ _ = _
  simp only [loopW, b1]
  show (bif w.Key == x.Key then _ else _) = _
  rw [h, beq_self_eq_true]; rfl
theorem putRows1 (w x : DWrite) : s_l5PutRows [w] [x] = (s_l5PutW [w] x).filter fun y => !y.Gone := by
  unfold s_l5PutRows
  have e : loopM (B_s_l5PutRows_0 [w] [x]) (([x] : List DWrite).length - 0) 0 ((([] : List DWrite) ++ [w])) = .done (s_l5PutW [w] x) := rfl
  rw [e]
  show loopE (loopM (B_s_l5PutRows_1 [w] [x] (s_l5PutW [w] x)) ((s_l5PutW [w] x).length - 0) 0 (([] : List DWrite))) (fun r => r) (fun x138 => x138) = _
  generalize s_l5PutW [w] x = l
  refine loopM_val (fun k (p : List DWrite) => p = (l.take k).filter fun y => !y.Gone) (fun (v : List DWrite) => v = l.filter fun y => !y.Gone) rfl (fun s h => by rw [h, List.take_of_length_le oM]) ?_
  intro j s _ hj hs
  have hj' : j < l.length := by omega
  unfold B_s_l5PutRows_1
  dsimp only
  rw [List.take_succ_eq_append_getElem hj', List.filter_append, ← hs, ← getD_eq (d := d_Write) hj', List.filter_cons]
  cases (l.getD j d_Write).Gone <;> simp
theorem tell_one {w : DWrite} : s_l5Tell [w] w.Key = ⟨w.Key, w.Val, true⟩ := by
  unfold s_l5Tell
  show loopE (loopM (B_s_l5Tell_0 [w] w.Key) 1 0 ()) _ _ = _
  have b : B_s_l5Tell_0 [w] w.Key 0 () = .ret ⟨w.Key, w.Val, true⟩ := by
    unfold B_s_l5Tell_0
    show (bif w.Key == w.Key then _ else _) = _
    rw [beq_self_eq_true]; rfl
  simp only [loopM, b]; rfl
theorem stands_got (k v : Str) (th : Bool) : s_l5Stands [] [⟨k, v, th⟩] k = (v, th, true) := by
  unfold s_l5Stands
  have b : B_s_l5Stands_1 [] [⟨k, v, th⟩] k 0 () = .ret (v, th, true) := by
    unfold B_s_l5Stands_1
    show (bif k == k then _ else _) = _
    rw [beq_self_eq_true]; rfl
  show loopE (loopM (B_s_l5Stands_1 [] [⟨k, v, th⟩] k) 1 0 ()) _ _ = _
  simp only [loopM, b]; rfl
theorem step_ask (k v x : Str) : s_l5Step [⟨7, k, v, 0⟩, ⟨2, x, [], 0⟩] [] = (1, k, []) := rfl
theorem put_step (l : List DOp) (got : List DGot) (j : Nat) (x : Str) (h : l.getD j d_Op = ⟨2, x, [], 0⟩) : B_s_l5Step_0 l got j [] = .cont [⟨x, [], false⟩] := by
  unfold B_s_l5Step_0
  dsimp only
  rw [h]
  dsimp only
  have hg : ∀ v th, s_l5Gives ⟨2, x, [], 0⟩ v th = false := fun _ _ => rfl
  rw [hg]
  cases (s_l5Stands [] got x).2.2 <;> rfl
theorem step_done (k v x : Str) : s_l5Step [⟨7, k, v, 0⟩, ⟨2, x, [], 0⟩] [⟨k, v, true⟩] = (3, [], [⟨x, [], false⟩]) := by
  unfold s_l5Step
  have b0 : B_s_l5Step_0 [⟨7, k, v, 0⟩, ⟨2, x, [], 0⟩] [⟨k, v, true⟩] 0 [] = .cont [] := by
    unfold B_s_l5Step_0
    show (bif (s_l5Stands [] [⟨k, v, true⟩] k).2.2 then bif s_l5Gives ⟨7, k, v, 0⟩ (s_l5Stands [] [⟨k, v, true⟩] k).1 (s_l5Stands [] [⟨k, v, true⟩] k).2.1 then _ else _ else _) = _
    rw [stands_got]
    have hg : s_l5Gives ⟨7, k, v, 0⟩ v true = false := by
      unfold s_l5Gives
      show (!(v == v)) = false
      rw [beq_self_eq_true]; rfl
    dsimp only [cond_true]
    rw [hg]; rfl
  have b1 := put_step [⟨7, k, v, 0⟩, ⟨2, x, [], 0⟩] [⟨k, v, true⟩] 1 x rfl
  show loopE (loopM (B_s_l5Step_0 [⟨7, k, v, 0⟩, ⟨2, x, [], 0⟩] [⟨k, v, true⟩]) 2 0 []) _ _ = _
  simp only [loopM, b0, b1]; rfl
theorem step_give (k v x : Str) : s_l5Step [⟨7, k, v, 0⟩, ⟨2, x, [], 0⟩] [⟨k, [], false⟩] = (2, [], []) := by
  unfold s_l5Step
  have b0 : B_s_l5Step_0 [⟨7, k, v, 0⟩, ⟨2, x, [], 0⟩] [⟨k, [], false⟩] 0 [] = .ret (2, [], []) := by
    unfold B_s_l5Step_0
    show (bif (s_l5Stands [] [⟨k, [], false⟩] k).2.2 then bif s_l5Gives ⟨7, k, v, 0⟩ (s_l5Stands [] [⟨k, [], false⟩] k).1 (s_l5Stands [] [⟨k, [], false⟩] k).2.1 then _ else _ else _) = _
    rw [stands_got]; rfl
  show loopE (loopM (B_s_l5Step_0 [⟨7, k, v, 0⟩, ⟨2, x, [], 0⟩] [⟨k, [], false⟩]) 2 0 []) _ _ = _
  simp only [loopM, b0]; rfl
theorem alone_fill (w : DWrite) (x : Str) : s_l5Alone [w] [⟨7, w.Key, w.Val, 0⟩, ⟨2, x, [], 0⟩] = ([⟨w.Key, w.Val, true⟩], [⟨x, [], false⟩], true) := by
  unfold s_l5Alone
  have b0 : B_s_l5Alone_0 [w] [⟨7, w.Key, w.Val, 0⟩, ⟨2, x, [], 0⟩] [] = .cont [⟨w.Key, w.Val, true⟩] := by
    unfold B_s_l5Alone_0
    dsimp only
    rw [step_ask]
    show Out.cont ([] ++ [s_l5Tell [w] w.Key]) = _
    rw [tell_one]; rfl
  have b1 : B_s_l5Alone_0 [w] [⟨7, w.Key, w.Val, 0⟩, ⟨2, x, [], 0⟩] [⟨w.Key, w.Val, true⟩] = .ret ([⟨w.Key, w.Val, true⟩], [⟨x, [], false⟩], true) := by
    unfold B_s_l5Alone_0
    dsimp only
    rw [step_done]; rfl
  show loopE (loopW (B_s_l5Alone_0 [w] [⟨7, w.Key, w.Val, 0⟩, ⟨2, x, [], 0⟩]) 3 []) _ _ = _
  simp only [loopW, b0, b1]; rfl
theorem alone_none (k v x : Str) : s_l5Alone [] [⟨7, k, v, 0⟩, ⟨2, x, [], 0⟩] = ([⟨k, [], false⟩], [], false) := by
  unfold s_l5Alone
  have b0 : B_s_l5Alone_0 [] [⟨7, k, v, 0⟩, ⟨2, x, [], 0⟩] [] = .cont [⟨k, [], false⟩] := by
    unfold B_s_l5Alone_0
    dsimp only
    rw [step_ask]; rfl
  have b1 : B_s_l5Alone_0 [] [⟨7, k, v, 0⟩, ⟨2, x, [], 0⟩] [⟨k, [], false⟩] = .ret ([⟨k, [], false⟩], [], false) := by
    unfold B_s_l5Alone_0
    dsimp only
    rw [step_give]; rfl
  show loopE (loopW (B_s_l5Alone_0 [] [⟨7, k, v, 0⟩, ⟨2, x, [], 0⟩]) 3 []) _ _ = _
  simp only [loopW, b0, b1]; rfl
theorem alone_drop (rows : List DWrite) (k : Str) : s_l5Alone rows [⟨3, k, [], 0⟩] = ([], [⟨k, [], true⟩], true) := rfl
theorem run_one {rows : List DWrite} {f : List DOp} {got : List DGot} {x : List DWrite} {d : Bool} (hr : s_l5Rows rows = true) (hf : s_l5Good f = true) (ha : s_l5Alone rows f = (got, x, d)) : s_RunInTurn rows [f] = bif d && s_l5Rows (s_l5PutRows rows x) then (s_l5PutRows rows x, [true], true) else (rows, [false], true) := by
  unfold s_RunInTurn
  rw [hr, cond_true]
  have b0 : B_s_RunInTurn_0 rows [f] 0 () = .cont () := by
    unfold B_s_RunInTurn_0
    show (bif s_l5Good f then _ else _) = _
    rw [hf]; rfl
  have e0 : loopM (B_s_RunInTurn_0 rows [f]) (([f] : List (List DOp)).length - 0) 0 () = .done () := by
    show loopM (B_s_RunInTurn_0 rows [f]) 1 0 () = _
    simp only [loopM, b0]
  have b1 : B_s_RunInTurn_1 rows [f] 0 (rows, []) = .cont (bif d && s_l5Rows (s_l5PutRows rows x) then (s_l5PutRows rows x, [true]) else (rows, [false])) := by
    unfold B_s_RunInTurn_1
    show (bif (s_l5Alone rows f).2.2 then bif s_l5Rows (s_l5PutRows rows (s_l5Alone rows f).2.1) then _ else _ else _) = _
    rw [ha]
    cases d
    · rfl
    · cases h : s_l5Rows (s_l5PutRows rows x)
      · simp only [cond_true, cond_false, Bool.true_and, h]
        show Out.cont (rows, [] ++ [s_l5Rows (s_l5PutRows rows (s_l5Alone rows f).2.1)]) = _
        rw [ha]; simp only [h]; rfl
      · simp only [cond_true, cond_false, Bool.true_and, h]
        show Out.cont (s_l5PutRows rows (s_l5Alone rows f).2.1, [] ++ [s_l5Rows (s_l5PutRows rows (s_l5Alone rows f).2.1)]) = _
        rw [ha]; simp only [h]; rfl
  have e1 : loopM (B_s_RunInTurn_1 rows [f]) (([f] : List (List DOp)).length - 0) 0 ((([] : List DWrite) ++ rows), ([] : List Bool)) = .done (bif d && s_l5Rows (s_l5PutRows rows x) then (s_l5PutRows rows x, [true]) else (rows, [false])) := by
    show loopM (B_s_RunInTurn_1 rows [f]) 1 0 (rows, []) = _
    simp only [loopM, b1]
  rw [e0, e1]
  cases d && s_l5Rows (s_l5PutRows rows x) <;> rfl

theorem kb_field {s : Str} (h : s_l25Field s = true) : ∀ b ∈ s, ∀ more : Str, byteOk more b = true := by
  unfold s_l25Field at h
  obtain ⟨_, h2⟩ := of_cond_f h
  rw [l3Bytes_eq, List.all_eq_true] at h2
  intro b hb more
  have := h2 b hb
  unfold byteOk at this ⊢
  rw [Bool.or_eq_true] at this ⊢
  rcases this with h | h
  · exact Or.inl h
  · cases h
theorem kb_letters {s : Str} {m : Int} (h : s_l24Letters s m = true) : ∀ b ∈ s, byteOk ([46, 47] : Str) b = true := by
  rw [l24Letters_eq, Bool.and_eq_true, Bool.and_eq_true, List.all_eq_true] at h
  intro b hb
  have h1 := h.1.1 b hb
  unfold letter at h1
  rw [Bool.and_eq_true, Bool.not_eq_true', Bool.not_eq_true', decide_eq_false_iff_not, decide_eq_false_iff_not] at h1
  unfold byteOk i_isLowerOrDigit
  rw [decide_eq_true (show (97 : Int) ≤ (b.toNat : Int) by omega), decide_eq_true (show (b.toNat : Int) ≤ 122 by omega)]; rfl
theorem idx_letters {t : DTable} {n : Str} (h : i_hasIdx t n = true) : s_l24Letters t.Name 1 = true ∧ s_l24Letters n 1 = true := by
  have h2 := IdxAt_fst (hasIdx_eq t n ▸ h)
  obtain ⟨h3, h4⟩ := (hasIdx_iff t n).1 h
  have h5 := rf_s_l24Idx t n
  rw [idx_eq] at h2
  rw [s_GoodTable_eq] at h3
  simp only [Bool.and_eq_true, List.all_eq_true, List.mem_range] at h3
  have h6 := h3.2 (s_l24Idx t n).toNat oM
  unfold idxOk at h6
  simp only [Bool.and_eq_true] at h6
  have h7 := h6.1.1.1
  rw [h2.2] at h7
  exact ⟨h3.1.1.1, h7⟩
theorem l3Key_of {s : Str} (h1 : 1 ≤ s.length) (h2 : s.length ≤ 12) (h : ∀ b ∈ s, byteOk ([46, 47] : Str) b = true) : s_l3Key s = true := by
  unfold s_l3Key s_l1In
  rw [decide_eq_true oM, cond_true, decide_eq_true oM, cond_true, l3Bytes_eq, List.all_eq_true]; exact h
theorem l3Val_of {s : Str} (h2 : s.length ≤ 24) (h : ∀ b ∈ s, byteOk ([46, 45, 44, 95] : Str) b = true) : s_l3Val s = true := by
  unfold s_l3Val
  rw [decide_eq_true oM, cond_true, l3Bytes_eq, List.all_eq_true]; exact h
theorem inter_bytes : ∀ (xs : List Str), ∀ b ∈ ([44] : Str).intercalate xs, b = 44 ∨ ∃ x ∈ xs, b ∈ x
  | [], b, h => by simp [List.intercalate] at h
  | [x], b, h => by rw [inter_one] at h; exact Or.inr ⟨x, by simp, h⟩
  | x :: y :: zs, b, h => by
    rw [inter_cons] at h
    rcases List.mem_append.1 h with h | h
    · exact Or.inr ⟨x, by simp, h⟩
    · rcases List.mem_append.1 h with h | h
      · exact Or.inl (List.mem_singleton.1 h)
      · rcases inter_bytes (y :: zs) b h with h | ⟨z, hz, h⟩
        · exact Or.inl h
        · exact Or.inr ⟨z, List.mem_cons_of_mem _ hz, h⟩
theorem fieldD {t : DTable} {r : DRow} (h : i_GoodRow t r = true) {k : Nat} (hk : k < r.Vals.length) : s_l25Field (r.Vals.getD k d_Str) = true := (good_fields h).2.2.1 _ (getD_mem hk)
theorem rowKey_ok {t : DTable} {r : DRow} {n : Str} (h : i_GoodRow t r = true) (hi : i_hasIdx t n = true) : s_l3Key (i_Table_rowWrite t r).Key = true ∧ s_l3Val (i_Table_rowWrite t r).Val = true ∧ s_l3Key (i_Table_idxKey t n r) = true := by
  obtain ⟨hg, hr, hf, hl, hc⟩ := good_fields h
  obtain ⟨hn1, hn2⟩ := idx_letters hi
  have ln1 := letters_len hn1
  have ln2 := letters_len hn2
  have hcol := (key_back h hi).1
  have f0 := fieldD h (k := 0) oM
  have f1 := fieldD h (k := ((i_Table_idx t n).Col).toNat) oM
  have l0 := field_len f0
  have l1 := field_len f1
  have hc4 := (GoodT.of hg).cols
  refine ⟨?_, ?_, ?_⟩
  · rw [row_key]
    refine l3Key_of (by simp only [lN]; omega) (by simp only [lN]; omega) fun b hb => ?_
    simp only [List.mem_append, List.mem_singleton] at hb
    rcases hb with (hb | hb) | hb
    · exact kb_letters hn1 b hb
    · rw [hb]; decide
    · exact kb_field f0 b hb _
  · show s_l3Val (g_strings_Join (r.Vals.drop 1) ([44] : Str)) = true
    unfold g_strings_Join
    have hs : ∀ x ∈ r.Vals.drop 1, s_l25Field x = true := fun x hx => hf x (List.mem_of_mem_drop hx)
    have h1 := inter_len (r.Vals.drop 1) fun x hx => by have := field_len (hs x hx); omega
    rw [List.length_drop] at h1
    refine l3Val_of oM fun b hb => ?_
    rcases inter_bytes _ b hb with hb | ⟨x, hx, hb⟩
    · rw [hb]; decide
    · exact kb_field (hs x hx) b hb _
  · unfold i_Table_idxKey i_Table_idxHead
    refine l3Key_of (by simp only [lN]; omega) (by simp only [lN]; omega) fun b hb => ?_
    simp only [List.mem_append, List.mem_singleton] at hb
    rcases hb with (((((hb | hb) | hb) | hb) | hb) | hb) | hb
    · exact kb_letters hn1 b hb
    · rw [hb]; decide
    · exact kb_letters hn2 b hb
    · rw [hb]; decide
    · exact kb_field f1 b hb _
    · rw [hb]; decide
    · exact kb_field f0 b hb _
theorem keys_rise {t : DTable} {n : Str} (hi : i_hasIdx t n = true) (r q : DRow) : sLt (i_Table_idxKey t n r) (i_Table_rowWrite t q).Key = true ∧ sLe (i_Table_rowWrite t q).Key (i_Table_idxKey t n r) = false := by
  obtain ⟨c, hc⟩ : ∃ c, t.Name = [c] := by
    have := letters_len (idx_letters hi).1
    cases h : t.Name with
    | nil => rw [h] at this; simp at this
    | cons c l => cases l with
      | nil => exact ⟨c, rfl⟩
      | cons d l => rw [h] at this; simp only [List.length_cons] at this; omega
  have e1 : (i_Table_rowWrite t q).Key = c :: 47 :: q.Vals.getD 0 d_Str := by rw [row_key, hc]; rfl
  have e2 : i_Table_idxKey t n r = c :: 46 :: (n ++ 47 :: (r.Vals.getD (((i_Table_idx t n).Col).toNat) d_Str ++ 47 :: r.Vals.getD 0 d_Str)) := by
    unfold i_Table_idxKey i_Table_idxHead
    rw [hc]
    simp only [List.append_assoc, List.cons_append, List.nil_append]
  rw [e1, e2]
  have h1 : sLt (c :: 46 :: (n ++ 47 :: (r.Vals.getD (((i_Table_idx t n).Col).toNat) d_Str ++ 47 :: r.Vals.getD 0 d_Str))) (c :: 47 :: q.Vals.getD 0 d_Str) = true := by
    unfold sLt
    rw [bytesLess_lt, decide_eq_true_eq]
    exact List.cons_lt_cons_iff.2 (Or.inr ⟨rfl, List.cons_lt_cons_iff.2 (Or.inl (by decide))⟩)
  refine ⟨h1, ?_⟩
  unfold sLe
  cases h2 : sLt (c :: 47 :: q.Vals.getD 0 d_Str) (c :: 46 :: (n ++ 47 :: (r.Vals.getD (((i_Table_idx t n).Col).toNat) d_Str ++ 47 :: r.Vals.getD 0 d_Str)))
  · rw [Bool.false_or, beq_eq_false_iff_ne]
    intro h; rw [List.cons.injEq, List.cons.injEq] at h; exact absurd h.2.1 (by decide)
  · exact absurd (sLt_trans h1 h2) (sLt_irrefl _)

theorem write_ok {w : DWrite} (hk : s_l3Key w.Key = true) (hv : s_l3Val w.Val = true) (hg : w.Gone = false) : s_l3Write w.Key w.Val w.Gone = true := by
  unfold s_l3Write
  rw [hk, hv, hg]; rfl
theorem rows1 {w : DWrite} (hk : s_l3Key w.Key = true) (hv : s_l3Val w.Val = true) (hg : w.Gone = false) : s_l5Rows [w] = true := by
  rw [l5Rows_eq, isRows_eq, l3Writes_eq, Bool.and_eq_true, Bool.and_eq_true, List.all_eq_true]
  refine ⟨⟨fun k hk2 => ?_, rfl⟩, ?_⟩
  · have hk3 : k = 0 := by have := List.mem_range.1 hk2; simp only [List.length_cons, List.length_nil] at this; omega
    subst hk3
    show (s_l3Write w.Key w.Val w.Gone && true) = true
    rw [write_ok hk hv hg]; rfl
  · show ((!w.Gone) && true) = true
    rw [hg]; rfl
theorem rows2 {x w : DWrite} (hk : s_l3Key w.Key = true) (hv : s_l3Val w.Val = true) (hg : w.Gone = false) (xk : s_l3Key x.Key = true) (xv : s_l3Val x.Val = true) (xg : x.Gone = false) (hlt : sLt x.Key w.Key = true) : s_l5Rows [x, w] = true := by
  rw [l5Rows_eq, isRows_eq, l3Writes_eq, Bool.and_eq_true, Bool.and_eq_true, List.all_eq_true]
  refine ⟨⟨fun k hk2 => ?_, rfl⟩, ?_⟩
  · have hk3 : k = 0 ∨ k = 1 := by have := List.mem_range.1 hk2; simp only [List.length_cons, List.length_nil] at this; omega
    rcases hk3 with rfl | rfl
    · show (s_l3Write x.Key x.Val x.Gone && true) = true
      rw [write_ok xk xv xg]; rfl
    · show (s_l3Write w.Key w.Val w.Gone && sLt x.Key w.Key) = true
      rw [write_ok hk hv hg, hlt]; rfl
  · show ((!x.Gone) && ((!w.Gone) && true)) = true
    rw [xg, hg]; rfl
theorem good_ops (l : List DOp) (h : l.all s_l5Op = true) (hl : l.length ≤ 8) : s_l5Good l = true := by
  unfold s_l5Good
  rw [allE d_Op s_l5Op (r := false) fun k => rfl, h, cond_true, decide_eq_true oM]
theorem op_is {k v : Str} (hk : s_l3Key k = true) (hv : s_l3Val v = true) : s_l5Op ⟨7, k, v, 0⟩ = true := by
  unfold s_l5Op
  show (bif s_l3Key k then bif s_l3Val v then true else false else _) = true
  rw [hk, hv]; rfl
theorem op_put {k v : Str} (hk : s_l3Key k = true) (hv : s_l3Val v = true) : s_l5Op ⟨2, k, v, 0⟩ = true := by
  unfold s_l5Op
  show (bif s_l3Key k then bif s_l3Val v then true else false else _) = true
  rw [hk, hv]; rfl
theorem op_drop {k : Str} (hk : s_l3Key k = true) : s_l5Op ⟨3, k, [], 0⟩ = true := by
  unfold s_l5Op
  dsimp only
  rw [hk]; rfl
theorem val_nil : s_l3Val ([] : Str) = true := rfl
theorem fill_form {t : DTable} {n : Str} {r : DRow} (h : (i_FillOps t n r).2 = true) : i_GoodRow t r = true ∧ i_hasIdx t n = true ∧ (i_FillOps t n r).1 = [⟨7, (i_Table_rowWrite t r).Key, (i_Table_rowWrite t r).Val, 0⟩, ⟨2, i_Table_idxKey t n r, [], 0⟩] := by
  unfold i_FillOps at h ⊢
  cases hg : i_GoodRow t r
  · rw [hg] at h; cases h
  · cases hi : i_hasIdx t n
    · rw [hg, hi] at h; cases h
    · exact ⟨rfl, rfl, rfl⟩
theorem ran_fill {t : DTable} {n : Str} {r : DRow} (h : (i_FillOps t n r).2 = true) : s_RunInTurn [i_Table_rowWrite t r] [(i_FillOps t n r).1] = ([⟨i_Table_idxKey t n r, [], false⟩, i_Table_rowWrite t r], [true], true) ∧ s_RunInTurn [] [(i_FillOps t n r).1] = ([], [false], true) ∧ s_l5Rows [⟨i_Table_idxKey t n r, [], false⟩, i_Table_rowWrite t r] = true := by
  obtain ⟨hg, hi, hf⟩ := fill_form h
  obtain ⟨k1, k2, k3⟩ := rowKey_ok hg hi
  obtain ⟨o1, o2⟩ := keys_rise hi r r
  have hgone : (i_Table_rowWrite t r).Gone = false := rfl
  have hr := rows1 k1 k2 hgone
  have hr2 := rows2 (x := ⟨i_Table_idxKey t n r, [], false⟩) k1 k2 hgone k3 val_nil rfl o1
  have hgood : s_l5Good (i_FillOps t n r).1 = true := by
    rw [hf]
    refine good_ops _ ?_ (nb rfl)
    show (s_l5Op _ && (s_l5Op _ && true)) = true
    rw [op_is k1 k2, op_put k3 val_nil]; rfl
  have e1 : s_l5PutRows [i_Table_rowWrite t r] [⟨i_Table_idxKey t n r, [], false⟩] = [⟨i_Table_idxKey t n r, [], false⟩, i_Table_rowWrite t r] := by
    rw [putRows1, put_low o2]; rfl
  refine ⟨?_, ?_, hr2⟩
  · have a1 := alone_fill (i_Table_rowWrite t r) (i_Table_idxKey t n r)
    rw [← hf] at a1
    rw [run_one hr hgood a1, e1, hr2]; rfl
  · have a1 := alone_none (i_Table_rowWrite t r).Key (i_Table_rowWrite t r).Val (i_Table_idxKey t n r)
    rw [← hf] at a1
    rw [run_one (rows := []) rfl hgood a1]; rfl
theorem no_lacks {t : DTable} {n : Str} {r : DRow} (h : (i_FillOps t n r).2 = true) : i_LacksIn t n [⟨i_Table_idxKey t n r, [], false⟩, i_Table_rowWrite t r] = ([], true) := by
  obtain ⟨hg, hi, hf⟩ := fill_form h
  have hr := (ran_fill h).2.2
  have hst : i_isIdxStore t n [⟨i_Table_idxKey t n r, [], false⟩, i_Table_rowWrite t r] = true := by
    unfold i_isIdxStore
    rw [hi, cond_true, ← l5Rows_eq]; exact hr
  rw [(idx_yes hst).2.2.1, less_eq]
  have hgt : i_GoodTable t = true := by rw [GoodTable_eq]; exact hasIdx_good hi
  have key : ∀ s ∈ i_Table_keysIn t n [⟨i_Table_idxKey t n r, [], false⟩, i_Table_rowWrite t r], s ∈ i_Table_entriesIn t n [⟨i_Table_idxKey t n r, [], false⟩, i_Table_rowWrite t r] := by
    intro s hs
    rw [keysIn_map, rowsIn_map] at hs
    obtain ⟨y, hy, rfl⟩ := List.mem_map.1 hs
    obtain ⟨w, hw, rfl⟩ := List.mem_map.1 hy
    obtain ⟨hw1, hw2⟩ := List.mem_filter.1 hw
    obtain ⟨g1, g2⟩ := read_wrote hgt hw2
    rcases List.mem_cons.1 hw1 with rfl | hw1
    · have := (keys_rise hi r (i_Table_readRow t ⟨i_Table_idxKey t n r, [], false⟩).1).1
      rw [g2] at this
      exact absurd this (sLt_irrefl _)
    · have hw1 := List.mem_singleton.1 hw1
      subst hw1
      have e : i_Table_readRow t (i_Table_rowWrite t r) = (r, true) := by
        have := row_back hg
        unfold i_ReadRow at this
        rw [hgt, cond_true] at this; exact this
      rw [e, entriesIn_map]
      refine List.mem_map.2 ⟨⟨i_Table_idxKey t n r, [], false⟩, List.mem_filter.2 ⟨List.mem_cons_self .., ?_⟩, rfl⟩
      have := (key_back hg hi).2
      unfold i_ReadIdxKey at this
      rw [hi, cond_true] at this
      exact (Prod.mk.inj (Prod.mk.inj this).2).2
  have : ((i_Table_keysIn t n [⟨i_Table_idxKey t n r, [], false⟩, i_Table_rowWrite t r]).filter fun s => !((i_Table_entriesIn t n [⟨i_Table_idxKey t n r, [], false⟩, i_Table_rowWrite t r]).any fun x => x == s)) = [] := by
    rw [List.filter_eq_nil_iff]
    intro s hs
    rw [Bool.not_eq_true, Bool.not_eq_false', any_mem]
    exact key s hs
  rw [this]
theorem cut_parts {s : Str} {c : UInt8} (hl : s.length ≤ 1073741824) (h : (g_strings_Cut s [c]).2.2 = true) : ∃ a b, s = a ++ c :: b ∧ g_strings_Cut s [c] = (a, b, true) := by
  by_cases hm : c ∈ s
  · obtain ⟨a, b, e, hn⟩ := List.eq_append_cons_of_mem hm
    refine ⟨a, b, e, ?_⟩
    rw [e]
    refine Cut_some hn ?_
    rw [e, List.length_append] at hl; omega
  · rw [Cut_none hm] at h; cases h
theorem read_key {t : DTable} {n k : Str} (hl : k.length ≤ 1073741824) (h : (i_ReadIdxKey t n k).2.2 = true) : s_l3Key k = true := by
  unfold i_ReadIdxKey at h
  cases hi : i_hasIdx t n
  · rw [hi] at h; cases h
  rw [hi, cond_true] at h
  obtain ⟨hn1, hn2⟩ := idx_letters hi
  have ln1 := letters_len hn1
  have ln2 := letters_len hn2
  obtain ⟨c1, c2⟩ := CutPrefix_iff k (i_Table_idxHead t n)
  unfold i_Table_readIdxKey at h
  cases hp : (g_strings_CutPrefix k (i_Table_idxHead t n)).2
  · rw [hp] at h; cases h
  have c3 := c2 hp
  rw [hp] at h c1
  obtain ⟨rest, hrest⟩ := List.isPrefixOf_iff_prefix.1 c1.symm
  rw [← hrest, List.drop_left' rfl] at c3
  rw [hrest] at c3
  rw [c3] at h
  dsimp only [cond_true] at h
  cases hc : (g_strings_Cut rest ([47] : Str)).2.2
  · rw [hc] at h; cases h
  have hlr : rest.length ≤ 1073741824 := by rw [← hrest, List.length_append] at hl; omega
  obtain ⟨a, b, e, hcut⟩ := cut_parts hlr hc
  rw [hcut] at h
  dsimp only [cond_true] at h
  rw [isField_eq, isField_eq] at h
  cases ha : s_l25Field a
  · rw [ha] at h; cases h
  cases hb : s_l25Field b
  · rw [ha, hb] at h; cases h
  have la := field_len ha
  have lb := field_len hb
  have hk : k = (((t.Name ++ ([46] : Str)) ++ n) ++ ([47] : Str)) ++ (a ++ 47 :: b) := by rw [← hrest, e]; rfl
  rw [hk]
  refine l3Key_of (by simp only [lN]; omega) (by simp only [lN]; omega) fun x hx => ?_
  simp only [List.mem_append, List.mem_cons, List.not_mem_nil, or_false] at hx
  rcases hx with (((hx | hx) | hx) | hx) | hx | hx | hx
  · exact kb_letters hn1 x hx
  · rw [hx]; decide
  · exact kb_letters hn2 x hx
  · rw [hx]; decide
  · exact kb_field ha x hx _
  · rw [hx]; decide
  · exact kb_field hb x hx _
theorem ran_clear {t : DTable} {n k : Str} (hl : k.length ≤ 1073741824) (h : (i_ClearOps t n k).2 = true) : s_RunInTurn [⟨k, [], false⟩] [(i_ClearOps t n k).1] = ([], [true], true) := by
  unfold i_ClearOps at h ⊢
  cases hr : (i_ReadIdxKey t n k).2.2
  · rw [hr] at h; cases h
  have hk := read_key hl hr
  show s_RunInTurn [⟨k, [], false⟩] [[⟨3, k, [], 0⟩]] = _
  have hgood : s_l5Good [⟨3, k, [], 0⟩] = true := by
    refine good_ops _ ?_ (nb rfl)
    show (s_l5Op _ && true) = true
    rw [op_drop hk]; rfl
  have e1 : s_l5PutRows [⟨k, [], false⟩] [⟨k, [], true⟩] = [] := by
    rw [putRows1, put_same (w := ⟨k, [], false⟩) (x := ⟨k, [], true⟩) rfl]; rfl
  rw [run_one (rows1 (w := ⟨k, [], false⟩) hk val_nil rfl) hgood (alone_drop _ _), e1]; rfl
theorem qSameOps_refl (a : List DOp) : l_qSameOps a a = true := by
  unfold l_qSameOps
  rw [decide_eq_true rfl, cond_true]
  rw [allE d_Op (fun _ => true) (r := false) fun k => by unfold B_l_qSameOps_0; simp only [beq_self_eq_true, decide_true, Bool.and_self]]
  simp
theorem true_FnFillOps (a b : List Int) : l_FnFillOps a b = true := by
  unfold l_FnFillOps
  cases decide (1048576 < (IntKind.wrap .i64 ((a.length : Int) + (b.length : Int))))
  case true => rfl
  have hk : (s_DrawClearOps b).2.2.length ≤ 1073741824 := drawn_key b
  generalize s_DrawFillOps a = D at *
  generalize s_DrawClearOps b = E at *
  obtain ⟨t, n, r⟩ := D
  obtain ⟨u, m, k⟩ := E
  dsimp only at hk ⊢
  simp only [cond_false, ← FillOps_eq, ← ClearOps_eq u m k hk, ← RowWrite_eq, beq_self_eq_true, cond_true, qSameOps_refl]
  have tail : (bif (i_ClearOps u m k).2 then bif (s_RunInTurn ([(⟨k, ([] : Str), false⟩ : DWrite)] : List DWrite) ([(i_ClearOps u m k).1] : List (List DOp))).2.2 then bif decide ((((s_RunInTurn ([(⟨k, ([] : Str), false⟩ : DWrite)] : List DWrite) ([(i_ClearOps u m k).1] : List (List DOp))).1).length : Int) = 0) then bif decide ((((s_RunInTurn ([(⟨k, ([] : Str), false⟩ : DWrite)] : List DWrite) ([(i_ClearOps u m k).1] : List (List DOp))).2.1).length : Int) = 1) then (((s_RunInTurn ([(⟨k, ([] : Str), false⟩ : DWrite)] : List DWrite) ([(i_ClearOps u m k).1] : List (List DOp))).2.1).getD 0 d_Bool) else false else false else false else true) = true := by
    cases h : (i_ClearOps u m k).2
    · rfl
    · rw [ran_clear hk h]; rfl
  rw [tail]
  cases h : (i_FillOps t n r).2
  · rfl
  · obtain ⟨hg, hi, hf⟩ := fill_form h
    have hw : i_RowWrite t r = (i_Table_rowWrite t r, true) := by unfold i_RowWrite; rw [hg]; rfl
    obtain ⟨r1, r2, _⟩ := ran_fill h
    rw [hw]
    dsimp only [cond_true]
    rw [r1, r2]
    dsimp only [cond_true]
    rw [no_lacks h]; rfl

end Go.Proofs.YtfcofekfcmidoaaGreatDoor
