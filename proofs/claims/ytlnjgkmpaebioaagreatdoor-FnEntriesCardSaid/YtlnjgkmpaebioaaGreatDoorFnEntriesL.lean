/- Fn Entries: plain laws of the models. -/
import Derived.Test.YtlnjgkmpaebioaaGreatDoorFnEntriesT
set_option linter.unusedVariables false
set_option linter.unusedSimpArgs false
namespace Go.Proofs.YtlnjgkmpaebioaaGreatDoor
open Go.RowKit Go.X
theorem IndexFunc_Idx (xs : List DIdx) (f : DIdx → Bool) : g_slices_IndexFunc_Idx xs f = idxF f d_Idx xs := rfl
theorem ContainsFunc_Write (xs : List DWrite) (f : DWrite → Bool) : g_slices_ContainsFunc_Write xs f = xs.any f := idxF_any f d_Write xs
theorem ContainsFunc_string (xs : List Str) (f : Str → Bool) : g_slices_ContainsFunc_string xs f = xs.any f := idxF_any f d_Str xs
theorem Contains_string (xs : List Str) (y : Str) : g_slices_Contains_string xs y = xs.any (fun x => y == x) := idxF_any _ d_Str xs
theorem within_eq : i_within = s_l1In := rfl
theorem f_l1In {n lo hi : Int} (h : s_l1In n lo hi = true) : lo ≤ n ∧ n ≤ hi := by
  unfold s_l1In at h
  obtain ⟨h1, h2⟩ := of_cond_f h
  exact ⟨of_decide_eq_true h1, of_decide_eq_true h2⟩
theorem f_within {n lo hi : Int} (h : i_within n lo hi = true) : lo ≤ n ∧ n ≤ hi := f_l1In h
theorem indexByte_neg (l : List UInt8) (c : UInt8) : decide (Lib.indexByte l c < 0) = !(l.contains c) := by
  induction l with
  | nil => rfl
  | cons b l ih =>
    have hge := Lib.indexByte_ge l c
    rw [Bool.eq_iff_iff] at ih ⊢
    simp only [decide_eq_true_eq, Bool.not_eq_true', List.contains_cons] at ih ⊢
    unfold Lib.indexByte
    by_cases hb : b = c
    · subst hb; simp
    · have hb1 : (b == c) = false := by simpa using hb
      have hb2 : (c == b) = false := by simpa using fun h => hb h.symm
      rw [hb1, hb2]
      simp only [Bool.false_or, Bool.false_eq_true, if_false]
      split
      · rename_i h
        have : Lib.indexByte l c = -1 := by simpa using h
        rw [← ih]; omega
      · rename_i h
        have : Lib.indexByte l c ≠ -1 := by simpa using h
        constructor
        · intro h; omega
        · intro h; have := ih.2 h; omega
theorem byte_back (b : UInt8) : ((b.toNat : Int)).toNat.toUInt8 = b := by simp
theorem idxB_neg (s : Str) (b : UInt8) : decide (idxB s (b.toNat : Int) < 0) = !(s.contains b) := by
  unfold idxB
  rw [byte_back, indexByte_neg]
def byteOk (more : Str) (b : UInt8) : Bool := i_isLowerOrDigit (b.toNat : Int) || more.contains b
theorem hasBytes_eq (s more : Str) : i_hasBytes s more = s.all (byteOk more) := by
  unfold i_hasBytes
  rw [allE (0 : UInt8) (byteOk more) (r := false) fun k => by
    unfold B_i_hasBytes_0 byteOk g_strings_IndexByte g_internal_stringslite_IndexByte
    rw [idxB_neg]
    cases i_isLowerOrDigit ((s.getD k 0).toNat : Int) <;> cases more.contains (s.getD k 0) <;> rfl]
  cases s.all (byteOk more) <;> rfl
theorem toNat_eq (a b : UInt8) : decide ((a.toNat : Int) = (b.toNat : Int)) = (a == b) := by
  rw [Bool.eq_iff_iff, decide_eq_true_iff, beq_iff_eq]
  constructor
  · intro h; exact UInt8.toNat.inj (by omega)
  · intro h; rw [h]
theorem l3B1 {T : Type} (s more : Str) (k : Nat) (x0 : Bool) (fr : Bool → T) (fd : Bool → T) : loopE (loopM (B_s_l3Bytes_1 s more k) (more.length - 0) 0 x0) fr fd = fd (x0 || more.contains (s.getD k 0)) := by
  rw [orE (0 : UInt8) (fun b => (s.getD k 0) == b) fun j x => by
    unfold B_s_l3Bytes_1
    rw [toNat_eq]
    cases x <;> rfl]
  rw [List.contains_eq_any_beq]
theorem l3Bytes_eq (s more : Str) : s_l3Bytes s more = s.all (byteOk more) := by
  unfold s_l3Bytes
  rw [allE (0 : UInt8) (byteOk more) (r := false) fun k => by
    unfold B_s_l3Bytes_0 byteOk i_isLowerOrDigit
    simp only [l3B1]
    cases decide (97 ≤ ((s.getD k 0).toNat : Int)) <;> cases decide (((s.getD k 0).toNat : Int) ≤ 122) <;> cases decide (48 ≤ ((s.getD k 0).toNat : Int)) <;> cases decide (((s.getD k 0).toNat : Int) ≤ 57) <;> cases more.contains (s.getD k 0) <;> rfl]
  cases s.all (byteOk more) <;> rfl
theorem GoodKey_eq (s : Str) : i_GoodKey s = s_l3Key s := by
  unfold i_GoodKey s_l3Key
  rw [hasBytes_eq, l3Bytes_eq, within_eq]
theorem GoodVal_eq (s : Str) : i_GoodVal s = s_l3Val s := by
  unfold i_GoodVal s_l3Val
  rw [hasBytes_eq, l3Bytes_eq]

theorem writeKeys_eq (l : List DWrite) : i_writeKeys l = l.map (·.Key) := by
  unfold i_writeKeys
  rw [mapE (body := B_i_writeKeys_0 l) (xs := l) d_Write (fun w => w.Key) fun k x _ => rfl]
  rfl
def rising (ks : List Str) (k : Nat) : Bool := bif decide (0 < (k : Int)) then sLt (ks.getD ((IntKind.wrap .i64 ((k : Int) - 1)).toNat) d_Str) (ks.getD k d_Str) else true
theorem areRising_eq (ks : List Str) : i_areRising ks = (List.range ks.length).all fun k => s_l3Key (ks.getD k d_Str) && rising ks k := by
  unfold i_areRising
  rw [loopU (fun k => s_l3Key (ks.getD k d_Str) && rising ks k) (r := false) fun k _ => by
    unfold B_i_areRising_0 rising
    rw [GoodKey_eq, sLe_not]
    cases s_l3Key (ks.getD k d_Str) <;> cases decide (0 < (k : Int)) <;> cases sLt (ks.getD ((IntKind.wrap .i64 ((k : Int) - 1)).toNat) d_Str) (ks.getD k d_Str) <;> rfl]
  cases (List.range ks.length).all fun k => s_l3Key (ks.getD k d_Str) && rising ks k <;> rfl
theorem l3Writes_eq (l : List DWrite) : s_l3Writes l = (((List.range l.length).all fun k => s_l3Write ((l.getD k d_Write).Key) ((l.getD k d_Write).Val) ((l.getD k d_Write).Gone) && rising (l.map (·.Key)) k) && decide ((l.length : Int) ≤ 24)) := by
  have hg : ∀ k, (l.map (·.Key)).getD k d_Str = (l.getD k d_Write).Key := by
    intro k
    simp only [List.getD_eq_getElem?_getD, List.getElem?_map]
    cases l[k]? <;> rfl
  unfold s_l3Writes
  rw [loopU (fun k => s_l3Write ((l.getD k d_Write).Key) ((l.getD k d_Write).Val) ((l.getD k d_Write).Gone) && rising (l.map (·.Key)) k) (r := false) fun k _ => by
    unfold B_s_l3Writes_0 rising
    rw [hg, hg]
    cases s_l3Write ((l.getD k d_Write).Key) ((l.getD k d_Write).Val) ((l.getD k d_Write).Gone) <;> cases decide (0 < (k : Int)) <;> cases sLt (l.getD ((IntKind.wrap .i64 ((k : Int) - 1)).toNat) d_Write).Key (l.getD k d_Write).Key <;> rfl]
  cases ((List.range l.length).all fun k => s_l3Write ((l.getD k d_Write).Key) ((l.getD k d_Write).Val) ((l.getD k d_Write).Gone) && rising (l.map (·.Key)) k) <;> rfl
theorem and_all {α : Type} (l : List α) (p q : α → Bool) : (l.all p && l.all q) = l.all fun x => p x && q x := by
  induction l with
  | nil => rfl
  | cons x l ih =>
    simp only [List.all_cons, ← ih]
    cases p x <;> cases q x <;> cases l.all p <;> rfl
theorem isStored_eq (v : Str) (g : Bool) : i_isStored v g = (s_l3Val v && (!g || v == ([] : Str))) := by
  unfold i_isStored
  rw [GoodVal_eq]
  cases s_l3Val v <;> cases g <;> cases (v == ([] : Str)) <;> rfl
theorem l3Write_eq (k v : Str) (g : Bool) : s_l3Write k v g = (s_l3Key k && i_isStored v g) := by
  rw [isStored_eq]
  unfold s_l3Write
  cases s_l3Key k <;> cases s_l3Val v <;> cases g <;> cases (v == ([] : Str)) <;> rfl
theorem GoodWrites_eq (l : List DWrite) : i_GoodWrites l = s_l3Writes l := by
  have hg : ∀ k, (l.map (·.Key)).getD k d_Str = (l.getD k d_Write).Key := by
    intro k
    simp only [List.getD_eq_getElem?_getD, List.getElem?_map]
    cases l[k]? <;> rfl
  unfold i_GoodWrites
  rw [writeKeys_eq, areRising_eq, l3Writes_eq, ContainsFunc_Write, List.length_map]
  have h1 : (!(l.any fun y => i_GoodWrites_c1 y)) = (List.range l.length).all fun k => i_isStored (l.getD k d_Write).Val (l.getD k d_Write).Gone := by
    rw [List.not_any_eq_all_not, ← range_all d_Write]
    unfold i_GoodWrites_c1
    simp only [Bool.not_not]
  rw [h1]
  have h2 : ((List.range l.length).all fun k => s_l3Write ((l.getD k d_Write).Key) ((l.getD k d_Write).Val) ((l.getD k d_Write).Gone) && rising (l.map (·.Key)) k) = (((List.range l.length).all fun k => s_l3Key ((l.map (·.Key)).getD k d_Str) && rising (l.map (·.Key)) k) && (List.range l.length).all fun k => i_isStored (l.getD k d_Write).Val (l.getD k d_Write).Gone) := by
    rw [and_all]
    congr 1; funext k
    rw [l3Write_eq, hg]
    cases s_l3Key (l.getD k d_Write).Key <;> cases i_isStored (l.getD k d_Write).Val (l.getD k d_Write).Gone <;> cases rising (l.map (·.Key)) k <;> rfl
  rw [h2]
  cases decide ((l.length : Int) ≤ 24) <;> cases ((List.range l.length).all fun k => s_l3Key ((l.map (·.Key)).getD k d_Str) && rising (l.map (·.Key)) k) <;> cases ((List.range l.length).all fun k => i_isStored (l.getD k d_Write).Val (l.getD k d_Write).Gone) <;> rfl
theorem isRows_eq (l : List DWrite) : i_isRows l = (s_l3Writes l && l.all fun w => !w.Gone) := by
  unfold i_isRows
  rw [GoodWrites_eq, ContainsFunc_Write, List.not_any_eq_all_not]
  cases s_l3Writes l <;> rfl
theorem letters_eq : i_areLetters = s_l24Letters := by
  funext s m
  unfold i_areLetters s_l24Letters
  rfl
theorem isField_eq (s : Str) : i_isField s = s_l25Field s := by
  unfold i_isField s_l25Field
  rw [hasBytes_eq, l3Bytes_eq, within_eq]
theorem l25Good_eq (t : DTable) (r : DRow) : s_l25Good t r = (r.Vals.all s_l25Field && decide ((r.Vals.length : Int) = (t.Cols.length : Int))) := by
  unfold s_l25Good
  rw [allE d_Str s_l25Field (r := false) fun k => rfl]
  cases r.Vals.all s_l25Field <;> rfl
theorem isRow_eq (t : DTable) (r : DRow) : i_Table_isRow t r = s_l25Good t r := by
  rw [l25Good_eq]
  unfold i_Table_isRow
  rw [ContainsFunc_string, List.not_any_eq_all_not]
  unfold i_Table_isRow_c1
  simp only [Bool.not_not, isField_eq]
  cases decide ((r.Vals.length : Int) = (t.Cols.length : Int)) <;> cases (r.Vals.all fun x => s_l25Field x) <;> rfl
theorem l24At_neg (l : List Str) (s : Str) : decide (0 ≤ s_l24At l s) = l.any fun x => x == s := by
  have : s_l24At l s = idxF (fun x => x == s) d_Str l := rfl
  rw [this, idxF_any]
def colOk (l : List Str) (k : Nat) : Bool := s_l24Letters (l.getD k d_Str) 3 && !((l.take k).any fun x => x == l.getD k d_Str)
theorem l24Cols_eq (l : List Str) : s_l24Cols l = ((List.range l.length).all (colOk l) && s_l1In (l.length : Int) 2 4) := by
  unfold s_l24Cols
  rw [loopU (colOk l) (r := false) fun k _ => by
    unfold B_s_l24Cols_0 colOk
    rw [l24At_neg]
    cases s_l24Letters (l.getD k d_Str) 3 <;> cases ((l.take k).any fun x => x == l.getD k d_Str) <;> rfl]
  cases (List.range l.length).all (colOk l) <;> rfl
theorem GoodTable_eq (t : DTable) : i_GoodTable t = s_GoodTable t := by
  unfold i_GoodTable s_GoodTable
  rw [l24Cols_eq, letters_eq, within_eq]
  rw [loopU (colOk t.Cols) (r := false) fun k _ => by
    unfold B_i_GoodTable_0 colOk
    rw [Contains_string, letters_eq]
    rw [show ((t.Cols.take k).any fun x => t.Cols.getD k d_Str == x) = ((t.Cols.take k).any fun x => x == t.Cols.getD k d_Str) by congr 1; funext x; rw [Bool.beq_comm]]
    cases s_l24Letters (t.Cols.getD k d_Str) 3 <;> cases ((t.Cols.take k).any fun x => x == t.Cols.getD k d_Str) <;> rfl]
  have hb : B_i_GoodTable_1 t = B_s_GoodTable_0 t := by
    funext k u
    unfold B_i_GoodTable_1 B_s_GoodTable_0 i_isStage
    rw [letters_eq, within_eq, sLe_not]
    cases s_l24Letters ((t.Idxs.getD k d_Idx).Name) 1 <;> cases s_l1In ((t.Idxs.getD k d_Idx).Col) 1 (IntKind.wrap .i64 ((t.Cols.length : Int) - 1)) <;> cases s_l1In ((t.Idxs.getD k d_Idx).Stage) 0 3 <;> cases decide (0 < (k : Int)) <;> cases sLt ((t.Idxs.getD ((IntKind.wrap .i64 ((k : Int) - 1)).toNat) d_Idx).Name) ((t.Idxs.getD k d_Idx).Name) <;> rfl
  rw [hb]
  cases s_l24Letters t.Name 1 <;> cases s_l1In (t.Cols.length : Int) 2 4 <;> cases decide (3 < (t.Idxs.length : Int)) <;> cases (List.range t.Cols.length).all (colOk t.Cols) <;> rfl
theorem GoodRow_eq (t : DTable) (r : DRow) : i_GoodRow t r = s_GoodRow t r := by
  unfold i_GoodRow s_GoodRow
  rw [GoodTable_eq, isRow_eq]
theorem f_s_GoodTable {t : DTable} (h : s_GoodTable t = true) : 2 ≤ (t.Cols.length : Int) ∧ (t.Cols.length : Int) ≤ 4 ∧ (t.Idxs.length : Int) ≤ 3 := by
  unfold s_GoodTable at h
  obtain ⟨_, h⟩ := of_cond_f h
  obtain ⟨h1, h⟩ := of_cond_f h
  rw [l24Cols_eq, Bool.and_eq_true] at h1
  have h2 := f_l1In h1.2
  refine ⟨h2.1, h2.2, ?_⟩
  cases h3 : decide (3 < (t.Idxs.length : Int))
  · have := of_decide_eq_false h3; omega
  · rw [h3] at h; cases h
theorem f_i_GoodTable {t : DTable} (h : i_GoodTable t = true) : 2 ≤ (t.Cols.length : Int) ∧ (t.Cols.length : Int) ≤ 4 ∧ (t.Idxs.length : Int) ≤ 3 := f_s_GoodTable (GoodTable_eq t ▸ h)
theorem f_s_l25Good' {t : DTable} {r : DRow} (h : s_l25Good t r = true) : r.Vals.length = t.Cols.length := by
  rw [l25Good_eq, Bool.and_eq_true] at h
  have := of_decide_eq_true h.2
  omega
theorem findIdx_eq (t : DTable) (s : Str) : i_Table_findIdx t s = s_l24Idx t s := by
  unfold i_Table_findIdx
  rw [IndexFunc_Idx]
  rfl
theorem l24Idx_idxF (t : DTable) (n : Str) : s_l24Idx t n = idxF (fun y => i_Table_findIdx_c1 y n) d_Idx t.Idxs := rfl
theorem l24Idx_spec (t : DTable) (n : Str) : (s_l24Idx t n = -1 ∧ ∀ x ∈ t.Idxs, x.Name ≠ n) ∨ ∃ (k : Nat) (_ : k < t.Idxs.length), s_l24Idx t n = (k : Int) ∧ (t.Idxs.getD k d_Idx).Name = n ∧ ∀ j, j < k → (t.Idxs.getD j d_Idx).Name ≠ n := by
  rw [l24Idx_idxF]
  rcases idxF_spec (fun y => i_Table_findIdx_c1 y n) d_Idx t.Idxs with ⟨h1, h2⟩ | ⟨k, hk, h1, h2, h3⟩
  · exact .inl ⟨h1, fun x hx e => by have := h2 x hx; unfold i_Table_findIdx_c1 at this; rw [e, beq_self_eq_true] at this; cases this⟩
  · refine .inr ⟨k, hk, h1, ?_, fun j hj e => ?_⟩
    · rw [getD_eq hk]; unfold i_Table_findIdx_c1 at h2; exact eq_of_beq h2
    · have := h3 j hj; rw [getD_eq (by omega)] at e; unfold i_Table_findIdx_c1 at this; rw [e, beq_self_eq_true] at this; cases this
theorem rf_s_l24Idx (t : DTable) (n : Str) : -1 ≤ s_l24Idx t n ∧ s_l24Idx t n < (t.Idxs.length : Int) := by
  rcases l24Idx_spec t n with ⟨h, _⟩ | ⟨k, hk, h, _⟩ <;> omega
theorem rf_i_findIdx (t : DTable) (n : Str) : -1 ≤ i_Table_findIdx t n ∧ i_Table_findIdx t n < (t.Idxs.length : Int) := by rw [findIdx_eq]; exact rf_s_l24Idx t n
def idxOk (t : DTable) (k : Nat) : Bool := s_l24Letters (t.Idxs.getD k d_Idx).Name 1 && s_l1In (t.Idxs.getD k d_Idx).Col 1 (IntKind.wrap .i64 ((t.Cols.length : Int) - 1)) && s_l1In (t.Idxs.getD k d_Idx).Stage 0 3 && bif decide (0 < (k : Int)) then sLt (t.Idxs.getD ((IntKind.wrap .i64 ((k : Int) - 1)).toNat) d_Idx).Name (t.Idxs.getD k d_Idx).Name else true
theorem s_GoodTable_eq (t : DTable) : s_GoodTable t = (s_l24Letters t.Name 1 && s_l24Cols t.Cols && decide (t.Idxs.length ≤ 3) && (List.range t.Idxs.length).all (idxOk t)) := by
  unfold s_GoodTable
  rw [loopU (idxOk t) (r := false) fun k _ => by
    unfold B_s_GoodTable_0 idxOk
    cases s_l24Letters (t.Idxs.getD k d_Idx).Name 1 <;> cases s_l1In (t.Idxs.getD k d_Idx).Col 1 (IntKind.wrap .i64 ((t.Cols.length : Int) - 1)) <;> cases s_l1In (t.Idxs.getD k d_Idx).Stage 0 3 <;> cases decide (0 < (k : Int)) <;> cases sLt (t.Idxs.getD ((IntKind.wrap .i64 ((k : Int) - 1)).toNat) d_Idx).Name (t.Idxs.getD k d_Idx).Name <;> rfl]
  have e : decide (t.Idxs.length ≤ 3) = !decide (3 < (t.Idxs.length : Int)) := by
    by_cases h : t.Idxs.length ≤ 3
    · rw [decide_eq_true h, decide_eq_false (by omega)]; rfl
    · rw [decide_eq_false h, decide_eq_true (by omega)]; rfl
  rw [e]
  cases s_l24Letters t.Name 1 <;> cases s_l24Cols t.Cols <;> cases decide (3 < (t.Idxs.length : Int)) <;> cases (List.range t.Idxs.length).all (idxOk t) <;> rfl
def letter (b : UInt8) : Bool := !decide ((b.toNat : Int) < 97) && !decide (122 < (b.toNat : Int))
theorem l24Letters_eq (s : Str) (m : Int) : s_l24Letters s m = (s.all letter && decide (1 ≤ (s.length : Int)) && decide ((s.length : Int) ≤ m)) := by
  unfold s_l24Letters
  rw [allE (0 : UInt8) letter (r := false) fun k => by
    unfold B_s_l24Letters_0 letter
    cases decide (((s.getD k 0).toNat : Int) < 97) <;> cases decide (122 < ((s.getD k 0).toNat : Int)) <;> rfl]
  cases s.all letter <;> cases decide (1 ≤ (s.length : Int)) <;> rfl
theorem letters_len {s : Str} {m : Int} (h : s_l24Letters s m = true) : 1 ≤ (s.length : Int) ∧ (s.length : Int) ≤ m := by
  rw [l24Letters_eq] at h
  simp only [Bool.and_eq_true, decide_eq_true_eq] at h
  exact ⟨h.1.2, h.2⟩
structure GoodT (t : DTable) : Prop where
  name : t.Name.length = 1
  cols : 2 ≤ t.Cols.length ∧ t.Cols.length ≤ 4
  idxs : t.Idxs.length ≤ 3
  idx : ∀ k, k < t.Idxs.length → (t.Idxs.getD k d_Idx).Name.length = 1 ∧ 1 ≤ (t.Idxs.getD k d_Idx).Col ∧ (t.Idxs.getD k d_Idx).Col < (t.Cols.length : Int) ∧ 0 ≤ (t.Idxs.getD k d_Idx).Stage ∧ (t.Idxs.getD k d_Idx).Stage ≤ 3
  rise : ∀ k, k + 1 < t.Idxs.length → (t.Idxs.getD k d_Idx).Name < (t.Idxs.getD (k + 1) d_Idx).Name
theorem GoodT.of {t : DTable} (h : s_GoodTable t = true) : GoodT t := by
  have hf := f_s_GoodTable h
  rw [s_GoodTable_eq] at h
  simp only [Bool.and_eq_true, decide_eq_true_eq, List.all_eq_true, List.mem_range] at h
  obtain ⟨⟨⟨h1, h2⟩, h3⟩, h4⟩ := h
  have h5 : ∀ k, k < t.Idxs.length → _ := fun k hk => h4 k hk
  unfold idxOk at h5
  simp only [Bool.and_eq_true] at h5
  refine ⟨by have := letters_len h1; omega, by omega, h3, fun k hk => ?_, fun k hk => ?_⟩
  · obtain ⟨⟨⟨a, b⟩, c⟩, d⟩ := h5 k hk
    have a := letters_len a
    have b := f_l1In b
    have c := f_l1In c
    rw [wrap_in (by omega)] at b
    omega
  · have d := (h5 (k + 1) hk).2
    rw [wrap_in (by omega), decide_eq_true (show 0 < ((k + 1 : Nat) : Int) by omega)] at d
    have e : (((k + 1 : Nat) : Int) - 1).toNat = k := by omega
    rw [e] at d
    exact (sLt_iff _ _).1 d
theorem f_i_hasIdx' {t : DTable} {n : Str} (h : i_hasIdx t n = true) : (2 ≤ (t.Cols.length : Int) ∧ (t.Cols.length : Int) ≤ 4 ∧ (t.Idxs.length : Int) ≤ 3) ∧ (0 ≤ i_Table_findIdx t n ∧ i_Table_findIdx t n < (t.Idxs.length : Int)) ∧ 1 ≤ (i_Table_idx t n).Col ∧ (i_Table_idx t n).Col < (t.Cols.length : Int) := by
  unfold i_hasIdx at h
  obtain ⟨h1, h2⟩ := of_cond_f h
  have h2 := of_decide_eq_true h2
  have h3 := rf_i_findIdx t n
  rw [GoodTable_eq] at h1
  have hg := GoodT.of h1
  refine ⟨f_s_GoodTable h1, ⟨h2, h3.2⟩, ?_⟩
  unfold i_Table_idx
  have := hg.idx (i_Table_findIdx t n).toNat (by omega)
  omega
theorem f_s_IdxAt' {t : DTable} {n : Str} (h : (s_IdxAt t n).2 = true) : (2 ≤ (t.Cols.length : Int) ∧ (t.Cols.length : Int) ≤ 4 ∧ (t.Idxs.length : Int) ≤ 3) ∧ (0 ≤ s_l24Idx t n ∧ s_l24Idx t n < (t.Idxs.length : Int)) ∧ 1 ≤ (s_IdxAt t n).1.Col ∧ (s_IdxAt t n).1.Col < (t.Cols.length : Int) := by
  unfold s_IdxAt at h ⊢
  cases h1 : s_GoodTable t
  · rw [h1] at h; cases h
  · rw [h1] at h
    simp only [cond_true] at h ⊢
    cases h2 : decide (s_l24Idx t n < 0)
    · simp only [cond_false]
      have h2 := of_decide_eq_false h2
      have h3 := rf_s_l24Idx t n
      have := (GoodT.of h1).idx (s_l24Idx t n).toNat (by omega)
      exact ⟨f_s_GoodTable h1, ⟨by omega, h3.2⟩, by omega⟩
    · rw [h2] at h; cases h
theorem hasIdx_eq (t : DTable) (n : Str) : i_hasIdx t n = (s_IdxAt t n).2 := by
  unfold i_hasIdx s_IdxAt
  rw [GoodTable_eq, findIdx_eq]
  cases s_GoodTable t
  · rfl
  · simp only [cond_true]
    by_cases h : s_l24Idx t n < 0
    · rw [decide_eq_true h, decide_eq_false (show ¬ 0 ≤ s_l24Idx t n by omega)]; rfl
    · rw [decide_eq_false h, decide_eq_true (show 0 ≤ s_l24Idx t n by omega)]; rfl
theorem IdxAt_fst {t : DTable} {n : Str} (h : (s_IdxAt t n).2 = true) : (s_IdxAt t n).1 = i_Table_idx t n ∧ (i_Table_idx t n).Name = n := by
  have hf := f_s_IdxAt' h
  unfold s_IdxAt at h ⊢
  unfold i_Table_idx
  cases h1 : s_GoodTable t
  · rw [h1] at h; cases h
  · simp only [cond_true]
    rw [decide_eq_false (show ¬ s_l24Idx t n < 0 by omega), findIdx_eq]
    refine ⟨rfl, ?_⟩
    rcases l24Idx_spec t n with ⟨h, _⟩ | ⟨k, hk, h, h', _⟩
    · omega
    · rw [h]; exact h'
theorem rf_idxHead (t : DTable) (n : Str) : (i_Table_idxHead t n).length = t.Name.length + n.length + 2 := by
  unfold i_Table_idxHead
  simp only [lN]; omega
def rowShort (r : DRow) : Prop := ∀ v ∈ r.Vals, v.length ≤ 3
theorem rowShort.getD {r : DRow} (h : rowShort r) (k : Nat) : (r.Vals.getD k d_Str).length ≤ 3 := by
  rcases Nat.lt_or_ge k r.Vals.length with hk | hk
  · exact h _ (getD_mem hk)
  · rw [List.getD_eq_getElem?_getD, List.getElem?_eq_none hk]; exact Nat.zero_le _
theorem okS_idxKey {t : DTable} {n : Str} {r : DRow} (h : t.Name.length ≤ 1 ∧ n.length ≤ 1) (hr : rowShort r) {a b : Nat} : okS ((((i_Table_idxHead t n) ++ (r.Vals.getD a d_Str)) ++ ([47] : Str)) ++ (r.Vals.getD b d_Str)) := by
  have h1 := rf_idxHead t n
  have h2 := hr.getD a
  have h3 := hr.getD b
  unfold okS
  simp only [lN]; omega
theorem okS_l25Entry {t : DTable} {x : DIdx} {r : DRow} (h : t.Name.length ≤ 1 ∧ x.Name.length ≤ 1) (hr : rowShort r) {a b : Nat} : okS ((((((t.Name ++ ([46] : Str)) ++ x.Name) ++ ([47] : Str)) ++ (r.Vals.getD a d_Str)) ++ ([47] : Str)) ++ (r.Vals.getD b d_Str)) := by
  have h2 := hr.getD a
  have h3 := hr.getD b
  unfold okS
  simp only [lN]; omega
theorem field_len {s : Str} (h : s_l25Field s = true) : 1 ≤ (s.length : Int) ∧ (s.length : Int) ≤ 3 := by
  unfold s_l25Field at h
  exact f_l1In (of_cond_f h).1
theorem f_s_l25Good {t : DTable} {r : DRow} (h : s_l25Good t r = true) : r.Vals.length = t.Cols.length ∧ rowShort r := by
  refine ⟨f_s_l25Good' h, fun v hv => ?_⟩
  rw [l25Good_eq, Bool.and_eq_true] at h
  have := field_len (List.all_eq_true.1 h.1 v hv)
  omega
theorem f_i_isRow {t : DTable} {r : DRow} (h : i_Table_isRow t r = true) : r.Vals.length = t.Cols.length ∧ rowShort r := f_s_l25Good (isRow_eq t r ▸ h)
theorem f_s_GoodRow {t : DTable} {r : DRow} (h : s_GoodRow t r = true) : (r.Vals.length = t.Cols.length ∧ 2 ≤ (t.Cols.length : Int) ∧ (t.Cols.length : Int) ≤ 4 ∧ (t.Idxs.length : Int) ≤ 3) ∧ t.Name.length = 1 ∧ rowShort r := by
  unfold s_GoodRow at h
  obtain ⟨h1, h2⟩ := of_cond_f h
  exact ⟨⟨(f_s_l25Good h2).1, f_s_GoodTable h1⟩, (GoodT.of h1).name, (f_s_l25Good h2).2⟩
theorem f_i_GoodRow {t : DTable} {r : DRow} (h : i_GoodRow t r = true) : (r.Vals.length = t.Cols.length ∧ 2 ≤ (t.Cols.length : Int) ∧ (t.Cols.length : Int) ≤ 4 ∧ (t.Idxs.length : Int) ≤ 3) ∧ t.Name.length = 1 ∧ rowShort r := f_s_GoodRow (GoodRow_eq t r ▸ h)
theorem f_i_hasIdx {t : DTable} {n : Str} (h : i_hasIdx t n = true) : (2 ≤ (t.Cols.length : Int) ∧ (t.Cols.length : Int) ≤ 4 ∧ (t.Idxs.length : Int) ≤ 3) ∧ (0 ≤ i_Table_findIdx t n ∧ i_Table_findIdx t n < (t.Idxs.length : Int)) ∧ 1 ≤ (i_Table_idx t n).Col ∧ (i_Table_idx t n).Col < (t.Cols.length : Int) ∧ 0 ≤ (i_Table_idx t n).Stage ∧ (i_Table_idx t n).Stage ≤ 3 ∧ t.Name.length = 1 ∧ n.length = 1 := by
  have h0 := f_i_hasIdx' h
  unfold i_hasIdx at h
  obtain ⟨h1, h2⟩ := of_cond_f h
  rw [GoodTable_eq] at h1
  have hg := GoodT.of h1
  have h3 := IdxAt_fst (t := t) (n := n) (by unfold s_IdxAt; rw [h1, cond_true, decide_eq_false (by have := of_decide_eq_true h2; rw [findIdx_eq] at this; omega)]; rfl)
  refine ⟨h0.1, h0.2.1, h0.2.2.1, h0.2.2.2, ?_⟩
  have h4 := hg.idx (i_Table_findIdx t n).toNat (by omega)
  have h5 : (t.Idxs.getD (i_Table_findIdx t n).toNat d_Idx).Name = n := h3.2
  rw [h5] at h4
  unfold i_Table_idx
  exact ⟨h4.2.2.2.1, h4.2.2.2.2, hg.name, h4.1⟩
theorem idx_eq (t : DTable) (n : Str) : i_Table_idx t n = t.Idxs.getD (s_l24Idx t n).toNat d_Idx := by unfold i_Table_idx; rw [findIdx_eq]
theorem l5Rows_eq (l : List DWrite) : s_l5Rows l = i_isRows l := by
  rw [isRows_eq]
  unfold s_l5Rows
  rw [allE d_Write (fun w => !w.Gone) (r := false) fun k => by
    unfold B_s_l5Rows_0
    cases (l.getD k d_Write).Gone <;> rfl]
  cases s_l3Writes l <;> cases (l.all fun w => !w.Gone) <;> rfl
theorem hasIdx_iff (t : DTable) (n : Str) : i_hasIdx t n = true ↔ s_GoodTable t = true ∧ 0 ≤ s_l24Idx t n := by
  unfold i_hasIdx
  rw [GoodTable_eq, findIdx_eq]
  constructor
  · intro h
    obtain ⟨h1, h2⟩ := of_cond_f h
    exact ⟨h1, of_decide_eq_true h2⟩
  · rintro ⟨h1, h2⟩
    rw [h1, decide_eq_true h2]; rfl
theorem l3Key_len {s : Str} (h : s_l3Key s = true) : s.length ≤ 12 := by
  unfold s_l3Key at h
  have := f_l1In (of_cond_f h).1
  omega
theorem l3Val_len {s : Str} (h : s_l3Val s = true) : s.length ≤ 24 := by
  unfold s_l3Val at h
  have := of_decide_eq_true (of_cond_f h).1
  omega
theorem l3Write_len {k v : Str} {g : Bool} (h : s_l3Write k v g = true) : k.length ≤ 12 ∧ v.length ≤ 24 := by
  rw [l3Write_eq, isStored_eq] at h
  simp only [Bool.and_eq_true] at h
  exact ⟨l3Key_len h.1, l3Val_len h.2.1⟩
theorem f_l3Writes {l : List DWrite} (h : s_l3Writes l = true) : l.length ≤ 24 ∧ ∀ k, k < l.length → (l.getD k d_Write).Key.length ≤ 12 ∧ (l.getD k d_Write).Val.length ≤ 24 := by
  rw [l3Writes_eq, Bool.and_eq_true, decide_eq_true_eq] at h
  refine ⟨by omega, fun k hk => ?_⟩
  have := List.all_eq_true.1 h.1 k (List.mem_range.2 hk)
  rw [Bool.and_eq_true] at this
  exact l3Write_len this.1
theorem Index_one (s : Str) (c : UInt8) : g_internal_stringslite_Index s [c] = Lib.indexByte s c := by
  unfold g_internal_stringslite_Index g_internal_stringslite_IndexByte idxB
  have h : ((([c] : Str).getD 0 0).toNat : Int).toNat.toUInt8 = c := by simp
  rw [h]
  cases hc : ([c] : Str) == s
  · rfl
  · have : s = [c] := (eq_of_beq hc).symm
    subst this
    simp [Lib.indexByte]
theorem rf_Index {s sub : Str} (h : sub.length = 1) : -1 ≤ g_internal_stringslite_Index s sub ∧ g_internal_stringslite_Index s sub ≤ (s.length : Int) - 1 := by
  match sub, h with
  | [c], _ =>
    rw [Index_one]
    rcases indexByte_split c s with ⟨_, h2⟩ | ⟨a, r, h1, _, h3⟩
    · rw [h2]; omega
    · rw [h3, h1]; simp only [List.length_append, List.length_cons]; omega
theorem f_Cut {s sub : Str} (o : okS s) (h : sub.length = 1) (hd : decide (0 ≤ g_internal_stringslite_Index s sub) = true) : 0 ≤ IntKind.wrap .i64 ((g_internal_stringslite_Index s sub) + (sub.length : Int)) ∧ IntKind.wrap .i64 ((g_internal_stringslite_Index s sub) + (sub.length : Int)) ≤ (s.length : Int) := by
  have h1 := of_decide_eq_true hd
  have h2 := rf_Index (s := s) h
  unfold okS at o
  rw [h, wrap_in (by omega)]
  omega
theorem f_HasPrefix {s p : Str} (h : g_internal_stringslite_HasPrefix s p = true) : p.length ≤ s.length := by
  unfold g_internal_stringslite_HasPrefix at h
  have := of_decide_eq_true (of_cond_f h).1
  omega
theorem f_isIdxStore {t : DTable} {n : Str} {l : List DWrite} (h : i_isIdxStore t n l = true) : t.Name.length ≤ 1 ∧ n.length ≤ 1 := by
  unfold i_isIdxStore at h
  have := f_i_hasIdx (of_cond_f h).1
  omega
theorem okS_idxHead {t : DTable} {n : Str} (h : t.Name.length ≤ 1 ∧ n.length ≤ 1) : okS (i_Table_idxHead t n) := by
  have := rf_idxHead t n
  unfold okS; omega
theorem okS_l1Split {s : Str} (h : okS s) (b : Int) (i : Nat) : okS ((s_l1Split s b).getD i d_Str) := by
  have hh : ∀ x ∈ s_l1Split s b, okS x := by
    unfold s_l1Split
    refine loopM_val (fun _ (p : List Str × Int) => ∀ x ∈ p.1, okS x) (fun (v : List Str) => ∀ x ∈ v, okS x) (fun _ h => by cases h) ?_ ?_
    · rintro ⟨x, a⟩ hx y hy
      rcases List.mem_append.1 hy with hy | hy
      · exact hx y hy
      · rw [List.mem_singleton.1 hy]; exact h.drop _
    · rintro j ⟨x, a⟩ _ _ hx
      unfold B_s_l1Split_0
      dsimp only
      cases decide (((s.getD j 0).toNat : Int) = b)
      · exact hx
      · intro y hy
        rcases List.mem_append.1 hy with hy | hy
        · exact hx y hy
        · rw [List.mem_singleton.1 hy]; exact (h.take _).drop _
  rw [List.getD_eq_getElem?_getD]
  cases h1 : (s_l1Split s b)[i]? with
  | none => exact ok_d_Str
  | some x => exact hh x (List.mem_of_getElem? h1)

theorem l1Split_sp (s : Str) (b : UInt8) : s_l1Split s (b.toNat : Int) = sp b s := by
  unfold s_l1Split
  refine loopM_val (fun k (p : List Str × Int) => 0 ≤ p.2 ∧ p.2.toNat ≤ k ∧ b ∉ (s.take k).drop p.2.toNat ∧ p.1 ++ sp b (s.drop p.2.toNat) = sp b s) (fun (v : List Str) => v = sp b s) ⟨by omega, by simp, by simp, by simp⟩ ?_ ?_
  · rintro ⟨x, a⟩ ⟨h1, h2, h3, h4⟩
    dsimp only at h1 h2 h3 h4 ⊢
    rw [show s.take (0 + (s.length - 0)) = s from by rw [List.take_of_length_le (by omega)]] at h3
    rw [sp_none h3] at h4
    exact h4
  · rintro j ⟨x, a⟩ _ hj ⟨h1, h2, h3, h4⟩
    have hj' : j < s.length := by omega
    unfold B_s_l1Split_0
    dsimp only at h1 h2 h3 h4 ⊢
    have ht : (s.take (j + 1)).drop a.toNat = (s.take j).drop a.toNat ++ [s.getD j 0] := by
      rw [getD_eq hj', List.take_succ_eq_append_getElem hj', List.drop_append_of_le_length (by rw [List.length_take]; omega)]
    have hd : s.drop a.toNat = (s.take j).drop a.toNat ++ s.getD j 0 :: s.drop (j + 1) := by
      conv => lhs; rw [← List.take_append_drop j s]
      rw [List.drop_append_of_le_length (by rw [List.length_take]; omega), getD_eq hj', List.drop_eq_getElem_cons hj']
    rw [toNat_eq]
    cases hc : s.getD j 0 == b
    · refine ⟨h1, by omega, ?_, h4⟩
      rw [ht]
      intro hm
      rcases List.mem_append.1 hm with hm | hm
      · exact h3 hm
      · rw [← List.mem_singleton.1 hm] at hc; simp at hc
    · have hb : s.getD j 0 = b := eq_of_beq hc
      refine ⟨by omega, by simp, by simp, ?_⟩
      rw [hd, hb, sp_some h3] at h4
      rw [← h4, List.append_assoc]
      show x ++ ([_] ++ sp b (s.drop _)) = _
      rw [show (((j + 1 : Nat) : Int)).toNat = j + 1 from by simp]
      rfl
theorem Cut_none {s : Str} {c : UInt8} (h : c ∉ s) : (g_strings_Cut s [c]).2.2 = false := by
  have h1 : g_internal_stringslite_Index s [c] = -1 := by
    rw [Index_one]
    rcases indexByte_split c s with ⟨_, h2⟩ | ⟨a, r, h2, _, _⟩
    · exact h2
    · rw [h2] at h; simp at h
  unfold g_strings_Cut g_internal_stringslite_Cut
  rw [h1]; rfl
theorem Cut_some {a r : Str} {c : UInt8} (h : c ∉ a) (hl : a.length ≤ 1073741824) : g_strings_Cut (a ++ c :: r) [c] = (a, r, true) := by
  have h1 : g_internal_stringslite_Index (a ++ c :: r) [c] = (a.length : Int) := by
    rw [Index_one]
    rcases indexByte_split c (a ++ c :: r) with ⟨h2, _⟩ | ⟨a', r', h2, h3, h4⟩
    · simp at h2
    · have : a' :: sp c r' = a :: sp c r := by rw [← sp_some h3, ← sp_some h, h2]
      rw [h4, (List.cons.inj this).1]
  unfold g_strings_Cut g_internal_stringslite_Cut
  rw [h1, decide_eq_true (by omega)]
  simp only [cond_true]
  rw [wrap_in (by simp only [List.length_cons, List.length_nil]; omega)]
  have h2 : ((a.length : Int)).toNat = a.length := by simp
  have h3 : ((a.length : Int) + (([c] : Str).length : Int)).toNat = a.length + 1 := by simp only [List.length_cons, List.length_nil]; omega
  rw [h2, h3]
  simp
theorem slash_field {s : Str} (h : s_l25Field s = true) : (47 : UInt8) ∉ s := by
  unfold s_l25Field at h
  obtain ⟨_, h2⟩ := of_cond_f h
  rw [l3Bytes_eq, List.all_eq_true] at h2
  intro hm
  exact absurd (h2 _ hm) (by decide)
theorem CutPrefix_iff (k p : Str) : (g_strings_CutPrefix k p).2 = p.isPrefixOf k ∧ ((g_strings_CutPrefix k p).2 = true → (g_strings_CutPrefix k p).1 = k.drop p.length) := by
  have h : g_internal_stringslite_HasPrefix k p = p.isPrefixOf k := by
    unfold g_internal_stringslite_HasPrefix
    by_cases hp : p <+: k
    · obtain ⟨r, rfl⟩ := hp
      rw [decide_eq_true (by rw [List.length_append]; omega), cond_true, List.take_left]
      simp
    · rw [show p.isPrefixOf k = false from by rw [Bool.eq_false_iff]; intro e; exact hp (List.isPrefixOf_iff_prefix.1 e)]
      cases hd : decide ((p.length : Int) ≤ (k.length : Int))
      · rfl
      · rw [cond_true, beq_eq_false_iff_ne]
        intro e
        exact hp (e ▸ List.take_prefix ..)
  unfold g_strings_CutPrefix g_internal_stringslite_CutPrefix
  rw [h]
  cases p.isPrefixOf k <;> simp
theorem getD0 {α : Type} (x d : α) (xs : List α) : (x :: xs).getD 0 d = x := rfl
theorem getD1 {α : Type} (x y d : α) (xs : List α) : (x :: y :: xs).getD 1 d = y := rfl
theorem getD2 {α : Type} (x y z d : α) (xs : List α) : (x :: y :: z :: xs).getD 2 d = z := rfl
theorem len_ne {α : Type} {x y z : α} {xs : List α} (h : 0 < xs.length) : decide (((x :: y :: z :: xs).length : Int) = 3) = false := decide_eq_false (by simp only [List.length_cons]; omega)
theorem read_eq {t : DTable} {n k : Str} (hh : (47 : UInt8) ∉ (t.Name ++ ([46] : Str)) ++ n) (hk : k.length ≤ 1073741824) : i_Table_readIdxKey t n k = s_l25ReadEntry t n k := by
  have hsp : s_l1Split k 47 = sp 47 k := l1Split_sp k 47
  have hd : i_Table_idxHead t n = ((t.Name ++ ([46] : Str)) ++ n) ++ ([47] : Str) := rfl
  unfold i_Table_readIdxKey s_l25ReadEntry
  rw [hsp, hd]
  generalize (t.Name ++ ([46] : Str)) ++ n = hd at hh
  obtain ⟨hc1, hc2⟩ := CutPrefix_iff k (hd ++ ([47] : Str))
  rcases cut_dec 47 k with h47 | ⟨a, r, rfl, ha⟩
  · have hp : (g_strings_CutPrefix k (hd ++ ([47] : Str))).2 = false := by
      rw [hc1, Bool.eq_false_iff]; intro e
      obtain ⟨r, rfl⟩ := List.isPrefixOf_iff_prefix.1 e
      simp at h47
    rw [hp, sp_none h47]; rfl
  · rw [sp_some ha]
    by_cases e : a = hd
    · subst e
      have hp : (a ++ ([47] : Str)).isPrefixOf (a ++ 47 :: r) = true := List.isPrefixOf_iff_prefix.2 ⟨r, by simp⟩
      have hr : (g_strings_CutPrefix (a ++ 47 :: r) (a ++ ([47] : Str))).1 = r := by
        rw [hc2 (hc1.trans hp)]
        rw [show a ++ 47 :: r = (a ++ ([47] : Str)) ++ r from by simp, List.drop_left]
      rw [hc1.trans hp, hr, cond_true, getD0, beq_self_eq_true, cond_true]
      rcases cut_dec 47 r with h47 | ⟨b, u, rfl, hb⟩
      · rw [Cut_none h47, sp_none h47]; rfl
      · rw [Cut_some hb (by simp only [List.length_append, List.length_cons] at hk; omega), sp_some hb]
        rw [getD1]
        dsimp only
        rw [isField_eq, isField_eq, cond_true]
        rcases cut_dec 47 u with h47 | ⟨d, v, rfl, hdd⟩
        · rw [sp_none h47, getD2]; rfl
        · have hf : s_l25Field (d ++ 47 :: v) = false := by
            rw [Bool.eq_false_iff]; intro e; exact slash_field e (by simp)
          rw [sp_some hdd, len_ne (sp_ne 47 v), hf]
          cases s_l25Field b <;> rfl
    · have hp : (g_strings_CutPrefix (a ++ 47 :: r) (hd ++ ([47] : Str))).2 = false := by
        rw [hc1, Bool.eq_false_iff]; intro h
        obtain ⟨r', h'⟩ := List.isPrefixOf_iff_prefix.1 h
        rw [List.append_assoc] at h'
        have : hd :: sp 47 r' = a :: sp 47 r := by rw [← sp_some hh, ← sp_some ha, ← h']; rfl
        exact e (List.cons.inj this).1.symm
      have hg : ((a :: sp 47 r).getD 0 d_Str == hd) = false := by rw [getD0, beq_eq_false_iff_ne]; exact e
      rw [hp, hg]
      cases decide (((a :: sp 47 r).length : Int) = 3) <;> rfl
theorem slash_letters {s : Str} {m : Int} (h : s_l24Letters s m = true) : (47 : UInt8) ∉ s := by
  rw [l24Letters_eq, Bool.and_eq_true, Bool.and_eq_true, List.all_eq_true] at h
  intro hm
  exact absurd (h.1.1 _ hm) (by decide)
theorem slash_head {t : DTable} {n : Str} (h : i_hasIdx t n = true) : (47 : UInt8) ∉ (t.Name ++ ([46] : Str)) ++ n := by
  have h2 := IdxAt_fst (hasIdx_eq t n ▸ h)
  obtain ⟨h3, h4⟩ := (hasIdx_iff t n).1 h
  have h5 := rf_s_l24Idx t n
  rw [idx_eq] at h2
  rw [s_GoodTable_eq] at h3
  simp only [Bool.and_eq_true, List.all_eq_true, List.mem_range] at h3
  have h6 := h3.2 (s_l24Idx t n).toNat (by omega)
  unfold idxOk at h6
  simp only [Bool.and_eq_true] at h6
  have h7 := slash_letters h6.1.1.1
  rw [h2.2] at h7
  have h8 := slash_letters h3.1.1.1
  intro hm
  rcases List.mem_append.1 hm with hm | hm
  · rcases List.mem_append.1 hm with hm | hm
    · exact h8 hm
    · exact absurd (List.mem_singleton.1 hm) (by decide)
  · exact h7 hm
theorem loopM_congr {ρ σ : Type} {b b' : Nat → σ → Out ρ σ} : ∀ (n k : Nat) (s : σ), (∀ j s, k ≤ j → j < k + n → b j s = b' j s) → loopM b n k s = loopM b' n k s
  | 0, _, _, _ => rfl
  | n + 1, k, s, h => by
    have h1 := h k s (Nat.le_refl _) (by omega)
    have ih := fun s => loopM_congr n (k + 1) s fun j s h2 h3 => h j s (by omega) (by omega)
    simp only [loopM]
    rw [h1]
    cases b' k s with
    | ret r => rfl
    | brk s => rfl
    | cont s => exact ih s
theorem entries_eq {t : DTable} {n : Str} {l : List DWrite} (h : i_hasIdx t n = true) (hl : s_l3Writes l = true) : i_Table_entriesIn t n l = s_l25Entries t n l := by
  have hk := (f_l3Writes hl).2
  unfold i_Table_entriesIn s_l25Entries
  rw [loopM_congr (b := B_i_Table_entriesIn_0 t n l) (b' := B_s_l25Entries_0 t n l) _ _ _ fun j x _ hj => by
    unfold B_i_Table_entriesIn_0 B_s_l25Entries_0
    have := (hk j (by omega)).1
    rw [read_eq (slash_head h) (by omega)]]
theorem entries_len (t : DTable) (n : Str) (l : List DWrite) : (i_Table_entriesIn t n l).length ≤ l.length := by
  unfold i_Table_entriesIn
  refine loopM_val (fun k (x : List Str) => x.length ≤ k) (fun (v : List Str) => v.length ≤ l.length) (Nat.le_refl _) (fun s h => by omega) ?_
  intro j x _ _ hx
  unfold B_i_Table_entriesIn_0
  cases (i_Table_readIdxKey t n ((l.getD j d_Write).Key)).2.2
  · show x.length ≤ j + 1; omega
  · show (x ++ _).length ≤ j + 1
    rw [List.length_append]; simp only [List.length_cons, List.length_nil]; omega
theorem isRows_w {l : List DWrite} (h : i_isRows l = true) : s_l3Writes l = true := by
  rw [isRows_eq, Bool.and_eq_true] at h
  exact h.1
theorem EntriesIn_eq (t : DTable) (n : Str) (l : List DWrite) : i_EntriesIn t n l = s_EntriesIn t n l := by
  unfold i_EntriesIn s_EntriesIn i_isIdxStore s_l25Asked
  rw [l5Rows_eq]
  cases h : i_hasIdx t n
  · have h1 := mt (hasIdx_iff t n).2 (by rw [h]; exact Bool.false_ne_true)
    cases h2 : s_GoodTable t
    · rfl
    · rw [decide_eq_false (fun h3 => h1 ⟨h2, h3⟩)]; rfl
  · obtain ⟨h1, h2⟩ := (hasIdx_iff t n).1 h
    rw [h1, decide_eq_true h2]
    cases h3 : i_isRows l
    · rfl
    · rw [entries_eq h (isRows_w h3)]; rfl
theorem inter_cons (sep x y : Str) (zs : List Str) : sep.intercalate (x :: y :: zs) = x ++ (sep ++ sep.intercalate (y :: zs)) := by
  simp [List.intercalate, List.intersperse]
theorem inter_one (sep x : Str) : sep.intercalate [x] = x := by simp [List.intercalate]
theorem inter_concat (sep x : Str) : ∀ xs : List Str, 0 < xs.length → sep.intercalate (xs ++ [x]) = (sep.intercalate xs ++ sep) ++ x
  | [], h => by simp at h
  | [y], _ => by show sep.intercalate (y :: x :: []) = _; rw [inter_cons, inter_one, inter_one, List.append_assoc]
  | y :: z :: zs, _ => by
    show sep.intercalate (y :: z :: (zs ++ [x])) = _
    rw [inter_cons, show z :: (zs ++ [x]) = (z :: zs) ++ [x] from rfl, inter_concat sep x (z :: zs) (Nat.succ_pos _), inter_cons]
    simp only [List.append_assoc]
theorem inter_len : ∀ xs : List Str, (∀ x ∈ xs, x.length ≤ 3) → (([44] : Str).intercalate xs).length ≤ 4 * xs.length
  | [], _ => Nat.zero_le _
  | [x], h => by have := h x (by simp); rw [inter_one, List.length_singleton]; omega
  | x :: y :: zs, h => by
    have h1 := h x (by simp)
    have h2 := inter_len (y :: zs) fun z hz => h z (List.mem_cons_of_mem _ hz)
    rw [inter_cons, List.length_append, List.length_append, List.length_cons (as := y :: zs)]
    simp only [List.length_cons, List.length_nil] at h2 ⊢
    omega
theorem join_drop {r : DRow} (h : r.Vals.length ≤ 4) (hr : rowShort r) : (g_strings_Join (r.Vals.drop 1) ([44] : Str)).length ≤ 1073741824 := by
  have := inter_len (r.Vals.drop 1) fun x hx => hr x (List.mem_of_mem_drop hx)
  rw [List.length_drop] at this
  unfold g_strings_Join; omega
theorem Join_eq (xs : List Str) (sep : Str) : s_l24Join xs sep = g_strings_Join xs sep := by
  unfold s_l24Join g_strings_Join
  refine loopM_val (fun k (s : Str) => s = sep.intercalate (xs.take k)) (fun (v : Str) => v = sep.intercalate xs) rfl (fun s h => by rw [h, List.take_of_length_le (by omega)]) ?_
  intro j s _ hj hs
  have hj' : j < xs.length := by omega
  unfold B_s_l24Join_0
  dsimp only
  rw [List.take_succ_eq_append_getElem hj', getD_eq hj']
  by_cases h0 : 0 < j
  · rw [decide_eq_true (by omega), hs, inter_concat _ _ _ (by rw [List.length_take]; omega)]; rfl
  · have : j = 0 := by omega
    subst this
    rw [decide_eq_false (by omega), hs]
    show [] ++ _ = _
    simp [List.intercalate]
theorem rowWrite_eq (t : DTable) (r : DRow) : i_Table_rowWrite t r = s_l25Write t r := by
  unfold i_Table_rowWrite s_l25Write
  rw [Join_eq]
theorem f_i_isStage {s : Int} (h : i_isStage s = true) : 0 ≤ s ∧ s ≤ 3 := f_within h
theorem rf_l1Split (s : Str) (b : Int) : 1 ≤ (s_l1Split s b).length ∧ (s_l1Split s b).length ≤ s.length + 1 := by
  unfold s_l1Split
  refine loopM_val (fun k (p : List Str × Int) => p.1.length ≤ k) (fun (v : List Str) => 1 ≤ v.length ∧ v.length ≤ s.length + 1) (Nat.zero_le _) ?_ ?_
  · rintro ⟨x, a⟩ h1
    dsimp only at h1 ⊢
    rw [List.length_append, List.length_singleton]; omega
  · rintro j ⟨x, a⟩ _ hj h1
    dsimp only at h1
    unfold B_s_l1Split_0
    dsimp only
    cases decide (((s.getD j 0).toNat : Int) = b)
    · exact Nat.le_succ_of_le h1
    · show (x ++ _).length ≤ _
      rw [List.length_append, List.length_singleton]; omega
theorem rf_Split (s sep : Str) : 1 ≤ (g_strings_Split s sep).length ∧ (g_strings_Split s sep).length ≤ s.length + 1 := ⟨sp_ne _ _, sp_length _ _⟩
theorem comma_split (s : Str) : s_l1Split s 44 = sp 44 s := l1Split_sp s 44
theorem gt_name {t : DTable} (h : s_GoodTable t = true) : t.Name.length ≤ 1 := Nat.le_of_eq (GoodT.of h).name
theorem okS_nm {t : DTable} (h : t.Name.length ≤ 1) : okS (t.Name ++ ([47] : Str)) := by unfold okS; rw [List.length_append]; show t.Name.length + 1 ≤ _; omega

theorem good_one {t : DTable} {r : DRow} (h : s_l25Good t r = true) {v : Str} (hv : v ∈ r.Vals) : 1 ≤ v.length ∧ v.length ≤ 3 := by
  rw [l25Good_eq, Bool.and_eq_true] at h
  have := field_len (List.all_eq_true.1 h.1 v hv)
  omega
def rowIn (w : DWrite) : DRow := ⟨[w.Key.drop 2] ++ s_l1Split w.Val 44⟩
theorem Split_comma (s : Str) : g_strings_Split s ([44] : Str) = s_l1Split s 44 := (comma_split s).symm
theorem drop_pre {p s k : Str} (h : s = p ++ k) : p.isPrefixOf s = true := by subst h; simp
theorem l25Read_eq (t : DTable) (w : DWrite) : s_l25Read t w = bif decide ((w.Key.length : Int) < 3) then (⟨[]⟩, false) else (rowIn w, s_l25Good t (rowIn w) && (((t.Name ++ ([47] : Str)) ++ w.Key.drop 2 == w.Key) && (((s_l25Write t (rowIn w)).Val == w.Val) && (false == w.Gone)))) := by
  unfold s_l25Read
  cases decide ((w.Key.length : Int) < 3)
  · show (bif s_l25Good t (rowIn w) then _ else _) = _
    cases s_l25Good t (rowIn w) <;> rfl
  · rfl
theorem read_row {t : DTable} (hg : s_GoodTable t = true) (w : DWrite) : i_Table_readRow t w = bif (s_l25Read t w).2 then ((s_l25Read t w).1, true) else (⟨[]⟩, false) := by
  have hn := (GoodT.of hg).name
  have hpl : (t.Name ++ ([47] : Str)).length = 2 := by rw [List.length_append, hn]; rfl
  obtain ⟨c1, c2⟩ := CutPrefix_iff w.Key (t.Name ++ ([47] : Str))
  rw [hpl] at c2
  rw [l25Read_eq]
  unfold i_Table_readRow
  rw [c1]
  cases hp : (t.Name ++ ([47] : Str)).isPrefixOf w.Key
  · rw [cond_false]
    have hne : ((t.Name ++ ([47] : Str)) ++ w.Key.drop 2 == w.Key) = false := by
      cases hh : ((t.Name ++ ([47] : Str)) ++ w.Key.drop 2 == w.Key)
      · rfl
      · rw [drop_pre (eq_of_beq hh).symm] at hp; cases hp
    cases decide ((w.Key.length : Int) < 3)
    · rw [cond_false, hne, Bool.false_and, Bool.and_false]; rfl
    · rfl
  · rw [c1] at c2
    rw [cond_true, c2 hp, Split_comma]
    show (bif i_Table_isRow t (rowIn w) then _ else _) = _
    rw [isRow_eq]
    cases hgd : s_l25Good t (rowIn w)
    · cases decide ((w.Key.length : Int) < 3) <;> rfl
    · have h1 := good_one hgd (v := w.Key.drop 2) (List.mem_cons_self ..)
      rw [List.length_drop] at h1
      rw [decide_eq_false (by omega), cond_false, cond_true, Bool.true_and, rowWrite_eq]
      show (bif (w.Key == (t.Name ++ ([47] : Str)) ++ w.Key.drop 2) && ((w.Val == (s_l25Write t (rowIn w)).Val) && (w.Gone == false)) then _ else _) = _
      rw [BEq.comm (a := w.Key), BEq.comm (a := w.Val), BEq.comm (a := w.Gone)]
      rfl
theorem read_good {t : DTable} {w : DWrite} (h : (s_l25Read t w).2 = true) : s_l25Good t (s_l25Read t w).1 = true := by
  rw [l25Read_eq] at h ⊢
  cases hd : decide ((w.Key.length : Int) < 3) <;> rw [hd] at h
  · exact (Bool.and_eq_true _ _ ▸ h).1
  · cases h
theorem rowsIn_eq {t : DTable} (hg : s_GoodTable t = true) (l : List DWrite) : i_Table_rowsIn t l = s_l25Rows t l := by
  unfold i_Table_rowsIn s_l25Rows
  have : B_i_Table_rowsIn_0 t l = B_s_l25Rows_0 t l := by
    funext k x
    unfold B_i_Table_rowsIn_0 B_s_l25Rows_0
    rw [read_row hg]
    cases (s_l25Read t (l.getD k d_Write)).2 <;> rfl
  rw [this]
theorem rows_good (t : DTable) (l : List DWrite) : (s_l25Rows t l).length ≤ l.length ∧ ∀ y ∈ s_l25Rows t l, s_l25Good t y = true := by
  unfold s_l25Rows
  refine loopM_val (fun k (p : List DRow) => p.length ≤ k ∧ ∀ y ∈ p, s_l25Good t y = true) (fun (v : List DRow) => v.length ≤ l.length ∧ ∀ y ∈ v, s_l25Good t y = true) ⟨Nat.le_refl _, fun _ h => by cases h⟩ (fun s hs => ⟨by have := hs.1; omega, hs.2⟩) ?_
  intro j x _ _ ⟨h1, h2⟩
  unfold B_s_l25Rows_0
  dsimp only
  cases h : (s_l25Read t (l.getD j d_Write)).2
  · exact ⟨Nat.le_succ_of_le h1, h2⟩
  · refine ⟨by rw [List.length_append, List.length_singleton]; omega, fun y hy => ?_⟩
    rcases List.mem_append.1 hy with hy | hy
    · exact h2 y hy
    · rw [List.mem_singleton.1 hy]; exact read_good h
theorem RowsIn_eq (t : DTable) (l : List DWrite) : i_RowsIn t l = s_RowsIn t l := by
  unfold i_RowsIn s_RowsIn
  rw [GoodTable_eq, l5Rows_eq]
  cases hg : s_GoodTable t
  · rfl
  · rw [rowsIn_eq hg]
theorem rows_at (t : DTable) (l : List DWrite) {k : Nat} (hk : k < (s_l25Rows t l).length) : s_l25Good t ((s_l25Rows t l).getD k d_Row) = true := (rows_good t l).2 _ (by rw [getD_eq hk]; exact List.getElem_mem hk)
theorem rowsIn_mem {t : DTable} (hg : s_GoodTable t = true) {l : List DWrite} {y : DRow} (h : y ∈ i_Table_rowsIn t l) : s_l25Good t y = true := (rows_good t l).2 y (rowsIn_eq hg l ▸ h)
theorem key_eq {t : DTable} {n : Str} (h : i_hasIdx t n = true) (r : DRow) : i_Table_idxKey t n r = s_l25Entry t (t.Idxs.getD (s_l24Idx t n).toNat d_Idx) r := by
  obtain ⟨h1, h2⟩ := (hasIdx_iff t n).1 h
  have hn : (s_IdxAt t n).2 = true := by
    unfold s_IdxAt
    rw [h1, decide_eq_false (by omega)]; rfl
  rw [← idx_eq]
  unfold i_Table_idxKey s_l25Entry i_Table_idxHead
  rw [(IdxAt_fst hn).2]
theorem gt_idx {t : DTable} (h : s_GoodTable t = true) {k : Nat} (hk : k < t.Idxs.length) : 0 ≤ (t.Idxs.getD k d_Idx).Col ∧ (t.Idxs.getD k d_Idx).Col < (t.Cols.length : Int) ∧ 0 ≤ (t.Idxs.getD k d_Idx).Stage ∧ (t.Idxs.getD k d_Idx).Stage ≤ 3 ∧ (t.Idxs.getD k d_Idx).Name.length = 1 := by
  obtain ⟨a, b, c, d, e⟩ := (GoodT.of h).idx k hk
  exact ⟨by omega, c, d, e, a⟩
theorem hasIdx_good {t : DTable} {n : Str} (h : i_hasIdx t n = true) : s_GoodTable t = true := by
  unfold i_hasIdx at h
  rw [← GoodTable_eq]
  exact (of_cond_f h).1
theorem isIdxStore_has {t : DTable} {n : Str} {l : List DWrite} (h : i_isIdxStore t n l = true) : i_hasIdx t n = true := by
  unfold i_isIdxStore at h
  exact (of_cond_f h).1
theorem asked_good {t : DTable} {n : Str} {l : List DWrite} (h : s_l25Asked t n l = true) : s_GoodTable t = true := by
  unfold s_l25Asked at h
  exact (of_cond_f h).1
theorem idx_top (t : DTable) (n : Str) : s_l24Idx t n < (t.Idxs.length : Int) := by
  have h := rf_i_findIdx t n
  rw [findIdx_eq] at h
  exact h.2
theorem asked_idx {t : DTable} {n : Str} {l : List DWrite} (h : s_l25Asked t n l = true) : 0 ≤ s_l24Idx t n ∧ s_l24Idx t n < (t.Idxs.length : Int) := by
  unfold s_l25Asked at h
  exact ⟨of_decide_eq_true (of_cond_f (of_cond_f h).2).1, idx_top t n⟩
theorem rowsIn_at {t : DTable} {n : Str} (h : i_hasIdx t n = true) (l : List DWrite) {k : Nat} (hk : k < (i_Table_rowsIn t l).length) : ((i_Table_rowsIn t l).getD k d_Row).Vals.length = t.Cols.length ∧ rowShort ((i_Table_rowsIn t l).getD k d_Row) :=
  f_s_l25Good (rowsIn_mem (hasIdx_good h) (l := l) (getD_mem hk))
theorem rowsIn_len {t : DTable} {n : Str} (h : i_hasIdx t n = true) (l : List DWrite) : (i_Table_rowsIn t l).length ≤ l.length := rowsIn_eq (hasIdx_good h) l ▸ (rows_good t l).1
theorem rows_at' (t : DTable) (l : List DWrite) {k : Nat} (hk : k < (s_l25Rows t l).length) : ((s_l25Rows t l).getD k d_Row).Vals.length = t.Cols.length ∧ rowShort ((s_l25Rows t l).getD k d_Row) := f_s_l25Good (rows_at t l hk)
theorem ok_l25Entry {t : DTable} {x : DIdx} {r : DRow} (h : t.Name.length ≤ 1 ∧ x.Name.length ≤ 1) (hr : rowShort r) : okS (s_l25Entry t x r) := okS_l25Entry h hr
theorem keysIn_eq {t : DTable} {n : Str} (h : i_hasIdx t n = true) (l : List DWrite) : i_Table_keysIn t n l = s_l25Wanted t n l := by
  unfold i_Table_keysIn s_l25Wanted
  rw [rowsIn_eq (hasIdx_good h)]
  congr 1
  refine loopM_congr _ _ _ fun j s _ hj => ?_
  unfold B_i_Table_keysIn_0 B_s_l25Wanted_0
  rw [rowsIn_eq (hasIdx_good h), key_eq h]
theorem less_eq (l o : List Str) : s_l25Less l o = l.filter fun s => !(o.any fun x => x == s) := by
  unfold s_l25Less
  refine loopM_val (fun k (p : List Str) => p = (l.take k).filter fun s => !(o.any fun x => x == s)) (fun (v : List Str) => v = l.filter fun s => !(o.any fun x => x == s)) rfl (fun s h => by rw [h, List.take_of_length_le (by omega)]) ?_
  intro j s _ hj hs
  have hj' : j < l.length := by omega
  unfold B_s_l25Less_0
  dsimp only
  have e : decide (s_l24At o (l.getD j d_Str) < 0) = !(o.any fun x => x == l.getD j d_Str) := by
    rw [← l24At_neg]
    by_cases h : 0 ≤ s_l24At o (l.getD j d_Str)
    · rw [decide_eq_true h, decide_eq_false (by omega)]; rfl
    · rw [decide_eq_false h, decide_eq_true (by omega)]; rfl
  rw [e, List.take_succ_eq_append_getElem hj', List.filter_append, ← hs, ← getD_eq (d := d_Str) hj', List.filter_cons]
  cases (o.any fun x => x == l.getD j d_Str) <;> simp
theorem without_eq (l o : List Str) : i_without l o = s_l25Less l o := by
  rw [less_eq]
  unfold i_without g_slices_DeleteFunc_string
  have hc : g_slices_Clone_string l = l := rfl
  rw [hc]
  congr 1
  funext s
  unfold i_without_c1
  show (!g_slices_Contains_string o s) = _
  rw [Contains_string]
  congr 1
  congr 1
  funext x
  exact Bool.beq_comm
theorem orphansIn_eq {t : DTable} {n : Str} (h : i_hasIdx t n = true) {l : List DWrite} (h3 : i_isRows l = true) : i_Table_orphansIn t n l = s_l25Less (s_l25Entries t n l) (s_l25Wanted t n l) := by
  unfold i_Table_orphansIn
  rw [without_eq, keysIn_eq h, entries_eq h (isRows_w h3)]
theorem lacksIn_eq {t : DTable} {n : Str} (h : i_hasIdx t n = true) {l : List DWrite} (h3 : i_isRows l = true) : i_Table_lacksIn t n l = s_l25Less (s_l25Wanted t n l) (s_l25Entries t n l) := by
  unfold i_Table_lacksIn
  rw [without_eq, keysIn_eq h, entries_eq h (isRows_w h3)]
theorem OrphansIn_eq (t : DTable) (n : Str) (l : List DWrite) : i_OrphansIn t n l = s_OrphansIn t n l := by
  unfold i_OrphansIn s_OrphansIn i_isIdxStore s_l25Asked
  rw [l5Rows_eq]
  cases h : i_hasIdx t n
  · have h1 := mt (hasIdx_iff t n).2 (by rw [h]; exact Bool.false_ne_true)
    cases h2 : s_GoodTable t
    · rfl
    · rw [decide_eq_false (fun h3 => h1 ⟨h2, h3⟩)]; rfl
  · obtain ⟨h1, h2⟩ := (hasIdx_iff t n).1 h
    rw [h1, decide_eq_true h2]
    cases h3 : i_isRows l
    · rfl
    · rw [orphansIn_eq h h3]; rfl
theorem LacksIn_eq (t : DTable) (n : Str) (l : List DWrite) : i_LacksIn t n l = s_LacksIn t n l := by
  unfold i_LacksIn s_LacksIn i_isIdxStore s_l25Asked
  rw [l5Rows_eq]
  cases h : i_hasIdx t n
  · have h1 := mt (hasIdx_iff t n).2 (by rw [h]; exact Bool.false_ne_true)
    cases h2 : s_GoodTable t
    · rfl
    · rw [decide_eq_false (fun h3 => h1 ⟨h2, h3⟩)]; rfl
  · obtain ⟨h1, h2⟩ := (hasIdx_iff t n).1 h
    rw [h1, decide_eq_true h2]
    cases h3 : i_isRows l
    · rfl
    · rw [lacksIn_eq h h3]; rfl
theorem iand_u8 (a : Int) : 0 ≤ IntKind.wrap .i64 (iand .u64 a 255) ∧ IntKind.wrap .i64 (iand .u64 a 255) ≤ 255 := by
  have := iand_255 a
  rw [wrap_in (by omega)]; exact this
theorem getD_len {l : List Str} {m : Nat} (h : ∀ y ∈ l, y.length ≤ m) (k : Nat) : (l.getD k d_Str).length ≤ m := by
  rcases Nat.lt_or_ge k l.length with hk | hk
  · exact h _ (getD_mem hk)
  · rw [List.getD, List.getElem?_eq_none hk]; exact Nat.zero_le _
theorem of_len (m : Nat) (c : List Int) (s : Int × Int) (l : List Str) (h : ∀ y ∈ l, y.length ≤ m) : (u_of c s l).1.length ≤ m := by
  unfold u_of
  exact getD_len h _
theorem rf_row (c : List Int) (s : Int × Int) (t : DTable) (h : t.Cols.length ≤ 4) : (1 ≤ (u_row c s t).1.Vals.length ∧ (u_row c s t).1.Vals.length ≤ 4 ∧ (1 ≤ t.Cols.length → (u_row c s t).1.Vals.length = t.Cols.length)) ∧ rowShort (u_row c s t).1 := by
  unfold u_row
  refine loopW_val (fun (p : Int × Int × List Str) => (1 ≤ p.2.2.length ∧ (1 ≤ t.Cols.length → p.2.2.length ≤ t.Cols.length) ∧ p.2.2.length ≤ 4) ∧ ∀ v ∈ p.2.2, v.length ≤ 3) (fun (p : Int × Int × List Str) => t.Cols.length - p.2.2.length) (fun (v : DRow × (Int × Int)) => (1 ≤ v.1.Vals.length ∧ v.1.Vals.length ≤ 4 ∧ (1 ≤ t.Cols.length → v.1.Vals.length = t.Cols.length)) ∧ rowShort v.1) ?_ _ _ ⟨⟨Nat.le_refl _, fun h => h, Nat.le_of_ble_eq_true rfl⟩, fun v hv => ?_⟩ (Nat.lt_succ_self _)
  · rintro ⟨a, b, x⟩ ⟨h1, h2⟩
    unfold B_u_row_0
    dsimp only at h1 h2 ⊢
    by_cases hl : (x.length : Int) < (t.Cols.length : Int)
    · rw [decide_eq_true hl]
      dsimp only [cond_true, Out.sat]
      rw [List.length_append, List.length_singleton]
      refine ⟨⟨⟨by omega, by omega, by omega⟩, fun v hv => ?_⟩, by omega⟩
      rcases List.mem_append.1 hv with hv | hv
      · exact h2 v hv
      · rw [List.mem_singleton] at hv; subst hv
        exact of_len 3 _ _ _ (by decide)
    · rw [decide_eq_false hl]
      exact ⟨⟨h1.1, h1.2.2, fun h => by have := h1.2.1 h; show x.length = _; omega⟩, h2⟩
  · rw [List.mem_singleton] at hv; subst hv
    exact of_len 3 _ _ _ (by decide)
theorem rf_l25Write (t : DTable) (r : DRow) (h : t.Name.length ≤ 1) (hl : r.Vals.length ≤ 4) (hr : rowShort r) : (s_l25Write t r).Key.length ≤ 5 ∧ (s_l25Write t r).Val.length ≤ 16 := by
  unfold s_l25Write
  dsimp only
  rw [Join_eq]
  have h1 := inter_len (r.Vals.drop 1) fun x hx => hr x (List.mem_of_mem_drop hx)
  rw [List.length_drop] at h1
  have h2 := hr.getD 0
  simp only [lN]
  unfold g_strings_Join; omega
theorem ok_l25Write {t : DTable} {r : DRow} (h : t.Name.length ≤ 1) (hl : r.Vals.length ≤ 4) (hr : rowShort r) : ok_Write (s_l25Write t r) := by
  have := rf_l25Write t r h hl hr
  exact ⟨by unfold okS; omega, by unfold okS; omega⟩
def drawT (t : DTable) : Prop := t.Name.length ≤ 1 ∧ 2 ≤ t.Cols.length ∧ t.Cols.length ≤ 4 ∧ t.Idxs.length ≤ 3 ∧ ∀ k, k < t.Idxs.length → (t.Idxs.getD k d_Idx).Name.length ≤ 1 ∧ 0 ≤ (t.Idxs.getD k d_Idx).Col ∧ (t.Idxs.getD k d_Idx).Col < (t.Cols.length : Int)
theorem next_rng {c : List Int} (h : codeOk c) (s : Int × Int) : 0 ≤ (u_next c s).1 ∧ (u_next c s).1 ≤ 255 := by
  have h1 := codeOk_at h (s.1).toNat
  unfold u_next
  cases decide (s.1 < (c.length : Int))
  · cases decide ((IntKind.wrap .i64 (s.1 + 1)) ≤ (c.length : Int))
    · exact iand_u8 _
    · exact ⟨Int.le_refl _, (by decide : (0 : Int) ≤ 255)⟩
  · cases decide ((IntKind.wrap .i64 (s.1 + 1)) ≤ (c.length : Int))
    · exact iand_u8 _
    · show 0 ≤ IntKind.wrap .i64 (c.getD ((s.1).toNat) d_U8) ∧ IntKind.wrap .i64 (c.getD ((s.1).toNat) d_U8) ≤ 255
      rw [wrap_in (by omega)]; exact h1
theorem pick_rng {c : List Int} (h : codeOk c) (s : Int × Int) {n : Int} (h1 : 1 ≤ n) (h2 : n ≤ 200) : 0 ≤ (u_pick c s n).1 ∧ (u_pick c s n).1 < n := by
  have h3 := next_rng h s
  unfold u_pick
  by_cases h4 : n ≤ 1
  · rw [decide_eq_true h4]; exact ⟨Int.le_refl _, h1⟩
  · rw [decide_eq_false h4, cond_false, decide_eq_false (by omega), cond_false]
    have := tmod_rng (a := (u_next c s).1) (b := n) h3.1 (by omega)
    exact ⟨this.1, this.2.1⟩
def idxForm (c : List Int) (T : Int) (x3 : List DIdx) (j : Nat) (o : Out (DTable × (Int × Int)) (Int × Int × (List DIdx))) : Prop :=
  ∃ x', o = .cont x' ∧ (x'.2.2 = x3 ∨ ∃ s' m, x'.2.2 = x3 ++ [(⟨([[105], [106], [109]] : List Str).getD j d_Str, IntKind.wrap .i64 (1 + (u_pick c s' (IntKind.wrap .i64 (T - 1))).1), m⟩ : DIdx)])
theorem bif_P {α : Type} {P : α → Prop} {b : Bool} {x y : α} (h1 : P x) (h2 : P y) : P (bif b then x else y) := by cases b; exact h2; exact h1
theorem table_form (c : List Int) (s : Int × Int) (j : Nat) : ∀ x : Int × Int × List DIdx, idxForm c (((([] : List Str) ++ (([[107], [97], [98], [99, 99]] : List Str).take ((IntKind.wrap .i64 (2 + ((u_pick c ((u_of c s ([[116], [117]] : List Str)).2) 3).1))).toNat))).length : Nat) : Int) x.2.2 j (B_u_table_0 c s j x)
  | (_, _, _) => bif_P (bif_P (bif_P ⟨_, rfl, .inl rfl⟩ ⟨_, rfl, .inr ⟨_, _, rfl⟩⟩) ⟨_, rfl, .inl rfl⟩) ⟨_, rfl, .inr ⟨_, _, rfl⟩⟩
def drawnIx (T : Int) (x : DIdx) : Prop := x.Name.length ≤ 1 ∧ 0 ≤ x.Col ∧ x.Col < T
theorem table_loop {c : List Int} (h : codeOk c) {T : Int} (hT : 2 ≤ T) (hT4 : T ≤ 4) {body : Nat → Int × Int × List DIdx → Out (DTable × (Int × Int)) (Int × Int × List DIdx)} (hb : ∀ j x, idxForm c T x.2.2 j (body j x)) : ∀ (n k : Nat) (x : Int × Int × List DIdx), (∀ y ∈ x.2.2, drawnIx T y) → ∃ x', loopM body n k x = .done x' ∧ (∀ y ∈ x'.2.2, drawnIx T y) ∧ x'.2.2.length ≤ x.2.2.length + n
  | 0, _, x, hx => ⟨x, rfl, hx, Nat.le_refl _⟩
  | n + 1, k, x, hx => by
    obtain ⟨x1, e, h1⟩ := hb k x
    have hx1 : (∀ y ∈ x1.2.2, drawnIx T y) ∧ x1.2.2.length ≤ x.2.2.length + 1 := by
      rcases h1 with h1 | ⟨s', m, h1⟩
      · rw [h1]; exact ⟨hx, Nat.le_succ _⟩
      · rw [h1]
        refine ⟨fun y hy => ?_, by rw [List.length_append]; exact Nat.le_refl _⟩
        rcases List.mem_append.1 hy with hy | hy
        · exact hx y hy
        · rw [List.mem_singleton] at hy; subst hy
          rw [wrap_in (n := T - 1) (by omega)]
          have hp := pick_rng h s' (n := T - 1) (by omega) (by omega)
          have hn := getD_len (l := ([[105], [106], [109]] : List Str)) (m := 1) (by decide) k
          refine ⟨hn, ?_⟩
          dsimp only
          rw [wrap_in (by omega)]; omega
    obtain ⟨x', e2, h2, h3⟩ := table_loop h hT hT4 hb n (k + 1) x1 hx1.1
    refine ⟨x', ?_, h2, by omega⟩
    unfold loopM
    rw [e]; exact e2
theorem rf_table {c : List Int} (h : codeOk c) (s : Int × Int) : drawT (u_table c s).1 := by
  have hp := pick_rng h ((u_of c s ([[116], [117]] : List Str)).2) (n := 3) (by decide) (by decide)
  have hl : ((([] : List Str) ++ (([[107], [97], [98], [99, 99]] : List Str).take ((IntKind.wrap .i64 (2 + ((u_pick c ((u_of c s ([[116], [117]] : List Str)).2) 3).1))).toNat))).length : Nat) = (2 + (u_pick c ((u_of c s ([[116], [117]] : List Str)).2) 3).1).toNat := by
    rw [wrap_in (by omega), List.length_append, List.length_take]
    simp only [List.length_cons, List.length_nil]; omega
  obtain ⟨x', e, h2, h3⟩ := table_loop h (by rw [hl]; omega) (by rw [hl]; omega) (table_form c s) (3 - 0) 0 (((u_pick c ((u_of c s ([[116], [117]] : List Str)).2) 3).2).1, ((u_pick c ((u_of c s ([[116], [117]] : List Str)).2) 3).2).2, ([] : List DIdx)) (fun y hy => by cases hy)
  unfold u_table
  rw [e]
  refine ⟨of_len 1 c s ([[116], [117]] : List Str) (by decide), ?_, ?_, h3, fun k hk => ?_⟩
  · show 2 ≤ (([] : List Str) ++ _).length
    rw [hl]; omega
  · show (([] : List Str) ++ _).length ≤ 4
    rw [hl]; omega
  · have := h2 _ (getD_mem (d := d_Idx) hk)
    exact ⟨this.1, this.2.1, this.2.2⟩

theorem good_fields {t : DTable} {r : DRow} (h : i_GoodRow t r = true) : s_GoodTable t = true ∧ i_Table_isRow t r = true ∧ (∀ v ∈ r.Vals, s_l25Field v = true) ∧ 2 ≤ r.Vals.length ∧ r.Vals.length = t.Cols.length := by
  have h1 := f_i_GoodRow h
  unfold i_GoodRow at h
  obtain ⟨h2, h3⟩ := of_cond_f h
  have h4 := h3
  rw [isRow_eq, l25Good_eq, Bool.and_eq_true] at h4
  exact ⟨GoodTable_eq t ▸ h2, h3, List.all_eq_true.1 h4.1, by omega, h1.1.1⟩
theorem readRow_write {t : DTable} {w : DWrite} (h : (i_ReadRow t w).2 = true) : i_RowWrite t (i_ReadRow t w).1 = (w, true) := by
  unfold i_ReadRow at h ⊢
  cases hg : i_GoodTable t
  · rw [hg] at h; cases h
  · rw [hg] at h
    dsimp only [cond_true] at h ⊢
    unfold i_Table_readRow at h ⊢
    revert h
    generalize (⟨(([(g_strings_CutPrefix w.Key (t.Name ++ ([47] : Str))).1] : List Str) ++ (g_strings_Split w.Val ([44] : Str)))⟩ : DRow) = r
    intro h
    cases hc : (g_strings_CutPrefix w.Key (t.Name ++ ([47] : Str))).2
    · rw [hc] at h; cases h
    · rw [hc] at h
      dsimp only [cond_true] at h ⊢
      cases hr : i_Table_isRow t r
      · rw [hr] at h; cases h
      · rw [hr] at h
        dsimp only [cond_true] at h ⊢
        cases he : (w.Key == (i_Table_rowWrite t r).Key && (w.Val == (i_Table_rowWrite t r).Val && w.Gone == (i_Table_rowWrite t r).Gone))
        · rw [he] at h; cases h
        · dsimp only [cond_true]
          simp only [Bool.and_eq_true, beq_iff_eq] at he
          unfold i_RowWrite i_GoodRow
          rw [hg, cond_true, hr, cond_true]
          have : i_Table_rowWrite t r = w := by
            cases w; cases hq : i_Table_rowWrite t r
            rw [hq] at he
            simp only [DWrite.mk.injEq]
            exact ⟨he.1.symm, he.2.1.symm, he.2.2.symm⟩
          rw [this]
theorem key_back {t : DTable} {n : Str} {r : DRow} (h : i_GoodRow t r = true) (hi : i_hasIdx t n = true) : (0 ≤ (i_Table_idx t n).Col ∧ (i_Table_idx t n).Col < (r.Vals.length : Int)) ∧ i_ReadIdxKey t n (i_Table_idxKey t n r) = (r.Vals.getD ((i_Table_idx t n).Col).toNat d_Str, r.Vals.getD 0 d_Str, true) := by
  obtain ⟨hg, hr, hf, hl, hc⟩ := good_fields h
  have hcol : 0 ≤ (i_Table_idx t n).Col ∧ (i_Table_idx t n).Col < (r.Vals.length : Int) := by
    have := f_i_hasIdx hi
    omega
  refine ⟨hcol, ?_⟩
  have f1 := hf _ (getD_mem (d := d_Str) (i := ((i_Table_idx t n).Col).toNat) (by omega))
  have f0 := hf _ (getD_mem (d := d_Str) (i := 0) (by omega))
  obtain ⟨c1, c2⟩ := CutPrefix_iff (i_Table_idxKey t n r) (i_Table_idxHead t n)
  have hk : i_Table_idxKey t n r = i_Table_idxHead t n ++ (r.Vals.getD (((i_Table_idx t n).Col).toNat) d_Str ++ 47 :: r.Vals.getD 0 d_Str) := by
    unfold i_Table_idxKey
    simp only [List.append_assoc]; rfl
  rw [drop_pre hk] at c1
  have c3 := c2 c1
  rw [hk, List.drop_left' rfl] at c3
  have hs := (f_i_GoodRow h).2.2.getD ((i_Table_idx t n).Col).toNat
  have hcut := Cut_some (r := r.Vals.getD 0 d_Str) (slash_field f1) (by omega)
  unfold i_ReadIdxKey
  rw [hi, cond_true]
  have : i_Table_readIdxKey t n (i_Table_idxKey t n r) = (r.Vals.getD ((i_Table_idx t n).Col).toNat d_Str, r.Vals.getD 0 d_Str, true) := by
    unfold i_Table_readIdxKey
    rw [c1, hk, c3, hcut, isField_eq, isField_eq]
    dsimp only [cond_true]
    rw [f1, f0]; rfl
  rw [this]
theorem qSameS_refl (a : List Str) : l_qSameS a a = true := by
  unfold l_qSameS
  rw [decide_eq_true rfl, cond_true]
  rw [allE d_Str (fun _ => true) (r := false) fun k => by unfold B_l_qSameS_0; rw [beq_self_eq_true]]
  simp
theorem qSameRows_refl (a : List DRow) : l_qSameRows a a = true := by
  unfold l_qSameRows
  rw [decide_eq_true rfl, cond_true]
  rw [allE d_Row (fun _ => true) (r := false) fun k => by unfold B_l_qSameRows_0; rw [qSameS_refl]]
  simp
theorem qHas_eq (l : List Str) (s : Str) : l_qHas l s = l.any fun x => x == s := by
  unfold l_qHas
  rw [allE d_Str (fun x => !(x == s)) (r := true) fun k => by unfold B_l_qHas_0; cases (l.getD k d_Str == s) <;> rfl]
  rw [← List.not_any_eq_all_not]
  cases (l.any fun x => x == s) <;> rfl
theorem len_of_sub : ∀ {a b : List Str}, a.Nodup → (∀ x ∈ a, x ∈ b) → a.length ≤ b.length
  | [], _, _, _ => Nat.zero_le _
  | x :: a, b, h, hs => by
    have hx := hs x (List.mem_cons_self ..)
    have h1 := List.nodup_cons.1 h
    have h2 := len_of_sub (a := a) (b := b.erase x) h1.2 fun y hy => (List.mem_erase_of_ne (fun (e : y = x) => h1.1 (by rw [← e]; exact hy))).2 (hs y (List.mem_cons_of_mem _ hy))
    rw [List.length_erase_of_mem hx] at h2
    have := List.length_pos_of_mem hx
    rw [List.length_cons]; omega
theorem any_mem (o : List Str) (s : Str) : (o.any fun x => x == s) = true ↔ s ∈ o := by
  rw [List.any_eq_true]
  exact ⟨fun ⟨x, h, e⟩ => eq_of_beq e ▸ h, fun h => ⟨s, h, beq_self_eq_true s⟩⟩
theorem filter_len (a : List Str) (p : Str → Bool) : (a.filter p).length + (a.filter fun x => !p x).length = a.length := by
  induction a with
  | nil => rfl
  | cons x a ih => cases h : p x <;> simp [h] <;> omega
theorem less_count {e k : List Str} (he : e.Nodup) (hk : k.Nodup) : e.length + (s_l25Less k e).length = k.length + (s_l25Less e k).length := by
  rw [less_eq, less_eq]
  have h1 := filter_len e fun s => k.any fun x => x == s
  have h2 := filter_len k fun s => e.any fun x => x == s
  have h3 := len_of_sub (a := e.filter fun s => k.any fun x => x == s) (b := k.filter fun s => e.any fun x => x == s) (he.filter _) fun x hx => by
    rw [List.mem_filter, any_mem] at hx ⊢; exact hx.symm
  have h4 := len_of_sub (a := k.filter fun s => e.any fun x => x == s) (b := e.filter fun s => k.any fun x => x == s) (hk.filter _) fun x hx => by
    rw [List.mem_filter, any_mem] at hx ⊢; exact hx.symm
  omega
theorem entriesIn_map (t : DTable) (n : Str) (l : List DWrite) : i_Table_entriesIn t n l = (l.filter fun w => (i_Table_readIdxKey t n w.Key).2.2).map (·.Key) := by
  unfold i_Table_entriesIn
  refine loopM_val (fun k (p : List Str) => p = ((l.take k).filter fun w => (i_Table_readIdxKey t n w.Key).2.2).map (·.Key)) (fun (v : List Str) => v = (l.filter fun w => (i_Table_readIdxKey t n w.Key).2.2).map (·.Key)) rfl (fun s h => by rw [h, List.take_of_length_le (by omega)]) ?_
  intro j s _ hj hs
  have hj' : j < l.length := by omega
  unfold B_i_Table_entriesIn_0
  dsimp only
  rw [List.take_succ_eq_append_getElem hj', List.filter_append, List.map_append, ← hs, ← getD_eq (d := d_Write) hj', List.filter_cons]
  cases (i_Table_readIdxKey t n ((l.getD j d_Write).Key)).2.2 <;> simp
theorem rowsIn_map (t : DTable) (l : List DWrite) : i_Table_rowsIn t l = (l.filter fun w => (i_Table_readRow t w).2).map fun w => (i_Table_readRow t w).1 := by
  unfold i_Table_rowsIn
  refine loopM_val (fun k (p : List DRow) => p = ((l.take k).filter fun w => (i_Table_readRow t w).2).map fun w => (i_Table_readRow t w).1) (fun (v : List DRow) => v = (l.filter fun w => (i_Table_readRow t w).2).map fun w => (i_Table_readRow t w).1) rfl (fun s h => by rw [h, List.take_of_length_le (by omega)]) ?_
  intro j s _ hj hs
  have hj' : j < l.length := by omega
  unfold B_i_Table_rowsIn_0
  dsimp only
  rw [List.take_succ_eq_append_getElem hj', List.filter_append, List.map_append, ← hs, ← getD_eq (d := d_Write) hj', List.filter_cons]
  cases (i_Table_readRow t (l.getD j d_Write)).2 <;> simp
theorem keysIn_map (t : DTable) (n : Str) (l : List DWrite) : i_Table_keysIn t n l = (i_Table_rowsIn t l).map (i_Table_idxKey t n) := by
  unfold i_Table_keysIn
  refine loopM_val (fun k (p : List Str) => p = ((i_Table_rowsIn t l).take k).map (i_Table_idxKey t n)) (fun (v : List Str) => v = (i_Table_rowsIn t l).map (i_Table_idxKey t n)) rfl (fun s h => by rw [h, List.take_of_length_le (by omega)]) ?_
  intro j s _ hj hs
  have hj' : j < (i_Table_rowsIn t l).length := by omega
  unfold B_i_Table_keysIn_0
  dsimp only
  show _ ++ _ = _
  rw [List.take_succ_eq_append_getElem hj', List.map_append, ← hs, ← getD_eq (d := d_Row) hj']; rfl
theorem sLt_trans {a b c : Str} (h1 : sLt a b = true) (h2 : sLt b c = true) : sLt a c = true := by
  unfold sLt at *
  rw [bytesLess_lt, decide_eq_true_eq] at *
  exact List.lt_trans h1 h2
theorem sLt_irrefl (a : Str) : ¬ sLt a a = true := by
  unfold sLt
  rw [bytesLess_lt, decide_eq_true_eq]
  exact List.lt_irrefl a
theorem keys_apart {l : List DWrite} (h : i_isRows l = true) : l.Pairwise fun a b => a.Key ≠ b.Key := by
  have h1 := isRows_w h
  rw [l3Writes_eq, Bool.and_eq_true, List.all_eq_true] at h1
  have h2 : ∀ d i : Nat, i + d + 1 < l.length → sLt ((l.map (·.Key)).getD i d_Str) ((l.map (·.Key)).getD (i + d + 1) d_Str) = true := by
    have step : ∀ i : Nat, i + 1 < l.length → sLt ((l.map (·.Key)).getD i d_Str) ((l.map (·.Key)).getD (i + 1) d_Str) = true := fun i hi => by
      have h3 := h1.1 (i + 1) (List.mem_range.2 hi)
      rw [Bool.and_eq_true] at h3
      have h4 := h3.2
      have h24 : l.length ≤ 24 := by have := of_decide_eq_true h1.2; omega
      unfold rising at h4
      rw [decide_eq_true (by omega), cond_true, wrap_in (by omega), show (((i + 1 : Nat) : Int) - 1).toNat = i by omega] at h4
      exact h4
    intro d
    induction d with
    | zero => exact step
    | succ d ih => exact fun i hi => sLt_trans (ih i (by omega)) (step (i + d + 1) (by omega))
  rw [List.pairwise_iff_getElem]
  intro i j hi hj hij e
  obtain ⟨d, rfl⟩ : ∃ d, j = i + d + 1 := ⟨j - i - 1, by omega⟩
  have h3 := h2 d i hj
  rw [getD_eq (by rw [List.length_map]; exact hi), getD_eq (by rw [List.length_map]; exact hj), List.getElem_map, List.getElem_map, e] at h3
  exact sLt_irrefl _ h3
theorem entries_nodup {t : DTable} {n : Str} {l : List DWrite} (h : i_isRows l = true) : (i_Table_entriesIn t n l).Nodup := by
  rw [entriesIn_map]
  unfold List.Nodup
  rw [List.pairwise_map]
  exact (keys_apart h).filter _
theorem read_wrote {t : DTable} {w : DWrite} (hg : i_GoodTable t = true) (h : (i_Table_readRow t w).2 = true) : i_GoodRow t (i_Table_readRow t w).1 = true ∧ i_Table_rowWrite t (i_Table_readRow t w).1 = w := by
  have e : i_ReadRow t w = i_Table_readRow t w := by unfold i_ReadRow; rw [hg, cond_true]
  have h1 := readRow_write (t := t) (w := w) (by rw [e]; exact h)
  rw [e] at h1
  unfold i_RowWrite at h1
  cases hr : i_GoodRow t (i_Table_readRow t w).1
  · rw [hr] at h1; cases h1
  · rw [hr] at h1
    exact ⟨rfl, (Prod.mk.inj h1).1⟩
theorem row_key (t : DTable) (r : DRow) : (i_Table_rowWrite t r).Key = (t.Name ++ ([47] : Str)) ++ r.Vals.getD 0 d_Str := rfl
theorem keys_nodup {t : DTable} {n : Str} {l : List DWrite} (h : i_isIdxStore t n l = true) : (i_Table_keysIn t n l).Nodup := by
  have hi := isIdxStore_has h
  have hg : i_GoodTable t = true := by rw [GoodTable_eq]; exact hasIdx_good hi
  have hr : i_isRows l = true := by unfold i_isIdxStore at h; exact (of_cond_f h).2
  rw [keysIn_map, rowsIn_map]
  unfold List.Nodup
  rw [List.pairwise_map, List.pairwise_map, List.pairwise_filter]
  refine (keys_apart hr).imp fun {a b} hab ha hb e => hab ?_
  obtain ⟨a1, a2⟩ := read_wrote hg ha
  obtain ⟨b1, b2⟩ := read_wrote hg hb
  have a3 := (key_back a1 hi).2
  rw [e, (key_back b1 hi).2] at a3
  have e2 := (Prod.mk.inj (Prod.mk.inj a3).2).1
  rw [← a2, ← b2, row_key, row_key, e2]
theorem row_good {t : DTable} {n : Str} {l : List DWrite} (h : i_isIdxStore t n l = true) {x : DRow} (hx : x ∈ i_Table_rowsIn t l) : i_IdxKey t n x = (i_Table_idxKey t n x, true) ∧ i_Table_idxKey t n x ∈ i_Table_keysIn t n l := by
  have hi := isIdxStore_has h
  have hg : i_GoodTable t = true := by rw [GoodTable_eq]; exact hasIdx_good hi
  refine ⟨?_, by rw [keysIn_map]; exact List.mem_map_of_mem hx⟩
  rw [rowsIn_map] at hx
  obtain ⟨w, hw, rfl⟩ := List.mem_map.1 hx
  have h1 := (read_wrote hg (List.mem_filter.1 hw).2).1
  unfold i_IdxKey
  rw [h1, hi]; rfl
theorem less_mem (l o : List Str) (s : Str) : s ∈ s_l25Less l o ↔ s ∈ l ∧ ¬ s ∈ o := by
  rw [less_eq, List.mem_filter, Bool.not_eq_true', ← Bool.not_eq_true, any_mem]
theorem idx_yes {t : DTable} {n : Str} {l : List DWrite} (h : i_isIdxStore t n l = true) : i_EntriesIn t n l = (i_Table_entriesIn t n l, true) ∧ i_OrphansIn t n l = (s_l25Less (i_Table_entriesIn t n l) (i_Table_keysIn t n l), true) ∧ i_LacksIn t n l = (s_l25Less (i_Table_keysIn t n l) (i_Table_entriesIn t n l), true) ∧ i_RowsIn t l = (i_Table_rowsIn t l, true) := by
  have hi := isIdxStore_has h
  have hg : i_GoodTable t = true := by rw [GoodTable_eq]; exact hasIdx_good hi
  have hr : i_isRows l = true := by unfold i_isIdxStore at h; exact (of_cond_f h).2
  unfold i_EntriesIn i_OrphansIn i_LacksIn i_RowsIn i_Table_orphansIn i_Table_lacksIn
  rw [h, hg, hr, without_eq, without_eq]
  exact ⟨rfl, rfl, rfl, rfl⟩
theorem body_FnEntries (a b : List Int) (k : Nat) (h : i_isIdxStore (sDE a).1 (sDE a).2.1 (sDE a).2.2 = true) (hk : k < (i_Table_rowsIn (sDE a).1 (sDE a).2.2).length) : B_l_FnEntries_0 a b k () = .cont () := by
  unfold B_l_FnEntries_0
  generalize sDE a = D at *
  obtain ⟨t, n, l⟩ := D
  dsimp only at h hk ⊢
  obtain ⟨e1, e2, e3, e4⟩ := idx_yes h
  obtain ⟨k1, k2⟩ := row_good h (getD_mem (d := d_Row) hk)
  rw [e4, e1, e2, e3, k1]
  dsimp only [cond_true]
  rw [qHas_eq, qHas_eq, qHas_eq]
  generalize i_Table_idxKey t n ((i_Table_rowsIn t l).getD k d_Row) = s at *
  generalize i_Table_entriesIn t n l = e at *
  generalize i_Table_keysIn t n l = q at *
  have h1 : ((s_l25Less e q).any fun x => x == s) = false := by
    rw [← Bool.not_eq_true, any_mem, less_mem]; exact fun hh => hh.2 k2
  have h2 : ((s_l25Less q e).any fun x => x == s) = !(e.any fun x => x == s) := by
    cases hh : (e.any fun x => x == s)
    · rw [Bool.not_false, any_mem, less_mem, ← any_mem e, hh]; exact ⟨k2, Bool.false_ne_true⟩
    · rw [Bool.not_true, ← Bool.not_eq_true, any_mem, less_mem, ← any_mem e, hh]; exact fun h3 => h3.2 rfl
  rw [h1, h2]
  cases (e.any fun x => x == s) <;> rfl
theorem true_FnEntries (a b : List Int) : l_FnEntries a b = true := by
  have hb := body_FnEntries a b
  unfold l_FnEntries
  generalize hB : B_l_FnEntries_0 a b = B at *
  clear hB
  cases decide (1048576 < (IntKind.wrap .i64 ((a.length : Int) + (b.length : Int))))
  case true => rfl
  generalize sDE a = D at *
  obtain ⟨t, n, l⟩ := D
  dsimp only at hb ⊢
  simp only [← EntriesIn_eq, ← OrphansIn_eq, ← LacksIn_eq, ← RowsIn_eq, beq_self_eq_true, cond_true, cond_false, qSameS_refl, qSameRows_refl]
  cases h : i_isIdxStore t n l
  · have : (i_EntriesIn t n l).2 = false := by unfold i_EntriesIn; rw [h]; rfl
    rw [this]; rfl
  · obtain ⟨e1, e2, e3, e4⟩ := idx_yes h
    have hr : i_isRows l = true := by unfold i_isIdxStore at h; exact (of_cond_f h).2
    have hc := less_count (entries_nodup (t := t) (n := n) hr) (keys_nodup h)
    have he := entries_len t n l
    have hw := (f_l3Writes (isRows_w hr)).1
    have hq := rowsIn_len (isIdxStore_has h) l
    have hk : (i_Table_keysIn t n l).length = (i_Table_rowsIn t l).length := by rw [keysIn_map, List.length_map]
    have ho : (s_l25Less (i_Table_entriesIn t n l) (i_Table_keysIn t n l)).length ≤ (i_Table_entriesIn t n l).length := by rw [less_eq]; exact List.length_filter_le _ _
    have hl : (s_l25Less (i_Table_keysIn t n l) (i_Table_entriesIn t n l)).length ≤ (i_Table_keysIn t n l).length := by rw [less_eq]; exact List.length_filter_le _ _
    rw [e1, e2, e3, e4]
    dsimp only [cond_true]
    refine loopM_val (fun _ _ => True) (fun (v : Bool) => v = true) trivial (fun _ _ => ?_) (fun j s _ hj _ => ?_)
    · rw [wrap_in (n := ((i_Table_entriesIn t n l).length : Int) - _) (by omega), wrap_in (by omega), decide_eq_true (by omega)]
    · cases s
      rw [hb j h (by omega)]; trivial

end Go.Proofs.YtlnjgkmpaebioaaGreatDoor
