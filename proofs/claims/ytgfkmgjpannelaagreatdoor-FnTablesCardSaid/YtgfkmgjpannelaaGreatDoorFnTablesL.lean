/- Fn Tables: plain laws of the models. -/
import Derived.Test.YtgfkmgjpannelaaGreatDoorFnTablesT
set_option linter.unusedVariables false
set_option linter.unusedSimpArgs false
namespace Go.Proofs.YtgfkmgjpannelaaGreatDoor
open Go.RowKit Go.X
theorem IndexFunc_Idx (xs : List DIdx) (f : DIdx → Bool) : g_slices_IndexFunc_Idx xs f = idxF f d_Idx xs := rfl
theorem Contains_string (xs : List Str) (y : Str) : g_slices_Contains_string xs y = xs.any (fun x => y == x) := idxF_any _ d_Str xs
theorem within_eq : i_within = s_l1In := rfl
theorem f_l1In {n lo hi : Int} (h : s_l1In n lo hi = true) : lo ≤ n ∧ n ≤ hi := by
  unfold s_l1In at h
  obtain ⟨h1, h2⟩ := of_cond_f h
  exact ⟨of_decide_eq_true h1, of_decide_eq_true h2⟩
theorem f_within {n lo hi : Int} (h : i_within n lo hi = true) : lo ≤ n ∧ n ≤ hi := f_l1In h
theorem toNat_eq (a b : UInt8) : decide ((a.toNat : Int) = (b.toNat : Int)) = (a == b) := by
  rw [Bool.eq_iff_iff, decide_eq_true_iff, beq_iff_eq]
  constructor
  · intro h; exact UInt8.toNat.inj oM
  · intro h; rw [h]
theorem letters_eq : i_areLetters = s_l24Letters := by
  funext s m
  unfold i_areLetters s_l24Letters
  rfl
theorem l24At_neg (l : List Str) (s : Str) : decide (0 ≤ s_l24At l s) = l.any fun x => x == s := by
  have : s_l24At l s = idxF (fun x => x == s) d_Str l := rfl
  rw [this, idxF_any]
def colOk (l : List Str) (k : Nat) : Bool := s_l24Letters (l.getD k d_Str) 3 && !((l.take k).any fun x => x == l.getD k d_Str)
theorem l24Cols_eq (l : List Str) : s_l24Cols l = ((List.range l.length).all (colOk l) && s_l1In (l.length : Int) 2 4) := by
  unfold s_l24Cols
  rw [loopU (colOk l) (r := false) fun k _ => by
    unfold B_s_l24Cols_0 colOk
    rw [l24At_neg]
    cases s_l24Letters (l.getD k d_Str) 3 <;> cases ((l.take k).any fun x => x == l.getD k d_Str) <;> rfl]
  cases (List.range l.length).all (colOk l) <;> rfl
theorem GoodTable_eq (t : DTable) : i_GoodTable t = s_GoodTable t := by
  unfold i_GoodTable s_GoodTable
  rw [l24Cols_eq, letters_eq, within_eq]
  rw [loopU (colOk t.Cols) (r := false) fun k _ => by
    unfold B_i_GoodTable_0 colOk
    rw [Contains_string, letters_eq]
    rw [show ((t.Cols.take k).any fun x => t.Cols.getD k d_Str == x) = ((t.Cols.take k).any fun x => x == t.Cols.getD k d_Str) by congr 1; funext x; rw [Bool.beq_comm]]
    cases s_l24Letters (t.Cols.getD k d_Str) 3 <;> cases ((t.Cols.take k).any fun x => x == t.Cols.getD k d_Str) <;> rfl]
  have hb : B_i_GoodTable_1 t = B_s_GoodTable_0 t := by
    funext k u
    unfold B_i_GoodTable_1 B_s_GoodTable_0 i_isStage
    rw [letters_eq, within_eq, sLe_not]
    cases s_l24Letters ((t.Idxs.getD k d_Idx).Name) 1 <;> cases s_l1In ((t.Idxs.getD k d_Idx).Col) 1 (IntKind.wrap .i64 ((t.Cols.length : Int) - 1)) <;> cases s_l1In ((t.Idxs.getD k d_Idx).Stage) 0 3 <;> cases decide (0 < (k : Int)) <;> cases sLt ((t.Idxs.getD ((IntKind.wrap .i64 ((k : Int) - 1)).toNat) d_Idx).Name) ((t.Idxs.getD k d_Idx).Name) <;> rfl
  rw [hb]
  cases s_l24Letters t.Name 1 <;> cases s_l1In (t.Cols.length : Int) 2 4 <;> cases decide (3 < (t.Idxs.length : Int)) <;> cases (List.range t.Cols.length).all (colOk t.Cols) <;> rfl
theorem f_s_GoodTable {t : DTable} (h : s_GoodTable t = true) : 2 ≤ (t.Cols.length : Int) ∧ (t.Cols.length : Int) ≤ 4 ∧ (t.Idxs.length : Int) ≤ 3 := by
  unfold s_GoodTable at h
  obtain ⟨_, h⟩ := of_cond_f h
  obtain ⟨h1, h⟩ := of_cond_f h
  rw [l24Cols_eq, Bool.and_eq_true] at h1
  have h2 := f_l1In h1.2
  refine ⟨h2.1, h2.2, ?_⟩
  cases h3 : decide (3 < (t.Idxs.length : Int))
  · have := of_decide_eq_false h3; omega
  · rw [h3] at h; cases h
theorem f_i_GoodTable {t : DTable} (h : i_GoodTable t = true) : 2 ≤ (t.Cols.length : Int) ∧ (t.Cols.length : Int) ≤ 4 ∧ (t.Idxs.length : Int) ≤ 3 := f_s_GoodTable (GoodTable_eq t ▸ h)
theorem findIdx_eq (t : DTable) (s : Str) : i_Table_findIdx t s = s_l24Idx t s := by
  unfold i_Table_findIdx
  rw [IndexFunc_Idx]
  rfl
theorem l24Idx_idxF (t : DTable) (n : Str) : s_l24Idx t n = idxF (fun y => i_Table_findIdx_c1 y n) d_Idx t.Idxs := rfl
theorem l24Idx_spec (t : DTable) (n : Str) : (s_l24Idx t n = -1 ∧ ∀ x ∈ t.Idxs, x.Name ≠ n) ∨ ∃ (k : Nat) (_ : k < t.Idxs.length), s_l24Idx t n = (k : Int) ∧ (t.Idxs.getD k d_Idx).Name = n ∧ ∀ j, j < k → (t.Idxs.getD j d_Idx).Name ≠ n := by
  rw [l24Idx_idxF]
  rcases idxF_spec (fun y => i_Table_findIdx_c1 y n) d_Idx t.Idxs with ⟨h1, h2⟩ | ⟨k, hk, h1, h2, h3⟩
  · exact .inl ⟨h1, fun x hx e => by have := h2 x hx; unfold i_Table_findIdx_c1 at this; rw [e, beq_self_eq_true] at this; cases this⟩
  · refine .inr ⟨k, hk, h1, ?_, fun j hj e => ?_⟩
    · rw [getD_eq hk]; unfold i_Table_findIdx_c1 at h2; exact eq_of_beq h2
    · have := h3 j hj; rw [getD_eq oM] at e; unfold i_Table_findIdx_c1 at this; rw [e, beq_self_eq_true] at this; cases this
theorem rf_s_l24Idx (t : DTable) (n : Str) : -1 ≤ s_l24Idx t n ∧ s_l24Idx t n < (t.Idxs.length : Int) := by
  rcases l24Idx_spec t n with ⟨h, _⟩ | ⟨k, hk, h, _⟩ <;> omega
theorem rf_i_findIdx (t : DTable) (n : Str) : -1 ≤ i_Table_findIdx t n ∧ i_Table_findIdx t n < (t.Idxs.length : Int) := by rw [findIdx_eq]; exact rf_s_l24Idx t n
def idxOk (t : DTable) (k : Nat) : Bool := s_l24Letters (t.Idxs.getD k d_Idx).Name 1 && s_l1In (t.Idxs.getD k d_Idx).Col 1 (IntKind.wrap .i64 ((t.Cols.length : Int) - 1)) && s_l1In (t.Idxs.getD k d_Idx).Stage 0 3 && bif decide (0 < (k : Int)) then sLt (t.Idxs.getD ((IntKind.wrap .i64 ((k : Int) - 1)).toNat) d_Idx).Name (t.Idxs.getD k d_Idx).Name else true
theorem s_GoodTable_eq (t : DTable) : s_GoodTable t = (s_l24Letters t.Name 1 && s_l24Cols t.Cols && decide (t.Idxs.length ≤ 3) && (List.range t.Idxs.length).all (idxOk t)) := by
  unfold s_GoodTable
  rw [loopU (idxOk t) (r := false) fun k _ => by
    unfold B_s_GoodTable_0 idxOk
    cases s_l24Letters (t.Idxs.getD k d_Idx).Name 1 <;> cases s_l1In (t.Idxs.getD k d_Idx).Col 1 (IntKind.wrap .i64 ((t.Cols.length : Int) - 1)) <;> cases s_l1In (t.Idxs.getD k d_Idx).Stage 0 3 <;> cases decide (0 < (k : Int)) <;> cases sLt (t.Idxs.getD ((IntKind.wrap .i64 ((k : Int) - 1)).toNat) d_Idx).Name (t.Idxs.getD k d_Idx).Name <;> rfl]
  have e : decide (t.Idxs.length ≤ 3) = !decide (3 < (t.Idxs.length : Int)) := by
    by_cases h : t.Idxs.length ≤ 3
    · rw [decide_eq_true h, decide_eq_false oM]; rfl
    · rw [decide_eq_false h, decide_eq_true oM]; rfl
  rw [e]
  cases s_l24Letters t.Name 1 <;> cases s_l24Cols t.Cols <;> cases decide (3 < (t.Idxs.length : Int)) <;> cases (List.range t.Idxs.length).all (idxOk t) <;> rfl
def letter (b : UInt8) : Bool := !decide ((b.toNat : Int) < 97) && !decide (122 < (b.toNat : Int))
theorem l24Letters_eq (s : Str) (m : Int) : s_l24Letters s m = (s.all letter && decide (1 ≤ (s.length : Int)) && decide ((s.length : Int) ≤ m)) := by
  unfold s_l24Letters
  rw [allE (0 : UInt8) letter (r := false) fun k => by
    unfold B_s_l24Letters_0 letter
    cases decide (((s.getD k 0).toNat : Int) < 97) <;> cases decide (122 < ((s.getD k 0).toNat : Int)) <;> rfl]
  cases s.all letter <;> cases decide (1 ≤ (s.length : Int)) <;> rfl
theorem letters_len {s : Str} {m : Int} (h : s_l24Letters s m = true) : 1 ≤ (s.length : Int) ∧ (s.length : Int) ≤ m := by
  rw [l24Letters_eq] at h
  simp only [Bool.and_eq_true, decide_eq_true_eq] at h
  exact ⟨h.1.2, h.2⟩
structure GoodT (t : DTable) : Prop where
  name : t.Name.length = 1
  cols : 2 ≤ t.Cols.length ∧ t.Cols.length ≤ 4
  idxs : t.Idxs.length ≤ 3
  idx : ∀ k, k < t.Idxs.length → (t.Idxs.getD k d_Idx).Name.length = 1 ∧ 1 ≤ (t.Idxs.getD k d_Idx).Col ∧ (t.Idxs.getD k d_Idx).Col < (t.Cols.length : Int) ∧ 0 ≤ (t.Idxs.getD k d_Idx).Stage ∧ (t.Idxs.getD k d_Idx).Stage ≤ 3
  rise : ∀ k, k + 1 < t.Idxs.length → (t.Idxs.getD k d_Idx).Name < (t.Idxs.getD (k + 1) d_Idx).Name
theorem GoodT.of {t : DTable} (h : s_GoodTable t = true) : GoodT t := by
  have hf := f_s_GoodTable h
  rw [s_GoodTable_eq] at h
  simp only [Bool.and_eq_true, decide_eq_true_eq, List.all_eq_true, List.mem_range] at h
  obtain ⟨⟨⟨h1, h2⟩, h3⟩, h4⟩ := h
  have h5 : ∀ k, k < t.Idxs.length → _ := fun k hk => h4 k hk
  unfold idxOk at h5
  simp only [Bool.and_eq_true] at h5
  refine ⟨by have := letters_len h1; omega, oM, h3, fun k hk => ?_, fun k hk => ?_⟩
  · obtain ⟨⟨⟨a, b⟩, c⟩, d⟩ := h5 k hk
    have a := letters_len a
    have b := f_l1In b
    have c := f_l1In c
    rw [wrap_in oM] at b
    omega
  · have d := (h5 (k + 1) hk).2
    rw [wrap_in oM, decide_eq_true (show 0 < ((k + 1 : Nat) : Int) by omega)] at d
    have e : (((k + 1 : Nat) : Int) - 1).toNat = k := by omega
    rw [e] at d
    exact (sLt_iff _ _).1 d
theorem f_i_hasIdx' {t : DTable} {n : Str} (h : i_hasIdx t n = true) : (2 ≤ (t.Cols.length : Int) ∧ (t.Cols.length : Int) ≤ 4 ∧ (t.Idxs.length : Int) ≤ 3) ∧ (0 ≤ i_Table_findIdx t n ∧ i_Table_findIdx t n < (t.Idxs.length : Int)) ∧ 1 ≤ (i_Table_idx t n).Col ∧ (i_Table_idx t n).Col < (t.Cols.length : Int) := by
  unfold i_hasIdx at h
  obtain ⟨h1, h2⟩ := of_cond_f h
  have h2 := of_decide_eq_true h2
  have h3 := rf_i_findIdx t n
  rw [GoodTable_eq] at h1
  have hg := GoodT.of h1
  refine ⟨f_s_GoodTable h1, ⟨h2, h3.2⟩, ?_⟩
  unfold i_Table_idx
  have := hg.idx (i_Table_findIdx t n).toNat oM
  omega
theorem f_s_l24Asked' {t : DTable} {n : Str} {s : Int} (h : s_l24Asked t n s = true) : (2 ≤ (t.Cols.length : Int) ∧ (t.Cols.length : Int) ≤ 4 ∧ (t.Idxs.length : Int) ≤ 3) ∧ (0 ≤ s_l24Idx t n ∧ s_l24Idx t n < (t.Idxs.length : Int)) ∧ 0 ≤ s ∧ s ≤ 3 := by
  unfold s_l24Asked at h
  obtain ⟨h1, h2⟩ := of_cond_f h
  obtain ⟨h2, h4⟩ := of_cond_f h2
  have h2 := of_decide_eq_true h2
  exact ⟨f_s_GoodTable h1, ⟨h2, (rf_s_l24Idx t n).2⟩, f_l1In h4⟩
theorem f_s_l24SameCols {a b : DTable} (h : s_l24SameCols a b = true) : a.Cols.length = b.Cols.length ∧ a.Idxs.length = b.Idxs.length := by
  unfold s_l24SameCols at h
  obtain ⟨_, h⟩ := of_cond_f h
  obtain ⟨h1, h⟩ := of_cond_f h
  obtain ⟨h2, h⟩ := of_cond_f h
  have h1 := of_decide_eq_true h1
  have h2 := of_decide_eq_true h2
  omega
theorem f_s_IdxAt' {t : DTable} {n : Str} (h : (s_IdxAt t n).2 = true) : (2 ≤ (t.Cols.length : Int) ∧ (t.Cols.length : Int) ≤ 4 ∧ (t.Idxs.length : Int) ≤ 3) ∧ (0 ≤ s_l24Idx t n ∧ s_l24Idx t n < (t.Idxs.length : Int)) ∧ 1 ≤ (s_IdxAt t n).1.Col ∧ (s_IdxAt t n).1.Col < (t.Cols.length : Int) := by
  unfold s_IdxAt at h ⊢
  cases h1 : s_GoodTable t
  · rw [h1] at h; cases h
  · rw [h1] at h
    simp only [cond_true] at h ⊢
    cases h2 : decide (s_l24Idx t n < 0)
    · simp only [cond_false]
      have h2 := of_decide_eq_false h2
      have h3 := rf_s_l24Idx t n
      have := (GoodT.of h1).idx (s_l24Idx t n).toNat oM
      exact ⟨f_s_GoodTable h1, ⟨by omega, h3.2⟩, by omega⟩
    · rw [h2] at h; cases h
theorem hasIdx_eq (t : DTable) (n : Str) : i_hasIdx t n = (s_IdxAt t n).2 := by
  unfold i_hasIdx s_IdxAt
  rw [GoodTable_eq, findIdx_eq]
  cases s_GoodTable t
  · rfl
  · simp only [cond_true]
    by_cases h : s_l24Idx t n < 0
    · rw [decide_eq_true h, decide_eq_false (show ¬ 0 ≤ s_l24Idx t n by omega)]; rfl
    · rw [decide_eq_false h, decide_eq_true (show 0 ≤ s_l24Idx t n by omega)]; rfl
theorem IdxAt_fst {t : DTable} {n : Str} (h : (s_IdxAt t n).2 = true) : (s_IdxAt t n).1 = i_Table_idx t n ∧ (i_Table_idx t n).Name = n := by
  have hf := f_s_IdxAt' h
  unfold s_IdxAt at h ⊢
  unfold i_Table_idx
  cases h1 : s_GoodTable t
  · rw [h1] at h; cases h
  · simp only [cond_true]
    rw [decide_eq_false (show ¬ s_l24Idx t n < 0 by omega), findIdx_eq]
    refine ⟨rfl, ?_⟩
    rcases l24Idx_spec t n with ⟨h, _⟩ | ⟨k, hk, h, h', _⟩
    · omega
    · rw [h]; exact h'
theorem rf_copyTable (t : DTable) : (i_copyTable t).Idxs.length = t.Idxs.length ∧ (i_copyTable t).Cols.length = t.Cols.length := ⟨rfl, rfl⟩
theorem rf_l24Own (t : DTable) : (s_l24Own t).Idxs.length = t.Idxs.length ∧ (s_l24Own t).Cols.length = t.Cols.length := ⟨rfl, rfl⟩
theorem copyTable_eq (t : DTable) : i_copyTable t = t := rfl
theorem l24Own_eq (t : DTable) : s_l24Own t = t := rfl
theorem f_i_hasIdx {t : DTable} {n : Str} (h : i_hasIdx t n = true) : (2 ≤ (t.Cols.length : Int) ∧ (t.Cols.length : Int) ≤ 4 ∧ (t.Idxs.length : Int) ≤ 3) ∧ (0 ≤ i_Table_findIdx t n ∧ i_Table_findIdx t n < (t.Idxs.length : Int)) ∧ 1 ≤ (i_Table_idx t n).Col ∧ (i_Table_idx t n).Col < (t.Cols.length : Int) ∧ 0 ≤ (i_Table_idx t n).Stage ∧ (i_Table_idx t n).Stage ≤ 3 ∧ t.Name.length = 1 ∧ n.length = 1 := by
  have h0 := f_i_hasIdx' h
  unfold i_hasIdx at h
  obtain ⟨h1, h2⟩ := of_cond_f h
  rw [GoodTable_eq] at h1
  have hg := GoodT.of h1
  have h3 := IdxAt_fst (t := t) (n := n) (by unfold s_IdxAt; rw [h1, cond_true, decide_eq_false (by have := of_decide_eq_true h2; rw [findIdx_eq] at this; omega)]; rfl)
  refine ⟨h0.1, h0.2.1, h0.2.2.1, h0.2.2.2, ?_⟩
  have h4 := hg.idx (i_Table_findIdx t n).toNat oM
  have h5 : (t.Idxs.getD (i_Table_findIdx t n).toNat d_Idx).Name = n := h3.2
  rw [h5] at h4
  unfold i_Table_idx
  exact ⟨h4.2.2.2.1, h4.2.2.2.2, hg.name, h4.1⟩
theorem f_s_l24Asked {t : DTable} {n : Str} {s : Int} (h : s_l24Asked t n s = true) : (2 ≤ (t.Cols.length : Int) ∧ (t.Cols.length : Int) ≤ 4 ∧ (t.Idxs.length : Int) ≤ 3) ∧ (0 ≤ s_l24Idx t n ∧ s_l24Idx t n < (t.Idxs.length : Int)) ∧ 0 ≤ s ∧ s ≤ 3 ∧ 0 ≤ (t.Idxs.getD (s_l24Idx t n).toNat d_Idx).Stage ∧ (t.Idxs.getD (s_l24Idx t n).toNat d_Idx).Stage ≤ 3 := by
  have h0 := f_s_l24Asked' h
  unfold s_l24Asked at h
  obtain ⟨h1, h2⟩ := of_cond_f h
  have h4 := (GoodT.of h1).idx (s_l24Idx t n).toNat oM
  exact ⟨h0.1, h0.2.1, h0.2.2.1, h0.2.2.2, h4.2.2.2.1, h4.2.2.2.2⟩
theorem rise_lt {t : DTable} (h : GoodT t) : ∀ (j i : Nat), i < j → j < t.Idxs.length → (t.Idxs.getD i d_Idx).Name < (t.Idxs.getD j d_Idx).Name
  | 0, i, hi, _ => by omega
  | j + 1, i, hi, hj => by
    have h1 := h.rise j hj
    rcases Nat.lt_or_ge i j with h2 | h2
    · exact str_trans (rise_lt h j i h2 oM) h1
    · obtain rfl : i = j := by omega
      exact h1
theorem own_l24Idx {t : DTable} (h : GoodT t) {k : Nat} (hk : k < t.Idxs.length) : s_l24Idx t (t.Idxs.getD k d_Idx).Name = (k : Int) := by
  rcases l24Idx_spec t (t.Idxs.getD k d_Idx).Name with ⟨_, h2⟩ | ⟨j, hj, h1, h2, h3⟩
  · exact absurd rfl (h2 _ (getD_mem hk))
  · rcases Nat.lt_or_ge j k with h4 | h4
    · have := rise_lt h k j h4 hk
      rw [h2] at this; exact absurd this (str_irr _)
    · rcases Nat.lt_or_ge k j with h5 | h5
      · exact absurd rfl (h3 k h5)
      · rw [h1]; omega
theorem own_findIdx {t : DTable} {k : Nat} (hk : k < t.Idxs.length) : 0 ≤ i_Table_findIdx t (t.Idxs.getD k d_Idx).Name ∧ i_Table_findIdx t (t.Idxs.getD k d_Idx).Name < (t.Idxs.length : Int) := by
  refine ⟨?_, (rf_i_findIdx _ _).2⟩
  rw [findIdx_eq]
  rcases l24Idx_spec t (t.Idxs.getD k d_Idx).Name with ⟨_, h2⟩ | ⟨j, hj, h1, _⟩
  · exact absurd rfl (h2 _ (getD_mem hk))
  · omega
theorem withStage_eq (t : DTable) (n : Str) (s : Int) : i_Table_withStage t n s = s_l24Set t n s := by
  unfold i_Table_withStage s_l24Set
  rw [copyTable_eq, l24Own_eq, findIdx_eq]
def setStage (t : DTable) (k : Nat) (s : Int) : DTable := ⟨t.Name, t.Cols, t.Idxs.set k ⟨(t.Idxs.getD k d_Idx).Name, (t.Idxs.getD k d_Idx).Col, s⟩⟩
theorem l24Set_eq (t : DTable) (n : Str) (s : Int) : s_l24Set t n s = setStage t (s_l24Idx t n).toNat s := rfl
theorem list_ext {α : Type} (d : α) {xs ys : List α} (hl : xs.length = ys.length) (h : ∀ k, k < xs.length → xs.getD k d = ys.getD k d) : xs = ys :=
  List.ext_getElem hl fun k h1 h2 => by have := h k h1; rwa [getD_eq h1, getD_eq h2] at this
theorem Equal_string_iff (xs ys : List Str) : g_slices_Equal_string xs ys = true ↔ xs = ys := by
  unfold g_slices_Equal_string
  rw [loopU (fun k => xs.getD k d_Str == ys.getD k d_Str) (r := false) fun k _ => rfl]
  constructor
  · intro h
    obtain ⟨h1, h2⟩ := of_cond_f h
    obtain ⟨h2, _⟩ := of_cond_f h2
    have h1 := of_decide_eq_true h1
    exact list_ext d_Str oM fun k hk => eq_of_beq (List.all_eq_true.1 h2 k (List.mem_range.2 hk))
  · rintro rfl
    rw [decide_eq_true rfl, cond_true, List.all_eq_true.2 fun k _ => beq_self_eq_true _]; rfl
theorem Equal_Idx_iff (xs ys : List DIdx) : g_slices_Equal_Idx xs ys = true ↔ xs = ys := by
  unfold g_slices_Equal_Idx
  rw [loopU (fun k => ((xs.getD k d_Idx).Name == (ys.getD k d_Idx).Name) && (decide ((xs.getD k d_Idx).Col = (ys.getD k d_Idx).Col) && decide ((xs.getD k d_Idx).Stage = (ys.getD k d_Idx).Stage))) (r := false) fun k _ => rfl]
  constructor
  · intro h
    obtain ⟨h1, h2⟩ := of_cond_f h
    obtain ⟨h2, _⟩ := of_cond_f h2
    have h1 := of_decide_eq_true h1
    refine list_ext d_Idx oM fun k hk => ?_
    have := List.all_eq_true.1 h2 k (List.mem_range.2 hk)
    simp only [Bool.and_eq_true, decide_eq_true_eq, beq_iff_eq] at this
    obtain ⟨a, b, c⟩ := this
    cases hx : xs.getD k d_Idx; cases hy : ys.getD k d_Idx
    rw [hx, hy] at a b c
    cases a; cases b; cases c; rfl
  · rintro rfl
    rw [decide_eq_true rfl, cond_true, List.all_eq_true.2 fun k _ => by simp]; rfl
theorem sameTable_iff (a b : DTable) : i_sameTable a b = true ↔ a = b := by
  unfold i_sameTable
  constructor
  · intro h
    obtain ⟨h1, h⟩ := of_cond_f h
    obtain ⟨h2, h3⟩ := of_cond_f h
    have h1 := eq_of_beq h1
    have h2 := (Equal_string_iff _ _).1 h2
    have h3 := (Equal_Idx_iff _ _).1 h3
    cases a; cases b; cases h1; cases h2; cases h3; rfl
  · rintro rfl
    rw [beq_self_eq_true, cond_true, (Equal_string_iff _ _).2 rfl, cond_true]
    exact (Equal_Idx_iff _ _).2 rfl
theorem SameCols_iff (a b : DTable) : s_l24SameCols a b = true ↔ a.Name = b.Name ∧ a.Cols = b.Cols ∧ a.Idxs.length = b.Idxs.length ∧ ∀ k, k < a.Idxs.length → (a.Idxs.getD k d_Idx).Name = (b.Idxs.getD k d_Idx).Name ∧ (a.Idxs.getD k d_Idx).Col = (b.Idxs.getD k d_Idx).Col := by
  unfold s_l24SameCols
  rw [loopU (fun k => a.Cols.getD k d_Str == b.Cols.getD k d_Str) (r := false) fun k _ => rfl]
  rw [loopU (fun k => ((a.Idxs.getD k d_Idx).Name == (b.Idxs.getD k d_Idx).Name) && decide ((a.Idxs.getD k d_Idx).Col = (b.Idxs.getD k d_Idx).Col)) (r := false) fun k _ => by
    unfold B_s_l24SameCols_1
    cases (a.Idxs.getD k d_Idx).Name == (b.Idxs.getD k d_Idx).Name <;> cases decide ((a.Idxs.getD k d_Idx).Col = (b.Idxs.getD k d_Idx).Col) <;> rfl]
  constructor
  · intro h
    obtain ⟨h1, h⟩ := of_cond_f h
    obtain ⟨h2, h⟩ := of_cond_f h
    obtain ⟨h3, h⟩ := of_cond_f h
    obtain ⟨h4, h⟩ := of_cond_f h
    obtain ⟨h5, _⟩ := of_cond_f h
    have h2 := of_decide_eq_true h2
    have h3 := of_decide_eq_true h3
    refine ⟨eq_of_beq h1, list_ext d_Str oM fun k hk => eq_of_beq (List.all_eq_true.1 h4 k (List.mem_range.2 hk)), oM, fun k hk => ?_⟩
    have := List.all_eq_true.1 h5 k (List.mem_range.2 hk)
    simp only [Bool.and_eq_true, decide_eq_true_eq, beq_iff_eq] at this
    exact this
  · rintro ⟨h1, h2, h3, h4⟩
    rw [h1, beq_self_eq_true, cond_true, h2, decide_eq_true rfl, cond_true, decide_eq_true oM, cond_true, List.all_eq_true.2 fun k _ => beq_self_eq_true _, cond_true, List.all_eq_true.2 fun k hk => by
      have := h4 k (List.mem_range.1 hk)
      simp only [Bool.and_eq_true, decide_eq_true_eq, beq_iff_eq]
      exact this]
    rfl
def stageAt (t : DTable) (k : Nat) : Int := (t.Idxs.getD k d_Idx).Stage
def farUp (a b : DTable) : Nat → Int
  | 0 => 0
  | k + 1 => farUp a b k + ((stageAt a k - stageAt b k).natAbs : Int)
theorem farUp_bd {a b : DTable} (h : ∀ k, k < a.Idxs.length → (0 ≤ stageAt a k ∧ stageAt a k ≤ 3) ∧ 0 ≤ stageAt b k ∧ stageAt b k ≤ 3) : ∀ k, k ≤ a.Idxs.length → 0 ≤ farUp a b k ∧ farUp a b k ≤ 3 * k
  | 0, _ => by simp [farUp]
  | k + 1, hk => by
    have h1 := farUp_bd h k oM
    have h2 := h k hk
    unfold farUp
    omega
theorem l24Far_eq {a b : DTable} (h : ∀ k, k < a.Idxs.length → (0 ≤ stageAt a k ∧ stageAt a k ≤ 3) ∧ 0 ≤ stageAt b k ∧ stageAt b k ≤ 3) (hl : a.Idxs.length ≤ 3) : s_l24Far a b = farUp a b a.Idxs.length := by
  unfold s_l24Far
  refine loopM_val (fun k (x : Int) => x = farUp a b k) (fun v => v = farUp a b a.Idxs.length) rfl (fun s hs => by rw [hs]; congr 1; omega) ?_
  intro j s _ hj hs
  have hj' : j < a.Idxs.length := by omega
  have h1 := farUp_bd h j oM
  have h2 := h j hj'
  show IntKind.wrap .i64 (s + s_l1Most _ _) = farUp a b j + _
  unfold stageAt at h2 ⊢
  rw [hs, wrap_in (n := (a.Idxs.getD j d_Idx).Stage - _) oM, wrap_in (n := 0 - _) oM]
  unfold s_l1Most
  by_cases h3 : 0 - ((a.Idxs.getD j d_Idx).Stage - (b.Idxs.getD j d_Idx).Stage) < (a.Idxs.getD j d_Idx).Stage - (b.Idxs.getD j d_Idx).Stage
  · rw [decide_eq_true h3, cond_true, wrap_in oM]; omega
  · rw [decide_eq_false h3, cond_false, wrap_in oM]; omega

theorem getD_set {α : Type} {d : α} {xs : List α} {k : Nat} {v : α} (hk : k < xs.length) (i : Nat) : (xs.set k v).getD i d = if i = k then v else xs.getD i d := by
  rw [List.getD_eq_getElem?_getD, List.getD_eq_getElem?_getD, List.getElem?_set]
  by_cases h : i = k
  · subst h; simp [hk]
  · have : ¬ k = i := fun h' => h h'.symm
    simp [h, this]
theorem setStage_len (t : DTable) (k : Nat) (s : Int) : (setStage t k s).Idxs.length = t.Idxs.length := List.length_set ..
theorem farUp_le {a b : DTable} (h : ∀ k, k < a.Idxs.length → (0 ≤ stageAt a k ∧ stageAt a k ≤ 3) ∧ 0 ≤ stageAt b k ∧ stageAt b k ≤ 3) : ∀ m, m ≤ a.Idxs.length → (farUp a b m = 0 → ∀ i, i < m → stageAt a i = stageAt b i) ∧ (farUp a b m ≤ 1 → (∀ i, i < m → stageAt a i = stageAt b i) ∨ ∃ k, k < m ∧ (stageAt b k = stageAt a k - 1 ∨ stageAt b k = stageAt a k + 1) ∧ ∀ i, i < m → i ≠ k → stageAt a i = stageAt b i)
  | 0, _ => ⟨fun _ i hi => by omega, fun _ => .inl fun i hi => by omega⟩
  | m + 1, hm => by
    obtain ⟨h1, h2⟩ := farUp_le h m oM
    have h3 := farUp_bd h m oM
    refine ⟨fun h0 i hi => ?_, fun h0 => ?_⟩
    · unfold farUp at h0
      rcases Nat.lt_or_ge i m with h4 | h4
      · exact h1 oM i h4
      · obtain rfl : i = m := by omega
        omega
    · unfold farUp at h0
      by_cases h4 : farUp a b m = 0
      · have h5 := h1 h4
        by_cases h6 : stageAt a m = stageAt b m
        · exact .inl fun i hi => by
            rcases Nat.lt_or_ge i m with h7 | h7
            · exact h5 i h7
            · obtain rfl : i = m := by omega
              exact h6
        · exact .inr ⟨m, oM, by omega, fun i hi hne => h5 i oM⟩
      · rcases h2 oM with h5 | ⟨k, hk, h5, h6⟩
        · exact .inl fun i hi => by
            rcases Nat.lt_or_ge i m with h7 | h7
            · exact h5 i h7
            · obtain rfl : i = m := by omega
              omega
        · exact .inr ⟨k, oM, h5, fun i hi hne => by
            rcases Nat.lt_or_ge i m with h7 | h7
            · exact h6 i h7 hne
            · obtain rfl : i = m := by omega
              omega⟩
theorem farUp_of {a b : DTable} {k : Nat} : ∀ m, (∀ i, i < m → i ≠ k → stageAt a i = stageAt b i) → ((stageAt a k - stageAt b k).natAbs : Int) ≤ 1 → farUp a b m ≤ 1 ∧ (m ≤ k → farUp a b m = 0)
  | 0, _, _ => by simp [farUp]
  | m + 1, h, hk => by
    obtain ⟨h1, h2⟩ := farUp_of m (fun i hi => h i oM) hk
    unfold farUp
    by_cases hm : m = k
    · subst hm
      have := h2 (Nat.le_refl _)
      omega
    · have := h m oM hm
      constructor
      · omega
      · intro h3
        have := h2 oM
        omega
theorem farUp_self (a : DTable) : ∀ m, farUp a a m = 0
  | 0 => rfl
  | m + 1 => by unfold farUp; rw [farUp_self a m]; omega
theorem eq_of_stages {a b : DTable} (h : s_l24SameCols a b = true) (hs : ∀ i, i < a.Idxs.length → stageAt a i = stageAt b i) : a = b := by
  obtain ⟨h1, h2, h3, h4⟩ := (SameCols_iff a b).1 h
  have : a.Idxs = b.Idxs := list_ext d_Idx h3 fun k hk => by
    obtain ⟨h5, h6⟩ := h4 k hk
    have h7 := hs k hk
    unfold stageAt at h7
    cases hx : a.Idxs.getD k d_Idx; cases hy : b.Idxs.getD k d_Idx
    rw [hx, hy] at h5 h6 h7
    cases h5; cases h6; cases h7; rfl
  cases a; cases b; cases h1; cases h2; cases this; rfl
theorem near_iff {a b : DTable} (ha : GoodT a) (hb : GoodT b) : (s_l24SameCols a b = true ∧ s_l24Far a b ≤ 1) ↔ (a = b ∨ ∃ k, k < a.Idxs.length ∧ (setStage a k (stageAt a k - 1) = b ∨ setStage a k (stageAt a k + 1) = b)) := by
  constructor
  · rintro ⟨h1, h2⟩
    obtain ⟨e1, e2, e3, e4⟩ := (SameCols_iff a b).1 h1
    have hbd : ∀ k, k < a.Idxs.length → (0 ≤ stageAt a k ∧ stageAt a k ≤ 3) ∧ 0 ≤ stageAt b k ∧ stageAt b k ≤ 3 := fun k hk => ⟨(ha.idx k hk).2.2.2, (hb.idx k oM).2.2.2⟩
    rw [l24Far_eq hbd ha.idxs] at h2
    rcases (farUp_le hbd _ (Nat.le_refl _)).2 h2 with h3 | ⟨k, hk, h3, h4⟩
    · exact .inl (eq_of_stages h1 h3)
    · refine .inr ⟨k, hk, ?_⟩
      have key : ∀ s, stageAt b k = s → setStage a k s = b := by
        intro s hs
        refine eq_of_stages ((SameCols_iff _ _).2 ⟨e1, e2, by rw [setStage_len]; exact e3, fun i hi => ?_⟩) fun i hi => ?_
        · have hi' : i < a.Idxs.length := by rwa [setStage_len] at hi
          unfold setStage
          simp only [getD_set hk]
          by_cases hik : i = k
          · subst hik; simp only [if_true]; exact e4 i hi'
          · simp only [if_neg hik]; exact e4 i hi'
        · have hi' : i < a.Idxs.length := by rwa [setStage_len] at hi
          unfold stageAt setStage
          simp only [getD_set hk]
          by_cases hik : i = k
          · subst hik; simp only [if_true]; exact hs.symm
          · simp only [if_neg hik]; exact h4 i hi' hik
      rcases h3 with h3 | h3
      · exact .inl (key _ h3)
      · exact .inr (key _ h3)
  · have key : ∀ k s, k < a.Idxs.length → ((stageAt a k - s).natAbs : Int) ≤ 1 → setStage a k s = b → s_l24SameCols a b = true ∧ s_l24Far a b ≤ 1 := by
      intro k s hk hs hab
      have hst : ∀ i, stageAt b i = if i = k then s else stageAt a i := by
        intro i
        rw [← hab]
        unfold stageAt setStage
        simp only [getD_set hk]
        by_cases hik : i = k
        · simp only [if_pos hik]
        · simp only [if_neg hik]
      have hbl : b.Idxs.length = a.Idxs.length := by rw [← hab]; exact setStage_len ..
      have hbd : ∀ k, k < a.Idxs.length → (0 ≤ stageAt a k ∧ stageAt a k ≤ 3) ∧ 0 ≤ stageAt b k ∧ stageAt b k ≤ 3 := fun k hk => ⟨(ha.idx k hk).2.2.2, (hb.idx k oM).2.2.2⟩
      refine ⟨(SameCols_iff a b).2 ⟨by rw [← hab]; rfl, by rw [← hab]; rfl, hbl.symm, fun i hi => ?_⟩, ?_⟩
      · rw [← hab]
        unfold setStage
        simp only [getD_set hk]
        by_cases hik : i = k
        · subst hik; simp only [if_true]; exact ⟨trivial, trivial⟩
        · simp only [if_neg hik]; exact ⟨trivial, trivial⟩
      · rw [l24Far_eq hbd ha.idxs]
        exact (farUp_of (k := k) _ (fun i _ hik => by rw [hst, if_neg hik]) (by rw [hst, if_pos rfl]; exact hs)).1
    rintro (h | ⟨k, hk, h | h⟩)
    · subst h
      refine ⟨(SameCols_iff a a).2 ⟨rfl, rfl, rfl, fun _ _ => ⟨rfl, rfl⟩⟩, ?_⟩
      rw [l24Far_eq (fun k hk => ⟨(ha.idx k hk).2.2.2, (ha.idx k hk).2.2.2⟩) ha.idxs, farUp_self]; omega
    · exact key k _ hk oM h
    · exact key k _ hk oM h
theorem NextTo_eq (a b : DTable) : i_NextTo a b = s_NextTo a b := by
  unfold i_NextTo s_NextTo
  rw [GoodTable_eq, GoodTable_eq]
  cases ha : s_GoodTable a
  · rfl
  cases hb : s_GoodTable b
  · rfl
  simp only [cond_true]
  have ga := GoodT.of ha
  have gb := GoodT.of hb
  have hn := near_iff ga gb
  rw [loopU (fun k => (List.range 2).all fun j => !(i_sameTable (i_Table_withStage a ((a.Idxs.getD k d_Idx).Name) (([IntKind.wrap .i64 (((a.Idxs.getD k d_Idx).Stage) - 1), IntKind.wrap .i64 (((a.Idxs.getD k d_Idx).Stage) + 1)] : List Int).getD j d_Int)) b)) (r := (true, true)) fun k hk => by
    unfold B_i_NextTo_0
    exact loopU (fun j => !(i_sameTable (i_Table_withStage a ((a.Idxs.getD k d_Idx).Name) (([IntKind.wrap .i64 (((a.Idxs.getD k d_Idx).Stage) - 1), IntKind.wrap .i64 (((a.Idxs.getD k d_Idx).Stage) + 1)] : List Int).getD j d_Int)) b)) (r := (true, true)) fun j hj => by
      unfold B_i_NextTo_1
      cases i_sameTable (i_Table_withStage a ((a.Idxs.getD k d_Idx).Name) (([IntKind.wrap .i64 (((a.Idxs.getD k d_Idx).Stage) - 1), IntKind.wrap .i64 (((a.Idxs.getD k d_Idx).Stage) + 1)] : List Int).getD j d_Int)) b <;> rfl]
  have hs : ∀ k, k < a.Idxs.length → ∀ s, i_Table_withStage a (a.Idxs.getD k d_Idx).Name s = setStage a k s := fun k hk s => by
    rw [withStage_eq, l24Set_eq, own_l24Idx ga hk]; rfl
  have hr : ((List.range a.Idxs.length).all fun k => (List.range 2).all fun j => !(i_sameTable (i_Table_withStage a ((a.Idxs.getD k d_Idx).Name) (([IntKind.wrap .i64 (((a.Idxs.getD k d_Idx).Stage) - 1), IntKind.wrap .i64 (((a.Idxs.getD k d_Idx).Stage) + 1)] : List Int).getD j d_Int)) b)) = true ↔ ¬ ∃ k, k < a.Idxs.length ∧ (setStage a k (stageAt a k - 1) = b ∨ setStage a k (stageAt a k + 1) = b) := by
    rw [List.all_eq_true]
    have h2 : List.range 2 = [0, 1] := rfl
    constructor
    · rintro h ⟨k, hk, hh⟩
      have h1 := h k (List.mem_range.2 hk)
      have h3 := ga.idx k hk
      rw [h2] at h1
      simp only [List.all_cons, List.all_nil, Bool.and_true, Bool.and_eq_true, Bool.not_eq_true', List.getD_cons_zero, List.getD_cons_succ, hs k hk] at h1
      rw [wrap_in oM, wrap_in oM] at h1
      rcases hh with hh | hh
      · have := (sameTable_iff _ _).2 hh; unfold stageAt at this; rw [this] at h1; cases h1.1
      · have := (sameTable_iff _ _).2 hh; unfold stageAt at this; rw [this] at h1; cases h1.2
    · intro h k hk
      have hk := List.mem_range.1 hk
      have h3 := ga.idx k hk
      rw [h2]
      simp only [List.all_cons, List.all_nil, Bool.and_true, Bool.and_eq_true, Bool.not_eq_true', List.getD_cons_zero, List.getD_cons_succ, hs k hk]
      rw [wrap_in oM, wrap_in oM]
      constructor
      · cases hx : i_sameTable (setStage a k ((a.Idxs.getD k d_Idx).Stage - 1)) b
        · rfl
        · exact absurd ⟨k, hk, .inl ((sameTable_iff _ _).1 hx)⟩ h
      · cases hx : i_sameTable (setStage a k ((a.Idxs.getD k d_Idx).Stage + 1)) b
        · rfl
        · exact absurd ⟨k, hk, .inr ((sameTable_iff _ _).1 hx)⟩ h
  generalize ((List.range a.Idxs.length).all fun k => (List.range 2).all fun j => !(i_sameTable (i_Table_withStage a ((a.Idxs.getD k d_Idx).Name) (([IntKind.wrap .i64 (((a.Idxs.getD k d_Idx).Stage) - 1), IntKind.wrap .i64 (((a.Idxs.getD k d_Idx).Stage) + 1)] : List Int).getD j d_Int)) b)) = q at hr ⊢
  have hrhs : (bif s_l24SameCols a b then (decide (s_l24Far a b ≤ 1), true) else (false, true)) = (decide (s_l24SameCols a b = true ∧ s_l24Far a b ≤ 1), true) := by
    cases h : s_l24SameCols a b
    · rw [cond_false, decide_eq_false (by rintro ⟨h, _⟩; cases h)]
    · rw [cond_true]
      by_cases h2 : s_l24Far a b ≤ 1
      · rw [decide_eq_true h2, decide_eq_true ⟨rfl, h2⟩]
      · rw [decide_eq_false h2, decide_eq_false (by rintro ⟨_, h⟩; exact h2 h)]
  rw [hrhs]
  cases h1 : i_sameTable a b
  · simp only [cond_false]
    have hne : ¬ a = b := fun h => by rw [(sameTable_iff _ _).2 h] at h1; cases h1
    cases q
    · have h2 := fun h => Bool.false_ne_true (hr.2 h)
      have h3 : ∃ k, k < a.Idxs.length ∧ (setStage a k (stageAt a k - 1) = b ∨ setStage a k (stageAt a k + 1) = b) := Classical.byContradiction h2
      rw [decide_eq_true (hn.2 (.inr h3))]; rfl
    · have h2 := hr.1 rfl
      rw [decide_eq_false fun h => by
        rcases hn.1 h with h | h
        · exact hne h
        · exact h2 h]
      rfl
  · rw [decide_eq_true (hn.2 (.inl ((sameTable_iff _ _).1 h1)))]; rfl
theorem idx_eq (t : DTable) (n : Str) : i_Table_idx t n = t.Idxs.getD (s_l24Idx t n).toNat d_Idx := by unfold i_Table_idx; rw [findIdx_eq]
theorem way_sim (t : DTable) (n : Str) (s : Int) : ∀ (m : Nat) (a : Int) (x : List DTable), loopE (loopW (B_i_Table_wayTo_0 t n s) m (a, x)) (fun r => r) (fun (_, x) => x) = loopE (loopW (B_s_l24Way_0 t n s) m (x, a)) (fun r => r) (fun (x, _) => x)
  | 0, a, x => rfl
  | m + 1, a, x => by
    by_cases h1 : a = s
    · have e1 : B_i_Table_wayTo_0 t n s (a, x) = .brk (a, x) := by unfold B_i_Table_wayTo_0; simp only [decide_eq_true h1, cond_true]
      have e2 : B_s_l24Way_0 t n s (x, a) = .brk (x, a) := by unfold B_s_l24Way_0; simp only [decide_eq_true h1, cond_true]
      simp only [loopW, e1, e2, loopE_done]
    · by_cases h2 : a < s
      · have e1 : B_i_Table_wayTo_0 t n s (a, x) = .cont (IntKind.wrap .i64 (a + 1), x ++ [s_l24Set t n (IntKind.wrap .i64 (a + 1))]) := by unfold B_i_Table_wayTo_0; simp only [decide_eq_false h1, decide_eq_true h2, cond_true, cond_false, withStage_eq]
        have e2 : B_s_l24Way_0 t n s (x, a) = .cont (x ++ [s_l24Set t n (IntKind.wrap .i64 (a + 1))], IntKind.wrap .i64 (a + 1)) := by unfold B_s_l24Way_0; simp only [decide_eq_false h1, decide_eq_true h2, cond_true, cond_false]
        simp only [loopW, e1, e2]
        exact way_sim t n s m _ _
      · have e1 : B_i_Table_wayTo_0 t n s (a, x) = .cont (IntKind.wrap .i64 (a - 1), x ++ [s_l24Set t n (IntKind.wrap .i64 (a - 1))]) := by unfold B_i_Table_wayTo_0; simp only [decide_eq_false h1, decide_eq_false h2, cond_false, withStage_eq]
        have e2 : B_s_l24Way_0 t n s (x, a) = .cont (x ++ [s_l24Set t n (IntKind.wrap .i64 (a - 1))], IntKind.wrap .i64 (a - 1)) := by unfold B_s_l24Way_0; simp only [decide_eq_false h1, decide_eq_false h2, cond_false]
        simp only [loopW, e1, e2]
        exact way_sim t n s m _ _
theorem wayTo_eq (t : DTable) (n : Str) (s : Int) : i_Table_wayTo t n s = s_l24Way t n s := by
  unfold i_Table_wayTo s_l24Way
  rw [idx_eq, copyTable_eq, l24Own_eq]
  exact way_sim t n s _ _ _
theorem SetStage_eq (t : DTable) (n : Str) (s : Int) : i_SetStage t n s = s_SetStage t n s := by
  unfold i_SetStage s_SetStage s_l24Asked i_hasIdx i_isStage
  rw [GoodTable_eq, findIdx_eq, within_eq, withStage_eq]
  cases s_GoodTable t <;> cases decide (0 ≤ s_l24Idx t n) <;> cases s_l1In s 0 3 <;> rfl
theorem Index_one (s : Str) (c : UInt8) : g_internal_stringslite_Index s [c] = Lib.indexByte s c := by
  unfold g_internal_stringslite_Index g_internal_stringslite_IndexByte idxB
  have h : ((([c] : Str).getD 0 0).toNat : Int).toNat.toUInt8 = c := by simp
  rw [h]
  cases hc : ([c] : Str) == s
  · rfl
  · have : s = [c] := (eq_of_beq hc).symm
    subst this
    simp [Lib.indexByte]
theorem rf_Index {s sub : Str} (h : sub.length = 1) : -1 ≤ g_internal_stringslite_Index s sub ∧ g_internal_stringslite_Index s sub ≤ (s.length : Int) - 1 := by
  match sub, h with
  | [c], _ =>
    rw [Index_one]
    rcases indexByte_split c s with ⟨_, h2⟩ | ⟨a, r, h1, _, h3⟩
    · rw [h2]; omega
    · rw [h3, h1]; simp only [List.length_append, List.length_cons]; omega
theorem f_Cut {s sub : Str} (o : okS s) (h : sub.length = 1) (hd : decide (0 ≤ g_internal_stringslite_Index s sub) = true) : 0 ≤ IntKind.wrap .i64 ((g_internal_stringslite_Index s sub) + (sub.length : Int)) ∧ IntKind.wrap .i64 ((g_internal_stringslite_Index s sub) + (sub.length : Int)) ≤ (s.length : Int) := by
  have h1 := of_decide_eq_true hd
  have h2 := rf_Index (s := s) h
  unfold okS at o
  rw [h, wrap_in oM]
  omega
theorem okS_l1Split {s : Str} (h : okS s) (b : Int) (i : Nat) : okS ((s_l1Split s b).getD i d_Str) := by
  have hh : ∀ x ∈ s_l1Split s b, okS x := by
    unfold s_l1Split
    refine loopM_val (fun _ (p : List Str × Int) => ∀ x ∈ p.1, okS x) (fun (v : List Str) => ∀ x ∈ v, okS x) (fun _ h => by cases h) ?_ ?_
    · rintro ⟨x, a⟩ hx y hy
      rcases List.mem_append.1 hy with hy | hy
      · exact hx y hy
      · rw [List.mem_singleton.1 hy]; exact h.drop _
    · rintro j ⟨x, a⟩ _ _ hx
      unfold B_s_l1Split_0
      dsimp only
      cases decide (((s.getD j 0).toNat : Int) = b)
      · exact hx
      · intro y hy
        rcases List.mem_append.1 hy with hy | hy
        · exact hx y hy
        · rw [List.mem_singleton.1 hy]; exact (h.take _).drop _
  rw [List.getD_eq_getElem?_getD]
  cases h1 : (s_l1Split s b)[i]? with
  | none => exact ok_d_Str
  | some x => exact hh x (List.mem_of_getElem? h1)

theorem l1Split_sp (s : Str) (b : UInt8) : s_l1Split s (b.toNat : Int) = sp b s := by
  unfold s_l1Split
  refine loopM_val (fun k (p : List Str × Int) => 0 ≤ p.2 ∧ p.2.toNat ≤ k ∧ b ∉ (s.take k).drop p.2.toNat ∧ p.1 ++ sp b (s.drop p.2.toNat) = sp b s) (fun (v : List Str) => v = sp b s) ⟨by omega, by simp, by simp, by simp⟩ ?_ ?_
  · rintro ⟨x, a⟩ ⟨h1, h2, h3, h4⟩
    dsimp only at h1 h2 h3 h4 ⊢
    rw [show s.take (0 + (s.length - 0)) = s from by rw [List.take_of_length_le oM]] at h3
    rw [sp_none h3] at h4
    exact h4
  · rintro j ⟨x, a⟩ _ hj ⟨h1, h2, h3, h4⟩
    have hj' : j < s.length := by omega
    unfold B_s_l1Split_0
    dsimp only at h1 h2 h3 h4 ⊢
    have ht : (s.take (j + 1)).drop a.toNat = (s.take j).drop a.toNat ++ [s.getD j 0] := by
      rw [getD_eq hj', List.take_succ_eq_append_getElem hj', List.drop_append_of_le_length (by rw [List.length_take]; omega)]
    have hd : s.drop a.toNat = (s.take j).drop a.toNat ++ s.getD j 0 :: s.drop (j + 1) := by
      conv => lhs; rw [← List.take_append_drop j s]
      rw [List.drop_append_of_le_length (by rw [List.length_take]; omega), getD_eq hj', List.drop_eq_getElem_cons hj']
    rw [toNat_eq]
    cases hc : s.getD j 0 == b
    · refine ⟨h1, oM, ?_, h4⟩
      rw [ht]
      intro hm
      rcases List.mem_append.1 hm with hm | hm
      · exact h3 hm
      · rw [← List.mem_singleton.1 hm] at hc; simp at hc
    · have hb : s.getD j 0 = b := eq_of_beq hc
      refine ⟨by omega, by simp, by simp, ?_⟩
      rw [hd, hb, sp_some h3] at h4
      rw [← h4, List.append_assoc]
      show x ++ ([_] ++ sp b (s.drop _)) = _
      rw [show (((j + 1 : Nat) : Int)).toNat = j + 1 from by simp]
      rfl
theorem Cut_some {a r : Str} {c : UInt8} (h : c ∉ a) (hl : a.length ≤ 1073741824) : g_strings_Cut (a ++ c :: r) [c] = (a, r, true) := by
  have h1 : g_internal_stringslite_Index (a ++ c :: r) [c] = (a.length : Int) := by
    rw [Index_one]
    rcases indexByte_split c (a ++ c :: r) with ⟨h2, _⟩ | ⟨a', r', h2, h3, h4⟩
    · simp at h2
    · have : a' :: sp c r' = a :: sp c r := by rw [← sp_some h3, ← sp_some h, h2]
      rw [h4, (List.cons.inj this).1]
  unfold g_strings_Cut g_internal_stringslite_Cut
  rw [h1, decide_eq_true oM]
  simp only [cond_true]
  rw [wrap_in (by simp only [List.length_cons, List.length_nil]; omega)]
  have h2 : ((a.length : Int)).toNat = a.length := by simp
  have h3 : ((a.length : Int) + (([c] : Str).length : Int)).toNat = a.length + 1 := by simp only [List.length_cons, List.length_nil]; omega
  rw [h2, h3]
  simp
theorem loopM_congr {ρ σ : Type} {b b' : Nat → σ → Out ρ σ} : ∀ (n k : Nat) (s : σ), (∀ j s, k ≤ j → j < k + n → b j s = b' j s) → loopM b n k s = loopM b' n k s
  | 0, _, _, _ => rfl
  | n + 1, k, s, h => by
    have h1 := h k s (Nat.le_refl _) oM
    have ih := fun s => loopM_congr n (k + 1) s fun j s h2 h3 => h j s oM oM
    simp only [loopM]
    rw [h1]
    cases b' k s with
    | ret r => rfl
    | brk s => rfl
    | cont s => exact ih s
theorem inter_cons (sep x y : Str) (zs : List Str) : sep.intercalate (x :: y :: zs) = x ++ (sep ++ sep.intercalate (y :: zs)) := by
  simp [List.intercalate, List.intersperse]
theorem inter_one (sep x : Str) : sep.intercalate [x] = x := by simp [List.intercalate]
theorem inter_concat (sep x : Str) : ∀ xs : List Str, 0 < xs.length → sep.intercalate (xs ++ [x]) = (sep.intercalate xs ++ sep) ++ x
  | [], h => by simp at h
  | [y], _ => by show sep.intercalate (y :: x :: []) = _; rw [inter_cons, inter_one, inter_one, List.append_assoc]
  | y :: z :: zs, _ => by
    show sep.intercalate (y :: z :: (zs ++ [x])) = _
    rw [inter_cons, show z :: (zs ++ [x]) = (z :: zs) ++ [x] from rfl, inter_concat sep x (z :: zs) (Nat.succ_pos _), inter_cons]
    simp only [List.append_assoc]
theorem inter_len : ∀ xs : List Str, (∀ x ∈ xs, x.length ≤ 3) → (([44] : Str).intercalate xs).length ≤ 4 * xs.length
  | [], _ => Nat.zero_le _
  | [x], h => by have := h x (by simp); rw [inter_one, List.length_singleton]; omega
  | x :: y :: zs, h => by
    have h1 := h x (by simp)
    have h2 := inter_len (y :: zs) fun z hz => h z (List.mem_cons_of_mem _ hz)
    rw [inter_cons, List.length_append, List.length_append, List.length_cons (as := y :: zs)]
    simp only [List.length_cons, List.length_nil] at h2 ⊢
    omega
theorem Join_eq (xs : List Str) (sep : Str) : s_l24Join xs sep = g_strings_Join xs sep := by
  unfold s_l24Join g_strings_Join
  refine loopM_val (fun k (s : Str) => s = sep.intercalate (xs.take k)) (fun (v : Str) => v = sep.intercalate xs) rfl (fun s h => by rw [h, List.take_of_length_le oM]) ?_
  intro j s _ hj hs
  have hj' : j < xs.length := by omega
  unfold B_s_l24Join_0
  dsimp only
  rw [List.take_succ_eq_append_getElem hj', getD_eq hj']
  by_cases h0 : 0 < j
  · rw [decide_eq_true oM, hs, inter_concat _ _ _ (by rw [List.length_take]; omega)]; rfl
  · have : j = 0 := by omega
    subst this
    rw [decide_eq_false oM, hs]
    show [] ++ _ = _
    simp [List.intercalate]
theorem f_i_isStage {s : Int} (h : i_isStage s = true) : 0 ≤ s ∧ s ≤ 3 := f_within h
theorem WayTo_eq (t : DTable) (n : Str) (s : Int) : i_WayTo t n s = s_WayTo t n s := by
  unfold i_WayTo s_WayTo s_l24Asked i_hasIdx i_isStage
  rw [GoodTable_eq, findIdx_eq, within_eq, wayTo_eq]
  cases s_GoodTable t <;> cases decide (0 ≤ s_l24Idx t n) <;> cases s_l1In s 0 3 <;> rfl
theorem way_len {t : DTable} (h : GoodT t) {n : Str} (hn : 0 ≤ s_l24Idx t n) {s : Int} (hs : 0 ≤ s ∧ s ≤ 3) : 1 ≤ (s_l24Way t n s).length ∧ (s_l24Way t n s).length ≤ 4 := by
  have hk := rf_s_l24Idx t n
  have hk' : (s_l24Idx t n).toNat < t.Idxs.length := by omega
  have h0 := (h.idx _ hk').2.2.2
  unfold stageAt at h0
  unfold s_l24Way
  refine loopW_val (fun (p : List DTable × Int) => 1 ≤ p.1.length ∧ p.1.length + ((s - p.2).toNat + (p.2 - s).toNat) ≤ 4 ∧ 0 ≤ p.2 ∧ p.2 ≤ 3) (fun p => (s - p.2).toNat + (p.2 - s).toNat) (fun (v : List DTable) => 1 ≤ v.length ∧ v.length ≤ 4) ?_ _ _ ⟨Nat.le_refl _, by show 1 + _ ≤ 4; simp only; omega, h0⟩ (Nat.lt_succ_self _)
  rintro ⟨x, a⟩ ⟨h1, h2, h3, h4⟩
  simp only at h1 h2 h3 h4
  unfold B_s_l24Way_0
  simp only
  by_cases e1 : a = s
  · simp only [decide_eq_true e1, cond_true, Out.sat]; omega
  · by_cases e2 : a < s
    · simp only [decide_eq_false e1, decide_eq_true e2, cond_true, cond_false, Out.sat]
      rw [wrap_in oM]
      simp only [List.length_append, List.length_singleton]; omega
    · simp only [decide_eq_false e1, decide_eq_false e2, cond_false, Out.sat]
      rw [wrap_in oM]
      simp only [List.length_append, List.length_singleton]; omega
theorem rf_l1Split (s : Str) (b : Int) : 1 ≤ (s_l1Split s b).length ∧ (s_l1Split s b).length ≤ s.length + 1 := by
  unfold s_l1Split
  refine loopM_val (fun k (p : List Str × Int) => p.1.length ≤ k) (fun (v : List Str) => 1 ≤ v.length ∧ v.length ≤ s.length + 1) (Nat.zero_le _) ?_ ?_
  · rintro ⟨x, a⟩ h1
    dsimp only at h1 ⊢
    rw [List.length_append, List.length_singleton]; omega
  · rintro j ⟨x, a⟩ _ hj h1
    dsimp only at h1
    unfold B_s_l1Split_0
    dsimp only
    cases decide (((s.getD j 0).toNat : Int) = b)
    · exact Nat.le_succ_of_le h1
    · show (x ++ _).length ≤ _
      rw [List.length_append, List.length_singleton]; omega
theorem rf_Split (s sep : Str) : 1 ≤ (g_strings_Split s sep).length ∧ (g_strings_Split s sep).length ≤ s.length + 1 := ⟨sp_ne _ _, sp_length _ _⟩
theorem gt_name {t : DTable} (h : s_GoodTable t = true) : t.Name.length ≤ 1 := Nat.le_of_eq (GoodT.of h).name
theorem gt_idx {t : DTable} (h : s_GoodTable t = true) {k : Nat} (hk : k < t.Idxs.length) : 0 ≤ (t.Idxs.getD k d_Idx).Col ∧ (t.Idxs.getD k d_Idx).Col < (t.Cols.length : Int) ∧ 0 ≤ (t.Idxs.getD k d_Idx).Stage ∧ (t.Idxs.getD k d_Idx).Stage ≤ 3 ∧ (t.Idxs.getD k d_Idx).Name.length = 1 := by
  obtain ⟨a, b, c, d, e⟩ := (GoodT.of h).idx k hk
  exact ⟨by omega, c, d, e, a⟩
theorem col_len {t : DTable} (h : s_GoodTable t = true) : ∀ c ∈ t.Cols, c.length ≤ 3 := by
  rw [s_GoodTable_eq, l24Cols_eq] at h
  simp only [Bool.and_eq_true] at h
  have h2 := h.1.1.2.1
  intro c hc
  obtain ⟨k, hk, rfl⟩ := List.mem_iff_getElem.1 hc
  have h3 := List.all_eq_true.1 h2 k (List.mem_range.2 hk)
  unfold colOk at h3
  rw [Bool.and_eq_true, getD_eq hk] at h3
  have := letters_len h3.1
  omega
theorem join_cols {t : DTable} (h : s_GoodTable t = true) : (g_strings_Join t.Cols ([44] : Str)).length ≤ 1073741824 := by
  have h1 := inter_len t.Cols (col_len h)
  have h2 := (GoodT.of h).cols
  unfold g_strings_Join; omega
theorem l1Num_eq {n : Int} (h : 0 ≤ n ∧ n ≤ 9) : s_l1Num n = g_strconv_Itoa n := by
  have : n = 0 ∨ n = 1 ∨ n = 2 ∨ n = 3 ∨ n = 4 ∨ n = 5 ∨ n = 6 ∨ n = 7 ∨ n = 8 ∨ n = 9 := by omega
  rcases this with rfl | rfl | rfl | rfl | rfl | rfl | rfl | rfl | rfl | rfl <;> decide
theorem rf_l1Num (n : Int) : (s_l1Num n).length = 1 := rfl
theorem rf_Itoa (n : Int) : (g_strconv_Itoa n).length = 1 := rfl
theorem tableText_eq {t : DTable} (h : s_GoodTable t = true) : i_tableText t = s_l24Text t := by
  unfold i_tableText s_l24Text
  rw [Join_eq]
  congr 1
  refine loopM_congr _ _ _ fun j s _ hj => ?_
  have hg := gt_idx h (k := j) oM
  unfold B_i_tableText_0 B_s_l24Text_0
  dsimp only
  rw [l1Num_eq oM]
theorem TableText_eq (t : DTable) : i_TableText t = s_TableText t := by
  unfold i_TableText s_TableText
  rw [GoodTable_eq]
  cases h : s_GoodTable t
  · rfl
  · rw [cond_true, cond_true, tableText_eq h]
theorem iand_u8 (a : Int) : 0 ≤ IntKind.wrap .i64 (iand .u64 a 255) ∧ IntKind.wrap .i64 (iand .u64 a 255) ≤ 255 := by
  have := iand_255 a
  rw [wrap_in oM]; exact this
theorem getD_len {l : List Str} {m : Nat} (h : ∀ y ∈ l, y.length ≤ m) (k : Nat) : (l.getD k d_Str).length ≤ m := by
  rcases Nat.lt_or_ge k l.length with hk | hk
  · exact h _ (getD_mem hk)
  · rw [List.getD, List.getElem?_eq_none hk]; exact Nat.zero_le _
theorem of_len (m : Nat) (c : List Int) (s : Int × Int) (l : List Str) (h : ∀ y ∈ l, y.length ≤ m) : (u_of c s l).1.length ≤ m := by
  unfold u_of
  exact getD_len h _
def drawT (t : DTable) : Prop := t.Name.length ≤ 1 ∧ 2 ≤ t.Cols.length ∧ t.Cols.length ≤ 4 ∧ t.Idxs.length ≤ 3 ∧ ∀ k, k < t.Idxs.length → (t.Idxs.getD k d_Idx).Name.length ≤ 1 ∧ 0 ≤ (t.Idxs.getD k d_Idx).Col ∧ (t.Idxs.getD k d_Idx).Col < (t.Cols.length : Int)
theorem next_rng {c : List Int} (h : codeOk c) (s : Int × Int) : 0 ≤ (u_next c s).1 ∧ (u_next c s).1 ≤ 255 := by
  have h1 := codeOk_at h (s.1).toNat
  unfold u_next
  cases decide (s.1 < (c.length : Int))
  · cases decide ((IntKind.wrap .i64 (s.1 + 1)) ≤ (c.length : Int))
    · exact iand_u8 _
    · exact ⟨Int.le_refl _, (by decide : (0 : Int) ≤ 255)⟩
  · cases decide ((IntKind.wrap .i64 (s.1 + 1)) ≤ (c.length : Int))
    · exact iand_u8 _
    · show 0 ≤ IntKind.wrap .i64 (c.getD ((s.1).toNat) d_U8) ∧ IntKind.wrap .i64 (c.getD ((s.1).toNat) d_U8) ≤ 255
      rw [wrap_in oM]; exact h1
theorem pick_rng {c : List Int} (h : codeOk c) (s : Int × Int) {n : Int} (h1 : 1 ≤ n) (h2 : n ≤ 200) : 0 ≤ (u_pick c s n).1 ∧ (u_pick c s n).1 < n := by
  have h3 := next_rng h s
  unfold u_pick
  by_cases h4 : n ≤ 1
  · rw [decide_eq_true h4]; exact ⟨Int.le_refl _, h1⟩
  · rw [decide_eq_false h4, cond_false, decide_eq_false oM, cond_false]
    have := tmod_rng (a := (u_next c s).1) (b := n) h3.1 oM
    exact ⟨this.1, this.2.1⟩
def idxForm (c : List Int) (T : Int) (x3 : List DIdx) (j : Nat) (o : Out (DTable × (Int × Int)) (Int × Int × (List DIdx))) : Prop :=
  ∃ x', o = .cont x' ∧ (x'.2.2 = x3 ∨ ∃ s' m, x'.2.2 = x3 ++ [(⟨([[105], [106], [109]] : List Str).getD j d_Str, IntKind.wrap .i64 (1 + (u_pick c s' (IntKind.wrap .i64 (T - 1))).1), m⟩ : DIdx)])
theorem bif_P {α : Type} {P : α → Prop} {b : Bool} {x y : α} (h1 : P x) (h2 : P y) : P (bif b then x else y) := by cases b; exact h2; exact h1
theorem table_form (c : List Int) (s : Int × Int) (j : Nat) : ∀ x : Int × Int × List DIdx, idxForm c (((([] : List Str) ++ (([[107], [97], [98], [99, 99]] : List Str).take ((IntKind.wrap .i64 (2 + ((u_pick c ((u_of c s ([[116], [117]] : List Str)).2) 3).1))).toNat))).length : Nat) : Int) x.2.2 j (B_u_table_0 c s j x)
  | (_, _, _) => bif_P (bif_P (bif_P ⟨_, rfl, .inl rfl⟩ ⟨_, rfl, .inr ⟨_, _, rfl⟩⟩) ⟨_, rfl, .inl rfl⟩) ⟨_, rfl, .inr ⟨_, _, rfl⟩⟩
def drawnIx (T : Int) (x : DIdx) : Prop := x.Name.length ≤ 1 ∧ 0 ≤ x.Col ∧ x.Col < T
theorem table_loop {c : List Int} (h : codeOk c) {T : Int} (hT : 2 ≤ T) (hT4 : T ≤ 4) {body : Nat → Int × Int × List DIdx → Out (DTable × (Int × Int)) (Int × Int × List DIdx)} (hb : ∀ j x, idxForm c T x.2.2 j (body j x)) : ∀ (n k : Nat) (x : Int × Int × List DIdx), (∀ y ∈ x.2.2, drawnIx T y) → ∃ x', loopM body n k x = .done x' ∧ (∀ y ∈ x'.2.2, drawnIx T y) ∧ x'.2.2.length ≤ x.2.2.length + n
  | 0, _, x, hx => ⟨x, rfl, hx, Nat.le_refl _⟩
  | n + 1, k, x, hx => by
    obtain ⟨x1, e, h1⟩ := hb k x
    have hx1 : (∀ y ∈ x1.2.2, drawnIx T y) ∧ x1.2.2.length ≤ x.2.2.length + 1 := by
      rcases h1 with h1 | ⟨s', m, h1⟩
      · rw [h1]; exact ⟨hx, Nat.le_succ _⟩
      · rw [h1]
        refine ⟨fun y hy => ?_, by rw [List.length_append]; exact Nat.le_refl _⟩
        rcases List.mem_append.1 hy with hy | hy
        · exact hx y hy
        · rw [List.mem_singleton] at hy; subst hy
          rw [wrap_in (n := T - 1) oM]
          have hp := pick_rng h s' (n := T - 1) oM oM
          have hn := getD_len (l := ([[105], [106], [109]] : List Str)) (m := 1) (by decide) k
          refine ⟨hn, ?_⟩
          dsimp only
          rw [wrap_in oM]; omega
    obtain ⟨x', e2, h2, h3⟩ := table_loop h hT hT4 hb n (k + 1) x1 hx1.1
    refine ⟨x', ?_, h2, by omega⟩
    unfold loopM
    rw [e]; exact e2
theorem rf_table {c : List Int} (h : codeOk c) (s : Int × Int) : drawT (u_table c s).1 := by
  have hp := pick_rng h ((u_of c s ([[116], [117]] : List Str)).2) (n := 3) (by decide) (by decide)
  have hl : ((([] : List Str) ++ (([[107], [97], [98], [99, 99]] : List Str).take ((IntKind.wrap .i64 (2 + ((u_pick c ((u_of c s ([[116], [117]] : List Str)).2) 3).1))).toNat))).length : Nat) = (2 + (u_pick c ((u_of c s ([[116], [117]] : List Str)).2) 3).1).toNat := by
    rw [wrap_in oM, List.length_append, List.length_take]
    simp only [List.length_cons, List.length_nil]; omega
  obtain ⟨x', e, h2, h3⟩ := table_loop h (by rw [hl]; omega) (by rw [hl]; omega) (table_form c s) (3 - 0) 0 (((u_pick c ((u_of c s ([[116], [117]] : List Str)).2) 3).2).1, ((u_pick c ((u_of c s ([[116], [117]] : List Str)).2) 3).2).2, ([] : List DIdx)) (fun y hy => by cases hy)
  unfold u_table
  rw [e]
  refine ⟨of_len 1 c s ([[116], [117]] : List Str) (by decide), ?_, ?_, h3, fun k hk => ?_⟩
  · show 2 ≤ (([] : List Str) ++ _).length
    rw [hl]; omega
  · show (([] : List Str) ++ _).length ≤ 4
    rw [hl]; omega
  · have := h2 _ (getD_mem (d := d_Idx) hk)
    exact ⟨this.1, this.2.1, this.2.2⟩

theorem sp_inter (c : UInt8) : ∀ xs : List Str, 0 < xs.length → (∀ x ∈ xs, c ∉ x) → sp c (([c] : Str).intercalate xs) = xs
  | [], h, _ => absurd h (Nat.lt_irrefl _)
  | [x], _, h => by rw [inter_one]; exact sp_none (h x (by simp))
  | x :: y :: zs, _, h => by
    rw [inter_cons, show x ++ (([c] : Str) ++ ([c] : Str).intercalate (y :: zs)) = x ++ c :: ([c] : Str).intercalate (y :: zs) from rfl, sp_some (h x (by simp)), sp_inter c (y :: zs) (Nat.succ_pos _) fun z hz => h z (List.mem_cons_of_mem _ hz)]
theorem qSameS_refl (a : List Str) : l_qSameS a a = true := by
  unfold l_qSameS
  rw [decide_eq_true rfl, cond_true]
  rw [allE d_Str (fun _ => true) (r := false) fun k => by unfold B_l_qSameS_0; rw [beq_self_eq_true]]
  simp
theorem IdxAt_i (t : DTable) (n : Str) : i_IdxAt t n = bif i_hasIdx t n then (i_Table_idx t n, true) else (⟨[], 0, 0⟩, false) := rfl
theorem rf_Cut (s sep : Str) : (g_strings_Cut s sep).1.length ≤ s.length ∧ (g_strings_Cut s sep).2.1.length ≤ s.length := by
  unfold g_strings_Cut g_internal_stringslite_Cut
  cases decide (0 ≤ g_internal_stringslite_Index s sep)
  · exact ⟨Nat.le_refl _, Nat.zero_le _⟩
  · simp only [cond_true, List.length_take, List.length_drop]
    omega
theorem letters_no {s : Str} {m : Int} (h : s_l24Letters s m = true) {c : UInt8} (hc : letter c = false) : c ∉ s := by
  rw [l24Letters_eq, Bool.and_eq_true, Bool.and_eq_true, List.all_eq_true] at h
  intro hm
  rw [h.1.1 _ hm] at hc; cases hc
structure GoodTx (t : DTable) : Prop where
  name : ∀ {c : UInt8}, letter c = false → c ∉ t.Name
  col : ∀ x ∈ t.Cols, ∀ {c : UInt8}, letter c = false → c ∉ x
  idx : ∀ k, k < t.Idxs.length → ∀ {c : UInt8}, letter c = false → c ∉ (t.Idxs.getD k d_Idx).Name
  dist : ∀ k, k < t.Cols.length → ∀ j, j < k → t.Cols.getD j d_Str ≠ t.Cols.getD k d_Str
theorem GoodTx.of {t : DTable} (h : s_GoodTable t = true) : GoodTx t := by
  rw [s_GoodTable_eq, l24Cols_eq] at h
  simp only [Bool.and_eq_true, List.all_eq_true, List.mem_range] at h
  obtain ⟨⟨⟨h1, h2, -⟩, -⟩, h4⟩ := h
  have hcol : ∀ k, k < t.Cols.length → s_l24Letters (t.Cols.getD k d_Str) 3 = true ∧ ((t.Cols.take k).any fun x => x == t.Cols.getD k d_Str) = false := fun k hk => by
    have := h2 k hk
    unfold colOk at this
    rw [Bool.and_eq_true] at this
    exact ⟨this.1, by simpa using this.2⟩
  refine ⟨fun hc => letters_no h1 hc, fun x hx c hc => ?_, fun k hk c hc => ?_, fun k hk j hj e => ?_⟩
  · obtain ⟨k, hk, rfl⟩ := List.mem_iff_getElem.1 hx
    have := (hcol k hk).1
    rw [getD_eq hk] at this
    exact letters_no this hc
  · have := h4 k hk
    unfold idxOk at this
    simp only [Bool.and_eq_true] at this
    exact letters_no this.1.1.1 hc
  · have h5 := (hcol k hk).2
    rw [List.any_eq_false] at h5
    refine h5 (t.Cols.getD j d_Str) ?_ (by rw [e]; exact beq_self_eq_true _)
    rw [getD_eq (by omega : j < t.Cols.length)]
    exact List.mem_take_iff_getElem.2 ⟨j, oM, rfl⟩
theorem idxF_at {f : Str → Bool} {d : Str} {xs : List Str} {k : Nat} (hk : k < xs.length) (ht : f (xs.getD k d) = true) (hb : ∀ j, j < k → f (xs.getD j d) = false) : idxF f d xs = (k : Int) := by
  rcases idxF_spec f d xs with ⟨_, h2⟩ | ⟨i, hi, h1, h2, h3⟩
  · rw [h2 _ (getD_mem hk)] at ht; cases ht
  · rw [h1]
    rcases Nat.lt_trichotomy i k with h | h | h
    · have := hb i h; rw [getD_eq hi, h2] at this; cases this
    · rw [h]
    · have := h3 k h; rw [getD_eq hk, this] at ht; cases ht
theorem at_col {t : DTable} (h : s_GoodTable t = true) {k : Nat} (hk : k < t.Cols.length) : s_l24At t.Cols (t.Cols.getD k d_Str) = (k : Int) ∧ g_slices_Index_string t.Cols (t.Cols.getD k d_Str) = (k : Int) := by
  have hd := (GoodTx.of h).dist k hk
  exact ⟨idxF_at (f := fun x => x == t.Cols.getD k d_Str) (d := d_Str) hk (beq_self_eq_true _) fun j hj => beq_eq_false_iff_ne.2 (hd j hj),
    idxF_at (f := fun x => t.Cols.getD k d_Str == x) (d := d_Str) hk (beq_self_eq_true _) fun j hj => beq_eq_false_iff_ne.2 fun e => hd j hj e.symm⟩
def idxW (t : DTable) (x : DIdx) : Str := x.Name ++ 47 :: (t.Cols.getD x.Col.toNat d_Str ++ 47 :: s_l1Num x.Stage)
def headW (t : DTable) : Str := t.Name ++ 40 :: g_strings_Join t.Cols ([44] : Str)
def tailW (ws : List Str) : Str := (ws.map fun w => (32 : UInt8) :: w).flatten
theorem l24Text_eq (t : DTable) : s_l24Text t = headW t ++ 41 :: tailW (t.Idxs.map (idxW t)) := by
  unfold s_l24Text
  rw [catE (body := B_s_l24Text_0 t) (xs := t.Idxs) d_Idx (fun x => (32 : UInt8) :: idxW t x) fun k x _ => by
    unfold B_s_l24Text_0 idxW
    simp only [List.append_assoc, List.singleton_append, List.cons_append, List.nil_append]]
  rw [Join_eq]
  unfold headW tailW
  simp only [List.append_assoc, List.singleton_append, List.cons_append, List.nil_append, List.map_map]
  rfl
theorem sp_words {c : UInt8} : ∀ (ws : List Str) {h : Str}, c ∉ h → (∀ w ∈ ws, c ∉ w) → sp c (h ++ (ws.map fun w => c :: w).flatten) = h :: ws
  | [], h, hh, _ => by rw [List.map_nil, List.flatten_nil, List.append_nil, sp_none hh]
  | w :: ws, h, hh, hw => by
    rw [List.map_cons, List.flatten_cons, List.cons_append, sp_some hh, sp_words ws (hw w List.mem_cons_self) fun x hx => hw x (List.mem_cons_of_mem _ hx)]
theorem digit_no {n : Int} (h : 0 ≤ n ∧ n ≤ 3) {c : UInt8} (hc : c.toNat < 48 ∨ 51 < c.toNat) : c ∉ s_l1Num n := by
  have : n = 0 ∨ n = 1 ∨ n = 2 ∨ n = 3 := by omega
  intro hm
  rcases this with rfl | rfl | rfl | rfl
  · rw [show s_l1Num 0 = [48] from rfl, List.mem_singleton] at hm; subst hm; exact absurd hc (by decide)
  · rw [show s_l1Num 1 = [49] from rfl, List.mem_singleton] at hm; subst hm; exact absurd hc (by decide)
  · rw [show s_l1Num 2 = [50] from rfl, List.mem_singleton] at hm; subst hm; exact absurd hc (by decide)
  · rw [show s_l1Num 3 = [51] from rfl, List.mem_singleton] at hm; subst hm; exact absurd hc (by decide)
theorem col_mem {t : DTable} (h : s_GoodTable t = true) {k : Nat} (hk : k < t.Idxs.length) : t.Cols.getD (t.Idxs.getD k d_Idx).Col.toNat d_Str ∈ t.Cols := by
  have := gt_idx h hk
  exact getD_mem oM
theorem word_no {t : DTable} (h : s_GoodTable t = true) : ∀ w ∈ t.Idxs.map (idxW t), (32 : UInt8) ∉ w := by
  intro w hw
  obtain ⟨x, hx, rfl⟩ := List.mem_map.1 hw
  obtain ⟨k, hk, rfl⟩ := List.mem_iff_getElem.1 hx
  have hx := GoodTx.of h
  have h1 := hx.idx k hk (c := 32) (by decide)
  have h2 := hx.col _ (col_mem h hk) (c := 32) (by decide)
  have h3 := digit_no (n := (t.Idxs.getD k d_Idx).Stage) (by have := gt_idx h hk; omega) (c := 32) (.inl (by decide))
  rw [getD_eq hk] at h1 h2 h3
  unfold idxW
  simp only [List.mem_append, List.mem_cons, not_or]
  exact ⟨h1, by decide, h2, by decide, h3⟩
theorem word_sp {t : DTable} (h : s_GoodTable t = true) {k : Nat} (hk : k < t.Idxs.length) : sp 47 (idxW t (t.Idxs.getD k d_Idx)) = [(t.Idxs.getD k d_Idx).Name, t.Cols.getD (t.Idxs.getD k d_Idx).Col.toNat d_Str, s_l1Num (t.Idxs.getD k d_Idx).Stage] := by
  have hx := GoodTx.of h
  unfold idxW
  rw [sp_some (hx.idx k hk (by decide)), sp_some (hx.col _ (col_mem h hk) (by decide)), sp_none (digit_no (by have := gt_idx h hk; omega) (.inl (by decide)))]
theorem join_no {t : DTable} (h : s_GoodTable t = true) {c : UInt8} (hc : letter c = false) (h44 : c ≠ 44) : c ∉ g_strings_Join t.Cols ([44] : Str) := by
  have key : ∀ xs : List Str, (∀ x ∈ xs, c ∉ x) → c ∉ ([44] : Str).intercalate xs := by
    intro xs
    induction xs with
    | nil => intro _ hm; cases hm
    | cons x xs ih =>
      intro hx
      cases xs with
      | nil => intro hm; rw [show ([44] : Str).intercalate [x] = x by simp [List.intercalate]] at hm; exact hx x List.mem_cons_self hm
      | cons y ys =>
        have h2 := ih fun z hz => hx z (List.mem_cons_of_mem _ hz)
        rw [show ([44] : Str).intercalate (x :: y :: ys) = x ++ 44 :: ([44] : Str).intercalate (y :: ys) by simp [List.intercalate]]
        simp only [List.mem_append, List.mem_cons, not_or]
        exact ⟨hx x List.mem_cons_self, h44, h2⟩
  exact key t.Cols fun x hx => (GoodTx.of h).col x hx hc
theorem head_no {t : DTable} (h : s_GoodTable t = true) {c : UInt8} (hc : letter c = false) (h44 : c ≠ 44) (h40 : c ≠ 40) : c ∉ headW t := by
  unfold headW
  simp only [List.mem_append, List.mem_cons, not_or]
  exact ⟨(GoodTx.of h).name hc, h40, join_no h hc h44⟩
theorem cols_sp {t : DTable} (h : s_GoodTable t = true) : sp 44 (g_strings_Join t.Cols ([44] : Str)) = t.Cols :=
  sp_inter 44 t.Cols (by have := (GoodT.of h).cols; omega) fun x hx => (GoodTx.of h).col x hx (by decide)

theorem walkTo {α ρ T : Type} {body : Nat → List α → Out ρ (List α)} {fr : ρ → T} {fd : List α → T} (xs : List α) (hb : ∀ k, k < xs.length → body k (xs.take k) = .cont (xs.take (k + 1))) :
    loopE (loopM body (xs.length - 0) 0 []) fr fd = fd xs := by
  refine loopM_val (fun k s => s = xs.take k) (fun v => v = fd xs) rfl (fun s hs => by rw [hs, List.take_of_length_le oM]) ?_
  intro j s _ hj hs
  rw [hs, hb j oM]
theorem text_words {t : DTable} (h : s_GoodTable t = true) : s_l1Split (s_l24Text t) 32 = (headW t ++ [41]) :: t.Idxs.map (idxW t) := by
  rw [show s_l1Split (s_l24Text t) 32 = sp 32 (s_l24Text t) from l1Split_sp _ 32, l24Text_eq]
  rw [show headW t ++ 41 :: tailW (t.Idxs.map (idxW t)) = (headW t ++ [41]) ++ ((t.Idxs.map (idxW t)).map fun w => (32 : UInt8) :: w).flatten by rw [List.append_assoc]; rfl]
  refine sp_words _ ?_ (word_no h)
  rw [List.mem_append, not_or]
  exact ⟨head_no h (by decide) (by decide) (by decide), by decide⟩
theorem l24Read_word {t u : DTable} (h : s_GoodTable t = true) (hu : u.Cols = t.Cols) {k : Nat} (hk : k < t.Idxs.length) : s_l24Read u (idxW t (t.Idxs.getD k d_Idx)) = (t.Idxs.getD k d_Idx, true) := by
  have hg := gt_idx h hk
  have hw := word_sp h hk
  unfold s_l24Read
  rw [show s_l1Split (idxW t (t.Idxs.getD k d_Idx)) 47 = _ from (l1Split_sp _ 47).trans hw, hu]
  have hs : (t.Idxs.getD k d_Idx).Stage = 0 ∨ (t.Idxs.getD k d_Idx).Stage = 1 ∨ (t.Idxs.getD k d_Idx).Stage = 2 ∨ (t.Idxs.getD k d_Idx).Stage = 3 := by omega
  have hc : s_l24At t.Cols (t.Cols.getD (t.Idxs.getD k d_Idx).Col.toNat d_Str) = (t.Idxs.getD k d_Idx).Col := by
    rw [(at_col h (k := (t.Idxs.getD k d_Idx).Col.toNat) oM).1]; omega
  generalize t.Idxs.getD k d_Idx = x at *
  obtain ⟨xn, xc, xs⟩ := x
  simp only at hs hc ⊢
  rcases hs with rfl | rfl | rfl | rfl
  all_goals
    simp only [List.length_cons, List.length_nil, List.getD_cons_zero, List.getD_cons_succ]
    rw [hc]
    rfl
theorem ReadTable_text {t : DTable} (h : s_GoodTable t = true) : s_ReadTable (s_l24Text t) = (t, true) := by
  have hw := text_words h
  have hT := GoodT.of h
  obtain ⟨n, hn⟩ : ∃ n, t.Name = [n] := by
    have := hT.name
    match hN : t.Name, this with
    | [n], _ => exact ⟨n, rfl⟩
  have hH : headW t ++ [41] = n :: 40 :: (g_strings_Join t.Cols ([44] : Str) ++ [41]) := by unfold headW; rw [hn]; rfl
  have hJ := join_cols h
  unfold s_ReadTable
  have e0 : (s_l1Split (s_l24Text t) 32).getD 0 d_Str = n :: 40 :: (g_strings_Join t.Cols ([44] : Str) ++ [41]) := by rw [hw, ← hH]; rfl
  have el : (n :: 40 :: (g_strings_Join t.Cols ([44] : Str) ++ [41])).length = (g_strings_Join t.Cols ([44] : Str)).length + 3 := by simp
  have ew : IntKind.wrap .i64 (((n :: 40 :: (g_strings_Join t.Cols ([44] : Str) ++ [41])).length : Int) - 1) = ((g_strings_Join t.Cols ([44] : Str)).length + 2 : Nat) := by
    rw [el, wrap_in oM]; omega
  have e1 : ((n :: 40 :: (g_strings_Join t.Cols ([44] : Str) ++ [41])).take ((g_strings_Join t.Cols ([44] : Str)).length + 2)).drop 2 = g_strings_Join t.Cols ([44] : Str) := by
    rw [List.take_succ_cons, List.take_succ_cons, List.drop_succ_cons, List.drop_succ_cons, List.drop_zero, List.take_left']
    rfl
  have e2 : (n :: 40 :: (g_strings_Join t.Cols ([44] : Str) ++ [41])).getD ((g_strings_Join t.Cols ([44] : Str)).length + 2) 0 = 41 := by
    rw [List.getD_cons_succ, List.getD_cons_succ]
    simp [List.getD]
  have e3 : s_l1Split (g_strings_Join t.Cols ([44] : Str)) 44 = t.Cols := by rw [show s_l1Split (g_strings_Join t.Cols ([44] : Str)) 44 = sp 44 _ from l1Split_sp _ 44, cols_sp h]
  have e4 : (s_l1Split (s_l24Text t) 32).drop 1 = t.Idxs.map (idxW t) := by rw [hw]; rfl
  simp only [e0, ew, Int.toNat_natCast, e1, e2, e3, e4]
  rw [decide_eq_false (by rw [el]; omega), cond_false]
  rw [show (n :: 40 :: (g_strings_Join t.Cols ([44] : Str) ++ [41])).getD 1 0 = 40 from rfl, show decide (((40 : UInt8).toNat : Int) = 40) = true from rfl, show decide (((41 : UInt8).toNat : Int) = 41) = true from rfl, cond_true, cond_true]
  have ht : (n :: 40 :: (g_strings_Join t.Cols ([44] : Str) ++ [41])).take 1 = t.Name := by rw [hn]; rfl
  simp only [ht]
  rw [List.length_map]
  rw [walkTo t.Idxs fun k hk => by
    unfold B_s_ReadTable_0
    simp only [e0, ew, Int.toNat_natCast, e1, e3, e4, ht]
    have hk' : k < (t.Idxs.map (idxW t)).length := by rw [List.length_map]; exact hk
    have ek : (t.Idxs.map (idxW t)).getD k d_Str = idxW t (t.Idxs.getD k d_Idx) := by rw [getD_eq hk', List.getElem_map, getD_eq hk]
    rw [ek, l24Read_word (u := ⟨t.Name, t.Cols, t.Idxs.take k⟩) h rfl hk, List.take_succ_eq_append_getElem hk, ← getD_eq (d := d_Idx) hk]
    rfl]
  rw [show (⟨t.Name, t.Cols, t.Idxs⟩ : DTable) = t from rfl, h, cond_true, beq_self_eq_true, cond_true]

def noTable : DTable × Bool := (⟨[], [], []⟩, false)
theorem bif_out {σ ρ : Type} {c : Bool} {a : σ} {r : ρ} : (bif c then Out.cont a else Out.ret r) = Out.ret r ∨ ∃ y, (bif c then Out.cont a else (Out.ret r : Out ρ σ)) = Out.cont y := by
  cases c
  · exact .inl rfl
  · exact .inr ⟨a, rfl⟩
theorem sRead_cases (s : Str) : s_ReadTable s = noTable ∨ ∃ t, s_ReadTable s = (t, true) ∧ s_GoodTable t = true ∧ s_l24Text t = s := by
  unfold s_ReadTable
  cases decide ((((s_l1Split s 32).getD 0 d_Str).length : Int) < 3)
  case true => exact .inl rfl
  rw [cond_false]
  cases decide (((((s_l1Split s 32).getD 0 d_Str).getD 1 0).toNat : Int) = 40)
  case false => exact .inl rfl
  rw [cond_true]
  cases decide (((((s_l1Split s 32).getD 0 d_Str).getD (IntKind.wrap .i64 ((((s_l1Split s 32).getD 0 d_Str).length : Int) - 1)).toNat 0).toNat : Int) = 41)
  case false => exact .inl rfl
  rw [cond_true]
  refine loopM_val (fun _ _ => True) (fun v => v = noTable ∨ ∃ t, v = (t, true) ∧ s_GoodTable t = true ∧ s_l24Text t = s) trivial (fun x _ => ?_) fun j x _ _ _ => ?_
  · generalize (⟨((s_l1Split s 32).getD 0 d_Str).take 1, _, x⟩ : DTable) = t
    cases hg : s_GoodTable t
    · exact .inl rfl
    · cases hb : s_l24Text t == s
      · exact .inl rfl
      · exact .inr ⟨t, rfl, hg, by simpa using hb⟩
  · have hb : B_s_ReadTable_0 s j x = .ret noTable ∨ ∃ y, B_s_ReadTable_0 s j x = .cont y := bif_out
    rcases hb with hb | ⟨y, hb⟩ <;> rw [hb]
    · exact .inl rfl
    · trivial
theorem iRead_cases (s : Str) : i_ReadTable s = noTable ∨ ∃ t, i_ReadTable s = (t, true) ∧ s_GoodTable t = true ∧ s_l24Text t = s := by
  unfold i_ReadTable
  refine loopM_val (fun _ _ => True) (fun v => v = noTable ∨ ∃ t, v = (t, true) ∧ s_GoodTable t = true ∧ s_l24Text t = s) trivial (fun x _ => ?_) fun j x _ _ _ => ?_
  · obtain ⟨x1, x2⟩ := x
    dsimp only
    generalize (⟨(g_strings_Cut ((g_strings_Cut s ([41] : Str)).1) ([40] : Str)).1, _, x2⟩ : DTable) = t
    cases x1
    · exact .inl rfl
    · cases (g_strings_Cut ((g_strings_Cut s ([41] : Str)).1) ([40] : Str)).2.2
      · exact .inl rfl
      · rw [GoodTable_eq]
        cases hg : s_GoodTable t
        · exact .inl rfl
        · rw [tableText_eq hg]
          cases hb : s_l24Text t == s
          · exact .inl rfl
          · exact .inr ⟨t, rfl, hg, by simpa using hb⟩
  · obtain ⟨x1, x2⟩ := x
    unfold B_i_ReadTable_0
    dsimp only
    cases decide ((j : Int) = 0)
    · rw [cond_false]
      cases decide (((g_strings_Split ((g_strings_Split ((g_strings_Cut s ([41] : Str)).2.1) ([32] : Str)).getD j d_Str) ([47] : Str)).length : Int) = 3)
      · exact .inl rfl
      · cases x1 <;> trivial
    · trivial
theorem readInt_num {n : Int} (h : 0 ≤ n ∧ n ≤ 3) : i_readInt (s_l1Num n) 0 3 = (n, true) := by
  have : n = 0 ∨ n = 1 ∨ n = 2 ∨ n = 3 := by omega
  rcases this with rfl | rfl | rfl | rfl <;> rfl
theorem iRead_text {t : DTable} (h : s_GoodTable t = true) : i_ReadTable (s_l24Text t) = (t, true) := by
  have hx := GoodTx.of h
  have hT := GoodT.of h
  have hJ : (g_strings_Join t.Cols ([44] : Str)).length ≤ 100 := by
    have h1 := inter_len t.Cols (col_len h)
    have h2 := hT.cols
    unfold g_strings_Join; omega
  have hl : (headW t).length ≤ 1073741824 := by unfold headW; rw [List.length_append, List.length_cons, hT.name]; omega
  have hc1 : g_strings_Cut (s_l24Text t) ([41] : Str) = (headW t, tailW (t.Idxs.map (idxW t)), true) := by
    rw [l24Text_eq, Cut_some (head_no h (by decide) (by decide) (by decide)) hl]
  have hc2 : g_strings_Cut (headW t) ([40] : Str) = (t.Name, g_strings_Join t.Cols ([44] : Str), true) := by
    unfold headW; rw [Cut_some (hx.name (by decide)) (by rw [hT.name]; omega)]
  have hs1 : g_strings_Split (tailW (t.Idxs.map (idxW t))) ([32] : Str) = [] :: t.Idxs.map (idxW t) :=
    sp_words (h := []) (t.Idxs.map (idxW t)) (by simp) (word_no h)
  have hs2 : g_strings_Split (g_strings_Join t.Cols ([44] : Str)) ([44] : Str) = t.Cols := cols_sp h
  unfold i_ReadTable
  simp only [hc1, hc2, hs1, hs2]
  refine loopM_val (fun k s => s = (true, t.Idxs.take (k - 1))) (fun v => v = (t, true)) rfl ?_ ?_
  · intro s hs
    subst hs
    simp only
    rw [show 0 + (([] :: t.Idxs.map (idxW t) : List Str).length - 0) - 1 = t.Idxs.length by simp, List.take_length]
    rw [show (⟨t.Name, t.Cols, t.Idxs⟩ : DTable) = t from rfl, GoodTable_eq, h, cond_true, cond_true, cond_true, tableText_eq h, beq_self_eq_true, cond_true]
  · intro j s _ hj hs
    subst hs
    unfold B_i_ReadTable_0
    simp only [hc1, hc2, hs1, hs2]
    rcases j with _ | j
    · rfl
    · have hj' : j < t.Idxs.length := by simp at hj; omega
      have hg := gt_idx h hj'
      have hjm : j < (t.Idxs.map (idxW t)).length := by rw [List.length_map]; exact hj'
      have ek : ([] :: t.Idxs.map (idxW t) : List Str).getD (j + 1) d_Str = idxW t (t.Idxs.getD j d_Idx) := by rw [List.getD_cons_succ, getD_eq hjm, List.getElem_map, getD_eq hj']
      have hw : g_strings_Split (idxW t (t.Idxs.getD j d_Idx)) ([47] : Str) = _ := word_sp h hj'
      rw [decide_eq_false oM, cond_false, ek, hw]
      have hcol : g_slices_Index_string t.Cols (t.Cols.getD (t.Idxs.getD j d_Idx).Col.toNat d_Str) = (t.Idxs.getD j d_Idx).Col := by
        rw [(at_col h (k := (t.Idxs.getD j d_Idx).Col.toNat) oM).2]; omega
      have hn := readInt_num (n := (t.Idxs.getD j d_Idx).Stage) oM
      simp only [List.getD_cons_zero, List.getD_cons_succ, hn, hcol]
      show (true, t.Idxs.take (j + 1 - 1) ++ [t.Idxs.getD j d_Idx]) = (true, t.Idxs.take (j + 1 + 1 - 1))
      rw [Nat.add_sub_cancel, Nat.add_sub_cancel, List.take_succ_eq_append_getElem hj', getD_eq hj']
theorem ReadTable_eq (s : Str) : i_ReadTable s = s_ReadTable s := by
  rcases sRead_cases s with hs | ⟨t, hs, hg, ht⟩
  · rcases iRead_cases s with hi | ⟨u, hi, hg, hu⟩
    · rw [hs, hi]
    · have := ReadTable_text hg
      rw [hu, hs] at this
      exact absurd (congrArg Prod.snd this) Bool.false_ne_true
  · rw [hs, ← ht]; exact iRead_text hg
def ixNm : List Str := [([105] : Str), ([106] : Str), ([109] : Str)]
def idxForm2 (c : List Int) (T : Int) (x3 : List DIdx) (j : Nat) (o : Out (DTable × (Int × Int)) (Int × Int × (List DIdx))) : Prop :=
  ∃ x', o = .cont x' ∧ (x'.2.2 = x3 ∨ ∃ s' s'', x'.2.2 = x3 ++ [(⟨([[105], [106], [109]] : List Str).getD j d_Str, IntKind.wrap .i64 (1 + (u_pick c s' (IntKind.wrap .i64 (T - 1))).1), (u_pick c s'' 4).1⟩ : DIdx)])
theorem table_form2 (c : List Int) (s : Int × Int) (j : Nat) : ∀ x : Int × Int × List DIdx, idxForm2 c (((([] : List Str) ++ (([[107], [97], [98], [99, 99]] : List Str).take ((IntKind.wrap .i64 (2 + ((u_pick c ((u_of c s ([[116], [117]] : List Str)).2) 3).1))).toNat))).length : Nat) : Int) x.2.2 j (B_u_table_0 c s j x)
  | (_, _, _) => bif_P (bif_P (bif_P ⟨_, rfl, .inl rfl⟩ ⟨_, rfl, .inr ⟨_, _, rfl⟩⟩) ⟨_, rfl, .inl rfl⟩) ⟨_, rfl, .inr ⟨_, _, rfl⟩⟩
def ixG (T : Int) (k : Nat) (y : DIdx) : Prop := (∃ i, i < k ∧ i < 3 ∧ y.Name = ixNm.getD i d_Str) ∧ 1 ≤ y.Col ∧ y.Col < T ∧ 0 ≤ y.Stage ∧ y.Stage ≤ 3
def ixL (T : Int) (k : Nat) (l : List DIdx) : Prop := (∀ y ∈ l, ixG T k y) ∧ l.Pairwise (fun a b => a.Name < b.Name) ∧ l.length ≤ k
theorem nm_lt : ∀ i j, i < j → j < 3 → ixNm.getD i d_Str < ixNm.getD j d_Str := by
  intro i j h1 h2
  have : (i = 0 ∧ j = 1) ∨ (i = 0 ∧ j = 2) ∨ (i = 1 ∧ j = 2) := by omega
  rcases this with ⟨rfl, rfl⟩ | ⟨rfl, rfl⟩ | ⟨rfl, rfl⟩ <;> decide
theorem table_loop2 {c : List Int} (h : codeOk c) {T : Int} (hT : 2 ≤ T) (hT4 : T ≤ 4) {body : Nat → Int × Int × List DIdx → Out (DTable × (Int × Int)) (Int × Int × List DIdx)} (hb : ∀ j x, idxForm2 c T x.2.2 j (body j x)) : ∀ (n k : Nat) (x : Int × Int × List DIdx), n + k = 3 → ixL T k x.2.2 → ∃ x', loopM body n k x = .done x' ∧ ixL T 3 x'.2.2
  | 0, k, x, hk, hx => by
    obtain rfl : k = 3 := by omega
    exact ⟨x, rfl, hx⟩
  | n + 1, k, x, hk, hx => by
    obtain ⟨x1, e, h1⟩ := hb k x
    have hx1 : ixL T (k + 1) x1.2.2 := by
      obtain ⟨a1, a2, a3⟩ := hx
      have up : ∀ y ∈ x.2.2, ixG T (k + 1) y := fun y hy => by
        obtain ⟨⟨i, i1, i2, i3⟩, r⟩ := a1 y hy
        exact ⟨⟨i, oM, i2, i3⟩, r⟩
      rcases h1 with h1 | ⟨s', s'', h1⟩
      · rw [h1]; exact ⟨up, a2, by omega⟩
      · rw [h1]
        refine ⟨fun y hy => ?_, ?_, by rw [List.length_append, List.length_singleton]; omega⟩
        · rcases List.mem_append.1 hy with hy | hy
          · exact up y hy
          · rw [List.mem_singleton] at hy; subst hy
            rw [wrap_in (n := T - 1) oM]
            have hp := pick_rng h s' (n := T - 1) oM oM
            have hp2 := pick_rng h s'' (n := 4) oM oM
            refine ⟨⟨k, oM, by omega, rfl⟩, ?_⟩
            dsimp only
            rw [wrap_in oM]; omega
        · rw [List.pairwise_append]
          refine ⟨a2, List.pairwise_singleton _ _, fun a ha b hb => ?_⟩
          rw [List.mem_singleton] at hb; subst hb
          obtain ⟨⟨i, i1, i2, i3⟩, -⟩ := a1 a ha
          show a.Name < _
          rw [i3]
          exact nm_lt i k i1 oM
    obtain ⟨x', e2, h2⟩ := table_loop2 h hT hT4 hb n (k + 1) x1 oM hx1
    refine ⟨x', ?_, h2⟩
    unfold loopM
    rw [e]; exact e2
theorem name_tu {c : List Int} (h : codeOk c) (s : Int × Int) : (u_of c s ([[116], [117]] : List Str)).1 = [116] ∨ (u_of c s ([[116], [117]] : List Str)).1 = [117] := by
  have hp := pick_rng h s (n := 2) oM oM
  unfold u_of
  dsimp only [List.length_cons, List.length_nil]
  have : (u_pick c s 2).1 = 0 ∨ (u_pick c s 2).1 = 1 := by omega
  rcases this with h0 | h0
  · left; show List.getD _ (u_pick c s 2).1.toNat _ = _; rw [h0]; rfl
  · right; show List.getD _ (u_pick c s 2).1.toNat _ = _; rw [h0]; rfl
theorem good_table {c : List Int} (h : codeOk c) (s : Int × Int) : s_GoodTable (u_table c s).1 = true := by
  have hp := pick_rng h ((u_of c s ([[116], [117]] : List Str)).2) (n := 3) (by decide) (by decide)
  have hw : (IntKind.wrap .i64 (2 + ((u_pick c ((u_of c s ([[116], [117]] : List Str)).2) 3).1))) = 2 + ((u_pick c ((u_of c s ([[116], [117]] : List Str)).2) 3).1) := wrap_in oM
  have hl : ((([] : List Str) ++ (([[107], [97], [98], [99, 99]] : List Str).take ((IntKind.wrap .i64 (2 + ((u_pick c ((u_of c s ([[116], [117]] : List Str)).2) 3).1))).toNat))).length : Nat) = (2 + (u_pick c ((u_of c s ([[116], [117]] : List Str)).2) 3).1).toNat := by
    rw [hw, List.length_append, List.length_take]
    simp only [List.length_cons, List.length_nil]; omega
  obtain ⟨x', e, h2, h3, h4⟩ := table_loop2 h (by rw [hl]; omega) (by rw [hl]; omega) (table_form2 c s) (3 - 0) 0 (((u_pick c ((u_of c s ([[116], [117]] : List Str)).2) 3).2).1, ((u_pick c ((u_of c s ([[116], [117]] : List Str)).2) 3).2).2, ([] : List DIdx)) rfl ⟨fun y hy => (by cases hy), List.Pairwise.nil, Nat.le_refl _⟩
  have et : (u_table c s).1 = (⟨(u_of c s ([[116], [117]] : List Str)).1, (([] : List Str) ++ (([[107], [97], [98], [99, 99]] : List Str).take ((IntKind.wrap .i64 (2 + ((u_pick c ((u_of c s ([[116], [117]] : List Str)).2) 3).1))).toNat))), x'.2.2⟩ : DTable) := by
    unfold u_table
    rw [e]; rfl
  rw [et, s_GoodTable_eq]
  simp only [Bool.and_eq_true]
  refine ⟨⟨⟨?_, ?_⟩, by simpa using h4⟩, ?_⟩
  · rcases name_tu h s with e | e <;> rw [e] <;> decide
  · rw [hw]
    have : (u_pick c ((u_of c s ([[116], [117]] : List Str)).2) 3).1 = 0 ∨ (u_pick c ((u_of c s ([[116], [117]] : List Str)).2) 3).1 = 1 ∨ (u_pick c ((u_of c s ([[116], [117]] : List Str)).2) 3).1 = 2 := by omega
    rcases this with e | e | e <;> rw [e] <;> decide
  · rw [List.all_eq_true]
    intro k hk
    have hk : k < x'.2.2.length := List.mem_range.1 hk
    obtain ⟨⟨i, i1, i2, i3⟩, c1, c2, c3, c4⟩ := h2 _ (getD_mem (d := d_Idx) hk)
    unfold idxOk
    simp only [Bool.and_eq_true]
    refine ⟨⟨⟨?_, ?_⟩, ?_⟩, ?_⟩
    · rw [i3]
      have : i = 0 ∨ i = 1 ∨ i = 2 := by omega
      rcases this with rfl | rfl | rfl <;> decide
    · rw [wrap_in oM]
      unfold s_l1In
      rw [decide_eq_true c1, cond_true, decide_eq_true oM]
    · unfold s_l1In
      rw [decide_eq_true c3, cond_true, decide_eq_true c4]
    · rcases k with _ | k
      · rfl
      · rw [decide_eq_true oM, cond_true, wrap_in oM, show (((k + 1 : Nat) : Int) - 1).toNat = k by omega, sLt_iff]
        have := List.pairwise_iff_getElem.1 h3 k (k + 1) oM hk (Nat.lt_succ_self _)
        rw [getD_eq (by omega : k < x'.2.2.length), getD_eq hk]
        exact this
theorem tailW_len {m : Nat} : ∀ {ws : List Str}, (∀ w ∈ ws, w.length ≤ m) → (tailW ws).length ≤ (m + 1) * ws.length
  | [], _ => Nat.le_refl _
  | w :: ws, h => by
    have h1 := tailW_len (ws := ws) fun x hx => h x (List.mem_cons_of_mem _ hx)
    have h2 := h w List.mem_cons_self
    unfold tailW at h1 ⊢
    rw [List.map_cons, List.flatten_cons, List.length_append, List.length_cons, List.length_cons, Nat.mul_succ]
    omega
theorem len_l24Text {t : DTable} (h : s_GoodTable t = true) : (s_l24Text t).length ≤ 1000 := by
  have hT := GoodT.of h
  have hJ : (g_strings_Join t.Cols ([44] : Str)).length ≤ 100 := by
    have h1 := inter_len t.Cols (col_len h)
    have h2 := hT.cols
    unfold g_strings_Join; omega
  have hw : ∀ w ∈ t.Idxs.map (idxW t), w.length ≤ 7 := by
    intro w hw
    obtain ⟨x, hx, rfl⟩ := List.mem_map.1 hw
    obtain ⟨k, hk, rfl⟩ := List.mem_iff_getElem.1 hx
    have h1 := (gt_idx h hk).2.2.2.2
    have h2 := col_len h _ (col_mem h hk)
    rw [getD_eq hk] at h1 h2
    unfold idxW
    simp only [List.length_append, List.length_cons, rf_l1Num]
    omega
  have h3 := tailW_len hw
  rw [List.length_map] at h3
  have h4 := hT.idxs
  have h5 := hT.name
  rw [l24Text_eq]
  unfold headW
  simp only [List.length_append, List.length_cons]
  omega
theorem okS_l24Text {t : DTable} (h : s_GoodTable t = true) : okS (s_l24Text t) := Nat.le_trans (len_l24Text h) (by decide)
theorem okS_TableText (t : DTable) : okS (i_TableText t).1 := by
  rw [TableText_eq]
  unfold s_TableText
  cases h : s_GoodTable t
  · exact ok_d_Str
  · exact okS_l24Text h

theorem setStage_get {t : DTable} {k : Nat} (hk : k < t.Idxs.length) (s : Int) (i : Nat) : (setStage t k s).Idxs.getD i d_Idx = if i = k then ⟨(t.Idxs.getD k d_Idx).Name, (t.Idxs.getD k d_Idx).Col, s⟩ else t.Idxs.getD i d_Idx := by
  unfold setStage
  simp only [getD_set hk]
theorem setStage_nc {t : DTable} {k : Nat} (hk : k < t.Idxs.length) (s : Int) (i : Nat) : ((setStage t k s).Idxs.getD i d_Idx).Name = (t.Idxs.getD i d_Idx).Name ∧ ((setStage t k s).Idxs.getD i d_Idx).Col = (t.Idxs.getD i d_Idx).Col := by
  rw [setStage_get hk]
  by_cases h : i = k
  · subst h; rw [if_pos rfl]; exact ⟨rfl, rfl⟩
  · rw [if_neg h]; exact ⟨rfl, rfl⟩
theorem good_set {t : DTable} (h : s_GoodTable t = true) {k : Nat} (hk : k < t.Idxs.length) {s : Int} (hs : 0 ≤ s ∧ s ≤ 3) : s_GoodTable (setStage t k s) = true := by
  have h0 := h
  rw [s_GoodTable_eq] at h ⊢
  simp only [Bool.and_eq_true, decide_eq_true_eq, List.all_eq_true, List.mem_range] at h ⊢
  obtain ⟨⟨⟨h1, h2⟩, h3⟩, h4⟩ := h
  refine ⟨⟨⟨h1, h2⟩, by rw [setStage_len]; exact h3⟩, fun i hi => ?_⟩
  rw [setStage_len] at hi
  have h5 := h4 i hi
  unfold idxOk at h5 ⊢
  rw [(setStage_nc hk s i).1, (setStage_nc hk s i).2, (setStage_nc hk s _).1]
  simp only [Bool.and_eq_true] at h5 ⊢
  refine ⟨⟨h5.1.1, ?_⟩, h5.2⟩
  rw [setStage_get hk]
  by_cases e : i = k
  · rw [if_pos e]
    show s_l1In s 0 3 = true
    unfold s_l1In
    rw [decide_eq_true hs.1, cond_true, decide_eq_true hs.2]
  · rw [if_neg e]; exact h5.1.2
theorem setStage_at {t : DTable} {k : Nat} (hk : k < t.Idxs.length) (s : Int) : stageAt (setStage t k s) k = s := by
  unfold stageAt
  rw [setStage_get hk, if_pos rfl]
theorem setStage_twice {t : DTable} {k : Nat} (hk : k < t.Idxs.length) (a b : Int) : setStage (setStage t k a) k b = setStage t k b := by
  have h := setStage_nc hk a k
  unfold setStage at h ⊢
  simp only at h ⊢
  rw [h.1, h.2, List.set_set]
theorem setStage_self {t : DTable} {k : Nat} (hk : k < t.Idxs.length) : setStage t k (stageAt t k) = t := by
  unfold setStage stageAt
  have : (⟨(t.Idxs.getD k d_Idx).Name, (t.Idxs.getD k d_Idx).Col, (t.Idxs.getD k d_Idx).Stage⟩ : DIdx) = t.Idxs[k] := by rw [← getD_eq (d := d_Idx) hk]
  rw [this, List.set_getElem_self]
theorem next_set {t : DTable} (h : s_GoodTable t = true) {k : Nat} (hk : k < t.Idxs.length) {a b : Int} (ha : 0 ≤ a ∧ a ≤ 3) (hb : 0 ≤ b ∧ b ≤ 3) (hab : b = a - 1 ∨ b = a + 1) : i_NextTo (setStage t k a) (setStage t k b) = (true, true) := by
  have ga := good_set h hk ha
  have gb := good_set h hk hb
  have hl : k < (setStage t k a).Idxs.length := by rw [setStage_len]; exact hk
  have := (near_iff (GoodT.of ga) (GoodT.of gb)).2 (.inr ⟨k, hl, by
    rw [setStage_at hk, setStage_twice hk, setStage_twice hk]
    rcases hab with e | e
    · left; rw [e]
    · right; rw [e]⟩)
  rw [NextTo_eq]
  unfold s_NextTo
  rw [ga, gb, this.1, decide_eq_true this.2]
  rfl
theorem getD_snoc {bs : List Int} {b : Int} (i : Nat) (hi : i < bs.length + 1) : (bs ++ [b]).getD i 0 = if i < bs.length then bs.getD i 0 else b := by
  by_cases h : i < bs.length
  · rw [if_pos h]; simp [List.getD, List.getElem?_append_left h]
  · rw [if_neg h]
    obtain rfl : i = bs.length := by omega
    simp [List.getD]
structure Steps (st : Int) (bs : List Int) (a : Int) : Prop where
  pos : 0 < bs.length
  fst : bs.getD 0 0 = st
  last : bs.getD (bs.length - 1) 0 = a
  rng : ∀ b ∈ bs, 0 ≤ b ∧ b ≤ 3
  step : ∀ i, i + 1 < bs.length → bs.getD (i + 1) 0 = bs.getD i 0 - 1 ∨ bs.getD (i + 1) 0 = bs.getD i 0 + 1
theorem Steps.snoc {st a b : Int} {bs : List Int} (h : Steps st bs a) (hb : 0 ≤ b ∧ b ≤ 3) (hab : b = a - 1 ∨ b = a + 1) : Steps st (bs ++ [b]) b := by
  have h0 := h.pos
  refine ⟨by simp, ?_, ?_, fun x hx => ?_, fun i hi => ?_⟩
  · rw [getD_snoc 0 oM, if_pos h0]; exact h.fst
  · rw [getD_snoc _ (by simp), if_neg (by simp)]
  · rcases List.mem_append.1 hx with hx | hx
    · exact h.rng x hx
    · rw [List.mem_singleton.1 hx]; exact hb
  · rw [List.length_append, List.length_singleton] at hi
    have hi2 : i < bs.length := by omega
    rw [getD_snoc (i + 1) oM, getD_snoc i oM]
    simp only [if_pos hi2]
    by_cases e : i + 1 < bs.length
    · simp only [if_pos e]; exact h.step i e
    · simp only [if_neg e]
      rw [show i = bs.length - 1 by omega, h.last]; exact hab
theorem way_steps {t : DTable} (h : s_GoodTable t = true) {n : Str} (hn : 0 ≤ s_l24Idx t n) {s : Int} (hs : 0 ≤ s ∧ s ≤ 3) : ∃ bs, s_l24Way t n s = bs.map (setStage t (s_l24Idx t n).toNat) ∧ Steps (stageAt t (s_l24Idx t n).toNat) bs s := by
  have hk := rf_s_l24Idx t n
  have hk' : (s_l24Idx t n).toNat < t.Idxs.length := by omega
  have h0 := ((GoodT.of h).idx _ hk').2.2.2
  unfold s_l24Way
  refine loopW_val (fun (p : List DTable × Int) => (∃ bs, p.1 = bs.map (setStage t (s_l24Idx t n).toNat) ∧ Steps (stageAt t (s_l24Idx t n).toNat) bs p.2) ∧ 0 ≤ p.2 ∧ p.2 ≤ 3) (fun p => (s - p.2).toNat + (p.2 - s).toNat) (fun v => ∃ bs, v = bs.map (setStage t (s_l24Idx t n).toNat) ∧ Steps (stageAt t (s_l24Idx t n).toNat) bs s) ?_ _ _ ?_ (Nat.lt_succ_self _)
  · rintro ⟨x, a⟩ ⟨⟨bs, h1, h2⟩, h3, h4⟩
    simp only at h1 h2 h3 h4
    have key : ∀ b, 0 ≤ b ∧ b ≤ 3 → b = a - 1 ∨ b = a + 1 → ∃ cs, x ++ [s_l24Set t n b] = cs.map (setStage t (s_l24Idx t n).toNat) ∧ Steps (stageAt t (s_l24Idx t n).toNat) cs b := fun b hb hab =>
      ⟨bs ++ [b], by rw [List.map_append, ← h1, l24Set_eq]; rfl, h2.snoc hb hab⟩
    unfold B_s_l24Way_0
    simp only
    by_cases e1 : a = s
    · simp only [decide_eq_true e1, cond_true, Out.sat]; exact ⟨bs, h1, e1 ▸ h2⟩
    · by_cases e2 : a < s
      · simp only [decide_eq_false e1, decide_eq_true e2, cond_true, cond_false, Out.sat]
        rw [wrap_in oM]
        exact ⟨⟨key _ oM (.inr rfl), oM, by omega⟩, by omega⟩
      · simp only [decide_eq_false e1, decide_eq_false e2, cond_false, Out.sat]
        rw [wrap_in oM]
        exact ⟨⟨key _ oM (.inl rfl), oM, by omega⟩, by omega⟩
  · refine ⟨⟨[stageAt t (s_l24Idx t n).toNat], ?_, ⟨Nat.one_pos, rfl, rfl, fun b hb => ?_, fun i hi => ?_⟩⟩, h0⟩
    · show [s_l24Own t] = [setStage t _ _]
      rw [l24Own_eq, setStage_self hk']
    · rw [List.mem_singleton.1 hb]; exact h0
    · simp at hi
theorem qSameT_refl (t : DTable) : l_qSameT t t = true := by
  unfold l_qSameT
  rw [beq_self_eq_true, cond_true, qSameS_refl, cond_true, decide_eq_true rfl, cond_true, loopU (fun _ => true) (r := false) fun k _ => by
    unfold B_l_qSameT_0
    simp only [beq_self_eq_true, decide_true, Bool.and_self, cond_true]]
  simp
theorem qSameTs_refl (l : List DTable) : l_qSameTs l l = true := by
  unfold l_qSameTs
  rw [decide_eq_true rfl, cond_true, loopU (fun _ => true) (r := false) fun k _ => by
    unfold B_l_qSameTs_0
    rw [qSameT_refl]]
  simp

theorem IdxAt_eq (t : DTable) (n : Str) : i_IdxAt t n = s_IdxAt t n := by
  rw [IdxAt_i, hasIdx_eq]
  unfold s_IdxAt
  cases s_GoodTable t
  · rfl
  · rw [cond_true]
    cases decide (s_l24Idx t n < 0)
    · rw [idx_eq]; rfl
    · rfl
theorem ColAt_eq (t : DTable) (s : Str) : i_ColAt t s = s_ColAt t s := by
  have h : g_slices_Index_string t.Cols s = s_l24At t.Cols s := by
    show idxF (fun x => s == x) d_Str t.Cols = idxF (fun x => x == s) d_Str t.Cols
    congr 1; funext x; exact BEq.comm
  unfold i_ColAt s_ColAt
  rw [GoodTable_eq, h]
theorem asked_all {t : DTable} {n : Str} {s : Int} (h : s_l24Asked t n s = true) : s_GoodTable t = true ∧ 0 ≤ s_l24Idx t n ∧ 0 ≤ s ∧ s ≤ 3 := by
  unfold s_l24Asked at h
  obtain ⟨h1, h⟩ := of_cond_f h
  obtain ⟨h2, h⟩ := of_cond_f h
  exact ⟨h1, of_decide_eq_true h2, f_l1In h⟩
theorem true_FnTables (p_0 p_1 : List Int) : l_FnTables p_0 p_1 = true := by
  unfold l_FnTables
  cases decide (1048576 < (IntKind.wrap .i64 ((p_0.length : Int) + (p_1.length : Int))))
  case true => rfl
  rw [cond_false]
  obtain ⟨t, ht⟩ : ∃ t, (s_DrawWayTo p_0).1 = t := ⟨_, rfl⟩
  obtain ⟨n, hn⟩ : ∃ n, (s_DrawWayTo p_0).2.1 = n := ⟨_, rfl⟩
  obtain ⟨s, hs⟩ : ∃ s, (s_DrawWayTo p_0).2.2 = s := ⟨_, rfl⟩
  have hb : ∀ k, B_l_FnTables_0 p_0 p_1 k () = bif (i_NextTo ((s_WayTo t n s).1.getD (IntKind.wrap .i64 ((k : Int) - 1)).toNat d_Table) ((s_WayTo t n s).1.getD k d_Table)).2 then (bif (i_NextTo ((s_WayTo t n s).1.getD (IntKind.wrap .i64 ((k : Int) - 1)).toNat d_Table) ((s_WayTo t n s).1.getD k d_Table)).1 then .cont () else .ret false) else .ret false := by
    intro k
    unfold B_l_FnTables_0
    rw [ht, hn, hs, WayTo_eq]
  rw [ht, hn, hs]
  simp only [WayTo_eq, SetStage_eq, IdxAt_eq, GoodTable_eq, beq_self_eq_true, qSameT_refl, qSameTs_refl, decide_true, Bool.and_self, cond_true]
  cases ha : s_l24Asked t n s
  · have h2 : (s_WayTo t n s).2 = false := by unfold s_WayTo; rw [ha]; rfl
    rw [h2, cond_false]
    simp only [NextTo_eq, ReadTable_eq, ColAt_eq, beq_self_eq_true, qSameT_refl, decide_true, cond_true]
  · obtain ⟨hg, hi, h0, h3⟩ := asked_all ha
    have hW : s_WayTo t n s = (s_l24Way t n s, true) := by unfold s_WayTo; rw [ha]; rfl
    have hS : s_SetStage t n s = (s_l24Set t n s, true) := by unfold s_SetStage; rw [ha]; rfl
    have hk := rf_s_l24Idx t n
    have hk' : (s_l24Idx t n).toNat < t.Idxs.length := by omega
    obtain ⟨bs, hbs, hst⟩ := way_steps hg hi ⟨h0, h3⟩
    have hl := way_len (GoodT.of hg) hi (s := s) ⟨h0, h3⟩
    have hbl : (s_l24Way t n s).length = bs.length := by rw [hbs, List.length_map]
    have hget : ∀ i, i < bs.length → (s_l24Way t n s).getD i d_Table = setStage t (s_l24Idx t n).toNat (bs.getD i 0) := fun i hi => by
      rw [hbs, getD_eq (by rw [List.length_map]; exact hi), List.getElem_map]
      congr 1
      simp [List.getD, hi]
    have hp := hst.pos
    have e0 : (s_l24Way t n s).getD 0 d_Table = t := by rw [hget 0 hp, hst.fst, setStage_self hk']
    have el : (s_l24Way t n s).getD (IntKind.wrap .i64 (((s_l24Way t n s).length : Int) - 1)).toNat d_Table = s_l24Set t n s := by
      rw [wrap_in oM, show (((s_l24Way t n s).length : Int) - 1).toNat = bs.length - 1 by omega, hget _ oM, hst.last, l24Set_eq]
    rw [hW] at hb ⊢
    rw [hS]
    simp only [cond_true, e0, el, qSameT_refl]
    rw [decide_eq_false oM, cond_false, decide_eq_false oM, cond_false]
    refine loopM_val (fun _ _ => True) (fun v => v = true) trivial (fun _ _ => ?_) fun j x hj1 hj2 _ => ?_
    · have hT : i_TableText t = (s_l24Text t, true) := by rw [TableText_eq]; unfold s_TableText; rw [hg]; rfl
      rw [hT]
      simp only [iRead_text hg, NextTo_eq, ReadTable_eq, ReadTable_text hg, ColAt_eq, beq_self_eq_true, qSameT_refl, decide_true, cond_true]
    · rw [hb j]
      have hj : j < bs.length := by omega
      have e1 : (IntKind.wrap .i64 ((j : Int) - 1)).toNat = j - 1 := by rw [wrap_in oM]; omega
      have hmem : ∀ i, i < bs.length → 0 ≤ bs.getD i 0 ∧ bs.getD i 0 ≤ 3 := fun i hi => hst.rng _ (getD_mem (d := (0 : Int)) hi)
      have hstep := hst.step (j - 1) oM
      rw [show j - 1 + 1 = j by omega] at hstep
      rw [e1, hget _ oM, hget _ hj, next_set hg hk' (hmem _ oM) (hmem _ hj) hstep]
      trivial

end Go.Proofs.YtgfkmgjpannelaaGreatDoor
