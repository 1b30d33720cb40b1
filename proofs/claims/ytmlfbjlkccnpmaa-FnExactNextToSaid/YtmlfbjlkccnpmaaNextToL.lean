/- Next To: plain laws of the models. -/
import Derived.Test.YtmlfbjlkccnpmaaNextToT
set_option linter.unusedVariables false
set_option linter.unusedSimpArgs false
namespace Go.Proofs.Ytmlfbjlkccnpmaa
open Go.RowKit Go.X
theorem szok_Idx {x : DIdx} {L : Int} (hw : wf_Idx x) (hL : 0 ≤ L ∧ L ≤ 1048576) (h : ¬ l_szIdx x L < 0) : ok_Idx x ∧ 0 ≤ l_szIdx x L ∧ l_szIdx x L ≤ 1048576 := by
  unfold l_szIdx at h ⊢
  obtain ⟨a0, e0, h⟩ := szc h
  rw [e0]
  have s0 := szS_ok hw.1 hL a0
  exact ⟨s0.1, s0.2⟩
theorem to_Idx (x : DIdx) : l_toIdx x = x := rfl
theorem eq_Idx (x : DIdx) : l_eqIdx x x = true := by unfold l_eqIdx; simp only [beq_self_eq_true, cond_true, decide_true]
theorem sze_StringS (x : List Str) (L : Int) : l_szStringS x L = szLL (fun s L => IntKind.wrap .i64 (L - (s.length : Int))) d_Str x L := by
  unfold l_szStringS szLL szL
  have : B_l_szStringS_0 x L = fun k y => bif decide (IntKind.wrap .i64 (y - ((x.getD k d_Str).length : Int)) < 0) then .ret (-1) else .cont (IntKind.wrap .i64 (y - ((x.getD k d_Str).length : Int))) := by
    funext k y; rfl
  rw [this]
theorem szok_StringS {x : List Str} {L : Int} (hw : (wfL wfS) x) (hL : 0 ≤ L ∧ L ≤ 1048576) (h : ¬ l_szStringS x L < 0) : (okL okS) x ∧ 0 ≤ l_szStringS x L ∧ l_szStringS x L ≤ 1048576 := by
  rw [sze_StringS] at h ⊢
  exact szLL_ok d_Str szS_ok hw hL h
theorem to_StringS (x : List Str) : l_toStringS x = x := toL_id d_Str (f := fun s => s) (fun _ => rfl) x
theorem eq_StringS (x : List Str) : l_eqStringS x x = true := eqL_refl d_Str (f := fun a b => a == b) (fun _ => beq_self_eq_true _) x
theorem szok_IdxS {x : List DIdx} {L : Int} (hw : (wfL wf_Idx) x) (hL : 0 ≤ L ∧ L ≤ 1048576) (h : ¬ l_szIdxS x L < 0) : (okL ok_Idx) x ∧ 0 ≤ l_szIdxS x L ∧ l_szIdxS x L ≤ 1048576 := szLL_ok d_Idx (f := l_szIdx) szok_Idx hw hL h
theorem to_IdxS (x : List DIdx) : l_toIdxS x = x := toL_id d_Idx (f := fun s => s) (fun _ => rfl) x
theorem eq_IdxS (x : List DIdx) : l_eqIdxS x x = true := eqL_refl d_Idx (f := l_eqIdx) eq_Idx x
theorem szok_Table {x : DTable} {L : Int} (hw : wf_Table x) (hL : 0 ≤ L ∧ L ≤ 1048576) (h : ¬ l_szTable x L < 0) : ok_Table x ∧ 0 ≤ l_szTable x L ∧ l_szTable x L ≤ 1048576 := by
  unfold l_szTable at h ⊢
  obtain ⟨a0, e0, h⟩ := szc h
  rw [e0]
  have s0 := szS_ok hw.1 hL a0
  obtain ⟨a1, e1, h⟩ := szc h
  rw [e1]
  have s1 := szok_StringS hw.2.1 s0.2 a1
  obtain ⟨a2, e2, h⟩ := szc h
  rw [e2]
  have s2 := szok_IdxS hw.2.2 s1.2 a2
  exact ⟨⟨s0.1, s1.1, s2.1⟩, s2.2⟩
theorem to_Table (x : DTable) : l_toTable x = x := rfl
theorem eq_Table (x : DTable) : l_eqTable x x = true := by unfold l_eqTable; simp only [eq_StringS, eq_IdxS, beq_self_eq_true, cond_true, decide_true]
theorem IndexFunc_Idx (xs : List DIdx) (f : DIdx → Bool) : g_slices_IndexFunc_Idx xs f = idxF f d_Idx xs := rfl
theorem Contains_string (xs : List Str) (y : Str) : g_slices_Contains_string xs y = xs.any (fun x => y == x) := idxF_any _ d_Str xs
theorem within_eq : i_within = s_l1In := rfl
theorem f_l1In {n lo hi : Int} (h : s_l1In n lo hi = true) : lo ≤ n ∧ n ≤ hi := by
  unfold s_l1In at h
  obtain ⟨h1, h2⟩ := of_cond_f h
  exact ⟨of_decide_eq_true h1, of_decide_eq_true h2⟩
theorem f_within {n lo hi : Int} (h : i_within n lo hi = true) : lo ≤ n ∧ n ≤ hi := f_l1In h
theorem letters_eq : i_areLetters = s_l24Letters := by
  funext s m
  unfold i_areLetters s_l24Letters
  rfl
theorem l24At_neg (l : List Str) (s : Str) : decide (0 ≤ s_l24At l s) = l.any fun x => x == s := by
  have : s_l24At l s = idxF (fun x => x == s) d_Str l := rfl
  rw [this, idxF_any]
def colOk (l : List Str) (k : Nat) : Bool := s_l24Letters (l.getD k d_Str) 3 && !((l.take k).any fun x => x == l.getD k d_Str)
theorem l24Cols_eq (l : List Str) : s_l24Cols l = ((List.range l.length).all (colOk l) && s_l1In (l.length : Int) 2 4) := by
  unfold s_l24Cols
  rw [loopU (colOk l) (r := false) fun k _ => by
    unfold B_s_l24Cols_0 colOk
    rw [l24At_neg]
    cases s_l24Letters (l.getD k d_Str) 3 <;> cases ((l.take k).any fun x => x == l.getD k d_Str) <;> rfl]
  cases (List.range l.length).all (colOk l) <;> rfl
theorem GoodTable_eq (t : DTable) : i_GoodTable t = s_GoodTable t := by
  unfold i_GoodTable s_GoodTable
  rw [l24Cols_eq, letters_eq, within_eq]
  rw [loopU (colOk t.Cols) (r := false) fun k _ => by
    unfold B_i_GoodTable_0 colOk
    rw [Contains_string, letters_eq]
    rw [show ((t.Cols.take k).any fun x => t.Cols.getD k d_Str == x) = ((t.Cols.take k).any fun x => x == t.Cols.getD k d_Str) by congr 1; funext x; rw [Bool.beq_comm]]
    cases s_l24Letters (t.Cols.getD k d_Str) 3 <;> cases ((t.Cols.take k).any fun x => x == t.Cols.getD k d_Str) <;> rfl]
  have hb : B_i_GoodTable_1 t = B_s_GoodTable_0 t := by
    funext k u
    unfold B_i_GoodTable_1 B_s_GoodTable_0 i_isStage
    rw [letters_eq, within_eq, sLe_not]
    cases s_l24Letters ((t.Idxs.getD k d_Idx).Name) 1 <;> cases s_l1In ((t.Idxs.getD k d_Idx).Col) 1 (IntKind.wrap .i64 ((t.Cols.length : Int) - 1)) <;> cases s_l1In ((t.Idxs.getD k d_Idx).Stage) 0 3 <;> cases decide (0 < (k : Int)) <;> cases sLt ((t.Idxs.getD ((IntKind.wrap .i64 ((k : Int) - 1)).toNat) d_Idx).Name) ((t.Idxs.getD k d_Idx).Name) <;> rfl
  rw [hb]
  cases s_l24Letters t.Name 1 <;> cases s_l1In (t.Cols.length : Int) 2 4 <;> cases decide (3 < (t.Idxs.length : Int)) <;> cases (List.range t.Cols.length).all (colOk t.Cols) <;> rfl
theorem f_s_GoodTable {t : DTable} (h : s_GoodTable t = true) : 2 ≤ (t.Cols.length : Int) ∧ (t.Cols.length : Int) ≤ 4 ∧ (t.Idxs.length : Int) ≤ 3 := by
  unfold s_GoodTable at h
  obtain ⟨_, h⟩ := of_cond_f h
  obtain ⟨h1, h⟩ := of_cond_f h
  rw [l24Cols_eq, Bool.and_eq_true] at h1
  have h2 := f_l1In h1.2
  refine ⟨h2.1, h2.2, ?_⟩
  cases h3 : decide (3 < (t.Idxs.length : Int))
  · have := of_decide_eq_false h3; omega
  · rw [h3] at h; cases h
theorem f_i_GoodTable {t : DTable} (h : i_GoodTable t = true) : 2 ≤ (t.Cols.length : Int) ∧ (t.Cols.length : Int) ≤ 4 ∧ (t.Idxs.length : Int) ≤ 3 := f_s_GoodTable (GoodTable_eq t ▸ h)
theorem findIdx_eq (t : DTable) (s : Str) : i_Table_findIdx t s = s_l24Idx t s := by
  unfold i_Table_findIdx
  rw [IndexFunc_Idx]
  rfl
theorem l24Idx_idxF (t : DTable) (n : Str) : s_l24Idx t n = idxF (fun y => i_Table_findIdx_c1 y n) d_Idx t.Idxs := rfl
theorem l24Idx_spec (t : DTable) (n : Str) : (s_l24Idx t n = -1 ∧ ∀ x ∈ t.Idxs, x.Name ≠ n) ∨ ∃ (k : Nat) (_ : k < t.Idxs.length), s_l24Idx t n = (k : Int) ∧ (t.Idxs.getD k d_Idx).Name = n ∧ ∀ j, j < k → (t.Idxs.getD j d_Idx).Name ≠ n := by
  rw [l24Idx_idxF]
  rcases idxF_spec (fun y => i_Table_findIdx_c1 y n) d_Idx t.Idxs with ⟨h1, h2⟩ | ⟨k, hk, h1, h2, h3⟩
  · exact .inl ⟨h1, fun x hx e => by have := h2 x hx; unfold i_Table_findIdx_c1 at this; rw [e, beq_self_eq_true] at this; cases this⟩
  · refine .inr ⟨k, hk, h1, ?_, fun j hj e => ?_⟩
    · rw [getD_eq hk]; unfold i_Table_findIdx_c1 at h2; exact eq_of_beq h2
    · have := h3 j hj; rw [getD_eq (by omega)] at e; unfold i_Table_findIdx_c1 at this; rw [e, beq_self_eq_true] at this; cases this
theorem rf_s_l24Idx (t : DTable) (n : Str) : -1 ≤ s_l24Idx t n ∧ s_l24Idx t n < (t.Idxs.length : Int) := by
  rcases l24Idx_spec t n with ⟨h, _⟩ | ⟨k, hk, h, _⟩ <;> omega
theorem rf_i_findIdx (t : DTable) (n : Str) : -1 ≤ i_Table_findIdx t n ∧ i_Table_findIdx t n < (t.Idxs.length : Int) := by rw [findIdx_eq]; exact rf_s_l24Idx t n
def idxOk (t : DTable) (k : Nat) : Bool := s_l24Letters (t.Idxs.getD k d_Idx).Name 1 && s_l1In (t.Idxs.getD k d_Idx).Col 1 (IntKind.wrap .i64 ((t.Cols.length : Int) - 1)) && s_l1In (t.Idxs.getD k d_Idx).Stage 0 3 && bif decide (0 < (k : Int)) then sLt (t.Idxs.getD ((IntKind.wrap .i64 ((k : Int) - 1)).toNat) d_Idx).Name (t.Idxs.getD k d_Idx).Name else true
theorem s_GoodTable_eq (t : DTable) : s_GoodTable t = (s_l24Letters t.Name 1 && s_l24Cols t.Cols && decide (t.Idxs.length ≤ 3) && (List.range t.Idxs.length).all (idxOk t)) := by
  unfold s_GoodTable
  rw [loopU (idxOk t) (r := false) fun k _ => by
    unfold B_s_GoodTable_0 idxOk
    cases s_l24Letters (t.Idxs.getD k d_Idx).Name 1 <;> cases s_l1In (t.Idxs.getD k d_Idx).Col 1 (IntKind.wrap .i64 ((t.Cols.length : Int) - 1)) <;> cases s_l1In (t.Idxs.getD k d_Idx).Stage 0 3 <;> cases decide (0 < (k : Int)) <;> cases sLt (t.Idxs.getD ((IntKind.wrap .i64 ((k : Int) - 1)).toNat) d_Idx).Name (t.Idxs.getD k d_Idx).Name <;> rfl]
  have e : decide (t.Idxs.length ≤ 3) = !decide (3 < (t.Idxs.length : Int)) := by
    by_cases h : t.Idxs.length ≤ 3
    · rw [decide_eq_true h, decide_eq_false (by omega)]; rfl
    · rw [decide_eq_false h, decide_eq_true (by omega)]; rfl
  rw [e]
  cases s_l24Letters t.Name 1 <;> cases s_l24Cols t.Cols <;> cases decide (3 < (t.Idxs.length : Int)) <;> cases (List.range t.Idxs.length).all (idxOk t) <;> rfl
def letter (b : UInt8) : Bool := !decide ((b.toNat : Int) < 97) && !decide (122 < (b.toNat : Int))
theorem l24Letters_eq (s : Str) (m : Int) : s_l24Letters s m = (s.all letter && decide (1 ≤ (s.length : Int)) && decide ((s.length : Int) ≤ m)) := by
  unfold s_l24Letters
  rw [allE (0 : UInt8) letter (r := false) fun k => by
    unfold B_s_l24Letters_0 letter
    cases decide (((s.getD k 0).toNat : Int) < 97) <;> cases decide (122 < ((s.getD k 0).toNat : Int)) <;> rfl]
  cases s.all letter <;> cases decide (1 ≤ (s.length : Int)) <;> rfl
theorem letters_len {s : Str} {m : Int} (h : s_l24Letters s m = true) : 1 ≤ (s.length : Int) ∧ (s.length : Int) ≤ m := by
  rw [l24Letters_eq] at h
  simp only [Bool.and_eq_true, decide_eq_true_eq] at h
  exact ⟨h.1.2, h.2⟩
structure GoodT (t : DTable) : Prop where
  name : t.Name.length = 1
  cols : 2 ≤ t.Cols.length ∧ t.Cols.length ≤ 4
  idxs : t.Idxs.length ≤ 3
  idx : ∀ k, k < t.Idxs.length → (t.Idxs.getD k d_Idx).Name.length = 1 ∧ 1 ≤ (t.Idxs.getD k d_Idx).Col ∧ (t.Idxs.getD k d_Idx).Col < (t.Cols.length : Int) ∧ 0 ≤ (t.Idxs.getD k d_Idx).Stage ∧ (t.Idxs.getD k d_Idx).Stage ≤ 3
  rise : ∀ k, k + 1 < t.Idxs.length → (t.Idxs.getD k d_Idx).Name < (t.Idxs.getD (k + 1) d_Idx).Name
theorem GoodT.of {t : DTable} (h : s_GoodTable t = true) : GoodT t := by
  have hf := f_s_GoodTable h
  rw [s_GoodTable_eq] at h
  simp only [Bool.and_eq_true, decide_eq_true_eq, List.all_eq_true, List.mem_range] at h
  obtain ⟨⟨⟨h1, h2⟩, h3⟩, h4⟩ := h
  have h5 : ∀ k, k < t.Idxs.length → _ := fun k hk => h4 k hk
  unfold idxOk at h5
  simp only [Bool.and_eq_true] at h5
  refine ⟨by have := letters_len h1; omega, by omega, h3, fun k hk => ?_, fun k hk => ?_⟩
  · obtain ⟨⟨⟨a, b⟩, c⟩, d⟩ := h5 k hk
    have a := letters_len a
    have b := f_l1In b
    have c := f_l1In c
    rw [wrap_in (by omega)] at b
    omega
  · have d := (h5 (k + 1) hk).2
    rw [wrap_in (by omega), decide_eq_true (show 0 < ((k + 1 : Nat) : Int) by omega)] at d
    have e : (((k + 1 : Nat) : Int) - 1).toNat = k := by omega
    rw [e] at d
    exact (sLt_iff _ _).1 d
theorem f_s_l24SameCols {a b : DTable} (h : s_l24SameCols a b = true) : a.Cols.length = b.Cols.length ∧ a.Idxs.length = b.Idxs.length := by
  unfold s_l24SameCols at h
  obtain ⟨_, h⟩ := of_cond_f h
  obtain ⟨h1, h⟩ := of_cond_f h
  obtain ⟨h2, h⟩ := of_cond_f h
  have h1 := of_decide_eq_true h1
  have h2 := of_decide_eq_true h2
  omega
theorem rf_copyTable (t : DTable) : (i_copyTable t).Idxs.length = t.Idxs.length ∧ (i_copyTable t).Cols.length = t.Cols.length := ⟨rfl, rfl⟩
theorem copyTable_eq (t : DTable) : i_copyTable t = t := rfl
theorem l24Own_eq (t : DTable) : s_l24Own t = t := rfl
theorem rise_lt {t : DTable} (h : GoodT t) : ∀ (j i : Nat), i < j → j < t.Idxs.length → (t.Idxs.getD i d_Idx).Name < (t.Idxs.getD j d_Idx).Name
  | 0, i, hi, _ => by omega
  | j + 1, i, hi, hj => by
    have h1 := h.rise j hj
    rcases Nat.lt_or_ge i j with h2 | h2
    · exact str_trans (rise_lt h j i h2 (by omega)) h1
    · obtain rfl : i = j := by omega
      exact h1
theorem own_l24Idx {t : DTable} (h : GoodT t) {k : Nat} (hk : k < t.Idxs.length) : s_l24Idx t (t.Idxs.getD k d_Idx).Name = (k : Int) := by
  rcases l24Idx_spec t (t.Idxs.getD k d_Idx).Name with ⟨_, h2⟩ | ⟨j, hj, h1, h2, h3⟩
  · exact absurd rfl (h2 _ (getD_mem hk))
  · rcases Nat.lt_or_ge j k with h4 | h4
    · have := rise_lt h k j h4 hk
      rw [h2] at this; exact absurd this (str_irr _)
    · rcases Nat.lt_or_ge k j with h5 | h5
      · exact absurd rfl (h3 k h5)
      · rw [h1]; omega
theorem own_findIdx {t : DTable} {k : Nat} (hk : k < t.Idxs.length) : 0 ≤ i_Table_findIdx t (t.Idxs.getD k d_Idx).Name ∧ i_Table_findIdx t (t.Idxs.getD k d_Idx).Name < (t.Idxs.length : Int) := by
  refine ⟨?_, (rf_i_findIdx _ _).2⟩
  rw [findIdx_eq]
  rcases l24Idx_spec t (t.Idxs.getD k d_Idx).Name with ⟨_, h2⟩ | ⟨j, hj, h1, _⟩
  · exact absurd rfl (h2 _ (getD_mem hk))
  · omega
theorem withStage_eq (t : DTable) (n : Str) (s : Int) : i_Table_withStage t n s = s_l24Set t n s := by
  unfold i_Table_withStage s_l24Set
  rw [copyTable_eq, l24Own_eq, findIdx_eq]
def setStage (t : DTable) (k : Nat) (s : Int) : DTable := ⟨t.Name, t.Cols, t.Idxs.set k ⟨(t.Idxs.getD k d_Idx).Name, (t.Idxs.getD k d_Idx).Col, s⟩⟩
theorem l24Set_eq (t : DTable) (n : Str) (s : Int) : s_l24Set t n s = setStage t (s_l24Idx t n).toNat s := rfl
theorem list_ext {α : Type} (d : α) {xs ys : List α} (hl : xs.length = ys.length) (h : ∀ k, k < xs.length → xs.getD k d = ys.getD k d) : xs = ys :=
  List.ext_getElem hl fun k h1 h2 => by have := h k h1; rwa [getD_eq h1, getD_eq h2] at this
theorem Equal_string_iff (xs ys : List Str) : g_slices_Equal_string xs ys = true ↔ xs = ys := by
  unfold g_slices_Equal_string
  rw [loopU (fun k => xs.getD k d_Str == ys.getD k d_Str) (r := false) fun k _ => rfl]
  constructor
  · intro h
    obtain ⟨h1, h2⟩ := of_cond_f h
    obtain ⟨h2, _⟩ := of_cond_f h2
    have h1 := of_decide_eq_true h1
    exact list_ext d_Str (by omega) fun k hk => eq_of_beq (List.all_eq_true.1 h2 k (List.mem_range.2 hk))
  · rintro rfl
    rw [decide_eq_true rfl, cond_true, List.all_eq_true.2 fun k _ => beq_self_eq_true _]; rfl
theorem Equal_Idx_iff (xs ys : List DIdx) : g_slices_Equal_Idx xs ys = true ↔ xs = ys := by
  unfold g_slices_Equal_Idx
  rw [loopU (fun k => ((xs.getD k d_Idx).Name == (ys.getD k d_Idx).Name) && (decide ((xs.getD k d_Idx).Col = (ys.getD k d_Idx).Col) && decide ((xs.getD k d_Idx).Stage = (ys.getD k d_Idx).Stage))) (r := false) fun k _ => rfl]
  constructor
  · intro h
    obtain ⟨h1, h2⟩ := of_cond_f h
    obtain ⟨h2, _⟩ := of_cond_f h2
    have h1 := of_decide_eq_true h1
    refine list_ext d_Idx (by omega) fun k hk => ?_
    have := List.all_eq_true.1 h2 k (List.mem_range.2 hk)
    simp only [Bool.and_eq_true, decide_eq_true_eq, beq_iff_eq] at this
    obtain ⟨a, b, c⟩ := this
    cases hx : xs.getD k d_Idx; cases hy : ys.getD k d_Idx
    rw [hx, hy] at a b c
    cases a; cases b; cases c; rfl
  · rintro rfl
    rw [decide_eq_true rfl, cond_true, List.all_eq_true.2 fun k _ => by simp]; rfl
theorem sameTable_iff (a b : DTable) : i_sameTable a b = true ↔ a = b := by
  unfold i_sameTable
  constructor
  · intro h
    obtain ⟨h1, h⟩ := of_cond_f h
    obtain ⟨h2, h3⟩ := of_cond_f h
    have h1 := eq_of_beq h1
    have h2 := (Equal_string_iff _ _).1 h2
    have h3 := (Equal_Idx_iff _ _).1 h3
    cases a; cases b; cases h1; cases h2; cases h3; rfl
  · rintro rfl
    rw [beq_self_eq_true, cond_true, (Equal_string_iff _ _).2 rfl, cond_true]
    exact (Equal_Idx_iff _ _).2 rfl
theorem SameCols_iff (a b : DTable) : s_l24SameCols a b = true ↔ a.Name = b.Name ∧ a.Cols = b.Cols ∧ a.Idxs.length = b.Idxs.length ∧ ∀ k, k < a.Idxs.length → (a.Idxs.getD k d_Idx).Name = (b.Idxs.getD k d_Idx).Name ∧ (a.Idxs.getD k d_Idx).Col = (b.Idxs.getD k d_Idx).Col := by
  unfold s_l24SameCols
  rw [loopU (fun k => a.Cols.getD k d_Str == b.Cols.getD k d_Str) (r := false) fun k _ => rfl]
  rw [loopU (fun k => ((a.Idxs.getD k d_Idx).Name == (b.Idxs.getD k d_Idx).Name) && decide ((a.Idxs.getD k d_Idx).Col = (b.Idxs.getD k d_Idx).Col)) (r := false) fun k _ => by
    unfold B_s_l24SameCols_1
    cases (a.Idxs.getD k d_Idx).Name == (b.Idxs.getD k d_Idx).Name <;> cases decide ((a.Idxs.getD k d_Idx).Col = (b.Idxs.getD k d_Idx).Col) <;> rfl]
  constructor
  · intro h
    obtain ⟨h1, h⟩ := of_cond_f h
    obtain ⟨h2, h⟩ := of_cond_f h
    obtain ⟨h3, h⟩ := of_cond_f h
    obtain ⟨h4, h⟩ := of_cond_f h
    obtain ⟨h5, _⟩ := of_cond_f h
    have h2 := of_decide_eq_true h2
    have h3 := of_decide_eq_true h3
    refine ⟨eq_of_beq h1, list_ext d_Str (by omega) fun k hk => eq_of_beq (List.all_eq_true.1 h4 k (List.mem_range.2 hk)), by omega, fun k hk => ?_⟩
    have := List.all_eq_true.1 h5 k (List.mem_range.2 hk)
    simp only [Bool.and_eq_true, decide_eq_true_eq, beq_iff_eq] at this
    exact this
  · rintro ⟨h1, h2, h3, h4⟩
    rw [h1, beq_self_eq_true, cond_true, h2, decide_eq_true rfl, cond_true, decide_eq_true (by omega), cond_true, List.all_eq_true.2 fun k _ => beq_self_eq_true _, cond_true, List.all_eq_true.2 fun k hk => by
      have := h4 k (List.mem_range.1 hk)
      simp only [Bool.and_eq_true, decide_eq_true_eq, beq_iff_eq]
      exact this]
    rfl
def stageAt (t : DTable) (k : Nat) : Int := (t.Idxs.getD k d_Idx).Stage
def farUp (a b : DTable) : Nat → Int
  | 0 => 0
  | k + 1 => farUp a b k + ((stageAt a k - stageAt b k).natAbs : Int)
theorem farUp_bd {a b : DTable} (h : ∀ k, k < a.Idxs.length → (0 ≤ stageAt a k ∧ stageAt a k ≤ 3) ∧ 0 ≤ stageAt b k ∧ stageAt b k ≤ 3) : ∀ k, k ≤ a.Idxs.length → 0 ≤ farUp a b k ∧ farUp a b k ≤ 3 * k
  | 0, _ => by simp [farUp]
  | k + 1, hk => by
    have h1 := farUp_bd h k (by omega)
    have h2 := h k hk
    unfold farUp
    omega
theorem l24Far_eq {a b : DTable} (h : ∀ k, k < a.Idxs.length → (0 ≤ stageAt a k ∧ stageAt a k ≤ 3) ∧ 0 ≤ stageAt b k ∧ stageAt b k ≤ 3) (hl : a.Idxs.length ≤ 3) : s_l24Far a b = farUp a b a.Idxs.length := by
  unfold s_l24Far
  refine loopM_val (fun k (x : Int) => x = farUp a b k) (fun v => v = farUp a b a.Idxs.length) rfl (fun s hs => by rw [hs]; congr 1; omega) ?_
  intro j s _ hj hs
  have hj' : j < a.Idxs.length := by omega
  have h1 := farUp_bd h j (by omega)
  have h2 := h j hj'
  show IntKind.wrap .i64 (s + s_l1Most _ _) = farUp a b j + _
  unfold stageAt at h2 ⊢
  rw [hs, wrap_in (n := (a.Idxs.getD j d_Idx).Stage - _) (by omega), wrap_in (n := 0 - _) (by omega)]
  unfold s_l1Most
  by_cases h3 : 0 - ((a.Idxs.getD j d_Idx).Stage - (b.Idxs.getD j d_Idx).Stage) < (a.Idxs.getD j d_Idx).Stage - (b.Idxs.getD j d_Idx).Stage
  · rw [decide_eq_true h3, cond_true, wrap_in (by omega)]; omega
  · rw [decide_eq_false h3, cond_false, wrap_in (by omega)]; omega

theorem getD_set {α : Type} {d : α} {xs : List α} {k : Nat} {v : α} (hk : k < xs.length) (i : Nat) : (xs.set k v).getD i d = if i = k then v else xs.getD i d := by
  rw [List.getD_eq_getElem?_getD, List.getD_eq_getElem?_getD, List.getElem?_set]
  by_cases h : i = k
  · subst h; simp [hk]
  · have : ¬ k = i := fun h' => h h'.symm
    simp [h, this]
theorem setStage_len (t : DTable) (k : Nat) (s : Int) : (setStage t k s).Idxs.length = t.Idxs.length := List.length_set ..
theorem farUp_le {a b : DTable} (h : ∀ k, k < a.Idxs.length → (0 ≤ stageAt a k ∧ stageAt a k ≤ 3) ∧ 0 ≤ stageAt b k ∧ stageAt b k ≤ 3) : ∀ m, m ≤ a.Idxs.length → (farUp a b m = 0 → ∀ i, i < m → stageAt a i = stageAt b i) ∧ (farUp a b m ≤ 1 → (∀ i, i < m → stageAt a i = stageAt b i) ∨ ∃ k, k < m ∧ (stageAt b k = stageAt a k - 1 ∨ stageAt b k = stageAt a k + 1) ∧ ∀ i, i < m → i ≠ k → stageAt a i = stageAt b i)
  | 0, _ => ⟨fun _ i hi => by omega, fun _ => .inl fun i hi => by omega⟩
  | m + 1, hm => by
    obtain ⟨h1, h2⟩ := farUp_le h m (by omega)
    have h3 := farUp_bd h m (by omega)
    refine ⟨fun h0 i hi => ?_, fun h0 => ?_⟩
    · unfold farUp at h0
      rcases Nat.lt_or_ge i m with h4 | h4
      · exact h1 (by omega) i h4
      · obtain rfl : i = m := by omega
        omega
    · unfold farUp at h0
      by_cases h4 : farUp a b m = 0
      · have h5 := h1 h4
        by_cases h6 : stageAt a m = stageAt b m
        · exact .inl fun i hi => by
            rcases Nat.lt_or_ge i m with h7 | h7
            · exact h5 i h7
            · obtain rfl : i = m := by omega
              exact h6
        · exact .inr ⟨m, by omega, by omega, fun i hi hne => h5 i (by omega)⟩
      · rcases h2 (by omega) with h5 | ⟨k, hk, h5, h6⟩
        · exact .inl fun i hi => by
            rcases Nat.lt_or_ge i m with h7 | h7
            · exact h5 i h7
            · obtain rfl : i = m := by omega
              omega
        · exact .inr ⟨k, by omega, h5, fun i hi hne => by
            rcases Nat.lt_or_ge i m with h7 | h7
            · exact h6 i h7 hne
            · obtain rfl : i = m := by omega
              omega⟩
theorem farUp_of {a b : DTable} {k : Nat} : ∀ m, (∀ i, i < m → i ≠ k → stageAt a i = stageAt b i) → ((stageAt a k - stageAt b k).natAbs : Int) ≤ 1 → farUp a b m ≤ 1 ∧ (m ≤ k → farUp a b m = 0)
  | 0, _, _ => by simp [farUp]
  | m + 1, h, hk => by
    obtain ⟨h1, h2⟩ := farUp_of m (fun i hi => h i (by omega)) hk
    unfold farUp
    by_cases hm : m = k
    · subst hm
      have := h2 (Nat.le_refl _)
      omega
    · have := h m (by omega) hm
      constructor
      · omega
      · intro h3
        have := h2 (by omega)
        omega
theorem farUp_self (a : DTable) : ∀ m, farUp a a m = 0
  | 0 => rfl
  | m + 1 => by unfold farUp; rw [farUp_self a m]; omega
theorem eq_of_stages {a b : DTable} (h : s_l24SameCols a b = true) (hs : ∀ i, i < a.Idxs.length → stageAt a i = stageAt b i) : a = b := by
  obtain ⟨h1, h2, h3, h4⟩ := (SameCols_iff a b).1 h
  have : a.Idxs = b.Idxs := list_ext d_Idx h3 fun k hk => by
    obtain ⟨h5, h6⟩ := h4 k hk
    have h7 := hs k hk
    unfold stageAt at h7
    cases hx : a.Idxs.getD k d_Idx; cases hy : b.Idxs.getD k d_Idx
    rw [hx, hy] at h5 h6 h7
    cases h5; cases h6; cases h7; rfl
  cases a; cases b; cases h1; cases h2; cases this; rfl
theorem near_iff {a b : DTable} (ha : GoodT a) (hb : GoodT b) : (s_l24SameCols a b = true ∧ s_l24Far a b ≤ 1) ↔ (a = b ∨ ∃ k, k < a.Idxs.length ∧ (setStage a k (stageAt a k - 1) = b ∨ setStage a k (stageAt a k + 1) = b)) := by
  constructor
  · rintro ⟨h1, h2⟩
    obtain ⟨e1, e2, e3, e4⟩ := (SameCols_iff a b).1 h1
    have hbd : ∀ k, k < a.Idxs.length → (0 ≤ stageAt a k ∧ stageAt a k ≤ 3) ∧ 0 ≤ stageAt b k ∧ stageAt b k ≤ 3 := fun k hk => ⟨(ha.idx k hk).2.2.2, (hb.idx k (by omega)).2.2.2⟩
    rw [l24Far_eq hbd ha.idxs] at h2
    rcases (farUp_le hbd _ (Nat.le_refl _)).2 h2 with h3 | ⟨k, hk, h3, h4⟩
    · exact .inl (eq_of_stages h1 h3)
    · refine .inr ⟨k, hk, ?_⟩
      have key : ∀ s, stageAt b k = s → setStage a k s = b := by
        intro s hs
        refine eq_of_stages ((SameCols_iff _ _).2 ⟨e1, e2, by rw [setStage_len]; exact e3, fun i hi => ?_⟩) fun i hi => ?_
        · have hi' : i < a.Idxs.length := by rwa [setStage_len] at hi
          unfold setStage
          simp only [getD_set hk]
          by_cases hik : i = k
          · subst hik; simp only [if_true]; exact e4 i hi'
          · simp only [if_neg hik]; exact e4 i hi'
        · have hi' : i < a.Idxs.length := by rwa [setStage_len] at hi
          unfold stageAt setStage
          simp only [getD_set hk]
          by_cases hik : i = k
          · subst hik; simp only [if_true]; exact hs.symm
          · simp only [if_neg hik]; exact h4 i hi' hik
      rcases h3 with h3 | h3
      · exact .inl (key _ h3)
      · exact .inr (key _ h3)
  · have key : ∀ k s, k < a.Idxs.length → ((stageAt a k - s).natAbs : Int) ≤ 1 → setStage a k s = b → s_l24SameCols a b = true ∧ s_l24Far a b ≤ 1 := by
      intro k s hk hs hab
      have hst : ∀ i, stageAt b i = if i = k then s else stageAt a i := by
        intro i
        rw [← hab]
        unfold stageAt setStage
        simp only [getD_set hk]
        by_cases hik : i = k
        · simp only [if_pos hik]
        · simp only [if_neg hik]
      have hbl : b.Idxs.length = a.Idxs.length := by rw [← hab]; exact setStage_len ..
      have hbd : ∀ k, k < a.Idxs.length → (0 ≤ stageAt a k ∧ stageAt a k ≤ 3) ∧ 0 ≤ stageAt b k ∧ stageAt b k ≤ 3 := fun k hk => ⟨(ha.idx k hk).2.2.2, (hb.idx k (by omega)).2.2.2⟩
      refine ⟨(SameCols_iff a b).2 ⟨by rw [← hab]; rfl, by rw [← hab]; rfl, hbl.symm, fun i hi => ?_⟩, ?_⟩
      · rw [← hab]
        unfold setStage
        simp only [getD_set hk]
        by_cases hik : i = k
        · subst hik; simp only [if_true]; exact ⟨trivial, trivial⟩
        · simp only [if_neg hik]; exact ⟨trivial, trivial⟩
      · rw [l24Far_eq hbd ha.idxs]
        exact (farUp_of (k := k) _ (fun i _ hik => by rw [hst, if_neg hik]) (by rw [hst, if_pos rfl]; exact hs)).1
    rintro (h | ⟨k, hk, h | h⟩)
    · subst h
      refine ⟨(SameCols_iff a a).2 ⟨rfl, rfl, rfl, fun _ _ => ⟨rfl, rfl⟩⟩, ?_⟩
      rw [l24Far_eq (fun k hk => ⟨(ha.idx k hk).2.2.2, (ha.idx k hk).2.2.2⟩) ha.idxs, farUp_self]; omega
    · exact key k _ hk (by omega) h
    · exact key k _ hk (by omega) h
theorem NextTo_eq (a b : DTable) : i_NextTo a b = s_NextTo a b := by
  unfold i_NextTo s_NextTo
  rw [GoodTable_eq, GoodTable_eq]
  cases ha : s_GoodTable a
  · rfl
  cases hb : s_GoodTable b
  · rfl
  simp only [cond_true]
  have ga := GoodT.of ha
  have gb := GoodT.of hb
  have hn := near_iff ga gb
  rw [loopU (fun k => (List.range 2).all fun j => !(i_sameTable (i_Table_withStage a ((a.Idxs.getD k d_Idx).Name) (([IntKind.wrap .i64 (((a.Idxs.getD k d_Idx).Stage) - 1), IntKind.wrap .i64 (((a.Idxs.getD k d_Idx).Stage) + 1)] : List Int).getD j d_Int)) b)) (r := (true, true)) fun k hk => by
    unfold B_i_NextTo_0
    exact loopU (fun j => !(i_sameTable (i_Table_withStage a ((a.Idxs.getD k d_Idx).Name) (([IntKind.wrap .i64 (((a.Idxs.getD k d_Idx).Stage) - 1), IntKind.wrap .i64 (((a.Idxs.getD k d_Idx).Stage) + 1)] : List Int).getD j d_Int)) b)) (r := (true, true)) fun j hj => by
      unfold B_i_NextTo_1
      cases i_sameTable (i_Table_withStage a ((a.Idxs.getD k d_Idx).Name) (([IntKind.wrap .i64 (((a.Idxs.getD k d_Idx).Stage) - 1), IntKind.wrap .i64 (((a.Idxs.getD k d_Idx).Stage) + 1)] : List Int).getD j d_Int)) b <;> rfl]
  have hs : ∀ k, k < a.Idxs.length → ∀ s, i_Table_withStage a (a.Idxs.getD k d_Idx).Name s = setStage a k s := fun k hk s => by
    rw [withStage_eq, l24Set_eq, own_l24Idx ga hk]; rfl
  have hr : ((List.range a.Idxs.length).all fun k => (List.range 2).all fun j => !(i_sameTable (i_Table_withStage a ((a.Idxs.getD k d_Idx).Name) (([IntKind.wrap .i64 (((a.Idxs.getD k d_Idx).Stage) - 1), IntKind.wrap .i64 (((a.Idxs.getD k d_Idx).Stage) + 1)] : List Int).getD j d_Int)) b)) = true ↔ ¬ ∃ k, k < a.Idxs.length ∧ (setStage a k (stageAt a k - 1) = b ∨ setStage a k (stageAt a k + 1) = b) := by
    rw [List.all_eq_true]
    have h2 : List.range 2 = [0, 1] := rfl
    constructor
    · rintro h ⟨k, hk, hh⟩
      have h1 := h k (List.mem_range.2 hk)
      have h3 := ga.idx k hk
      rw [h2] at h1
      simp only [List.all_cons, List.all_nil, Bool.and_true, Bool.and_eq_true, Bool.not_eq_true', List.getD_cons_zero, List.getD_cons_succ, hs k hk] at h1
      rw [wrap_in (by omega), wrap_in (by omega)] at h1
      rcases hh with hh | hh
      · have := (sameTable_iff _ _).2 hh; unfold stageAt at this; rw [this] at h1; cases h1.1
      · have := (sameTable_iff _ _).2 hh; unfold stageAt at this; rw [this] at h1; cases h1.2
    · intro h k hk
      have hk := List.mem_range.1 hk
      have h3 := ga.idx k hk
      rw [h2]
      simp only [List.all_cons, List.all_nil, Bool.and_true, Bool.and_eq_true, Bool.not_eq_true', List.getD_cons_zero, List.getD_cons_succ, hs k hk]
      rw [wrap_in (by omega), wrap_in (by omega)]
      constructor
      · cases hx : i_sameTable (setStage a k ((a.Idxs.getD k d_Idx).Stage - 1)) b
        · rfl
        · exact absurd ⟨k, hk, .inl ((sameTable_iff _ _).1 hx)⟩ h
      · cases hx : i_sameTable (setStage a k ((a.Idxs.getD k d_Idx).Stage + 1)) b
        · rfl
        · exact absurd ⟨k, hk, .inr ((sameTable_iff _ _).1 hx)⟩ h
  generalize ((List.range a.Idxs.length).all fun k => (List.range 2).all fun j => !(i_sameTable (i_Table_withStage a ((a.Idxs.getD k d_Idx).Name) (([IntKind.wrap .i64 (((a.Idxs.getD k d_Idx).Stage) - 1), IntKind.wrap .i64 (((a.Idxs.getD k d_Idx).Stage) + 1)] : List Int).getD j d_Int)) b)) = q at hr ⊢
  have hrhs : (bif s_l24SameCols a b then (decide (s_l24Far a b ≤ 1), true) else (false, true)) = (decide (s_l24SameCols a b = true ∧ s_l24Far a b ≤ 1), true) := by
    cases h : s_l24SameCols a b
    · rw [cond_false, decide_eq_false (by rintro ⟨h, _⟩; cases h)]
    · rw [cond_true]
      by_cases h2 : s_l24Far a b ≤ 1
      · rw [decide_eq_true h2, decide_eq_true ⟨rfl, h2⟩]
      · rw [decide_eq_false h2, decide_eq_false (by rintro ⟨_, h⟩; exact h2 h)]
  rw [hrhs]
  cases h1 : i_sameTable a b
  · simp only [cond_false]
    have hne : ¬ a = b := fun h => by rw [(sameTable_iff _ _).2 h] at h1; cases h1
    cases q
    · have h2 := fun h => Bool.false_ne_true (hr.2 h)
      have h3 : ∃ k, k < a.Idxs.length ∧ (setStage a k (stageAt a k - 1) = b ∨ setStage a k (stageAt a k + 1) = b) := Classical.byContradiction h2
      rw [decide_eq_true (hn.2 (.inr h3))]; rfl
    · have h2 := hr.1 rfl
      rw [decide_eq_false fun h => by
        rcases hn.1 h with h | h
        · exact hne h
        · exact h2 h]
      rfl
  · rw [decide_eq_true (hn.2 (.inl ((sameTable_iff _ _).1 h1)))]; rfl
theorem true_NextTo (a b : DTable) (_ : wf_Table a) (_ : wf_Table b) : l_FnExactNextTo a b = true := by
  unfold l_FnExactNextTo
  simp only [NextTo_eq, eq_Table, beq_self_eq_true, cond_true, Bool.cond_self]

end Go.Proofs.Ytmlfbjlkccnpmaa
