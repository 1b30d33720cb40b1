/- Read Table: plain laws of the models. -/
import Derived.Test.YtdknedcbonflgaaDoorReadTableT
set_option linter.unusedVariables false
set_option linter.unusedSimpArgs false
namespace Go.Proofs.YtdknedcbonflgaaDoor
open Go.RowKit Go.X
theorem eq_Idx (x : DIdx) : l_eqIdx x x = true := by unfold l_eqIdx; simp only [beq_self_eq_true, cond_true, decide_true]
theorem eq_StringS (x : List Str) : l_eqStringS x x = true := eqL_refl d_Str (f := fun a b => a == b) (fun _ => beq_self_eq_true _) x
theorem eq_IdxS (x : List DIdx) : l_eqIdxS x x = true := eqL_refl d_Idx (f := l_eqIdx) eq_Idx x
theorem eq_Table (x : DTable) : l_eqTable x x = true := by unfold l_eqTable; simp only [eq_StringS, eq_IdxS, beq_self_eq_true, cond_true, decide_true]
def mk_String (_ : Str) (k : Int) : Int × Str := (IntKind.wrap .i64 (k + 1), l_markText k)
theorem mkc_String (x : Str) (k : Int) (h0 : 0 ≤ k) (h1 : k + ((1 : Nat) : Int) ≤ 4611686018427387904) : (mk_String x k).1 = k + ((1 : Nat) : Int) := by
  unfold mk_String
  simp only [IntKind.wrap_i64]; omega
theorem mark_StringS (a : List Str) (k : Int) : l_markStringS a k = mkL mk_String a k := by
  unfold l_markStringS
  exact markE (d := d_Str) (mk := mk_String) (fun i k xs hi => by unfold B_l_markStringS_0; simp only [List.set_set, getD_set_self hi, mk_String]) a k
theorem held_StringS (a : List Str) (k : Int) (h0 : 0 ≤ k) (h1 : k + (cntL (fun _ => 1) a : Int) ≤ 4611686018427387904) : l_heldStringS (l_markStringS a k).2 k = (l_markStringS a k).1 := by
  rw [mark_StringS]
  unfold l_heldStringS
  exact heldE (d := d_Str) (mk := mk_String) (c := fun _ => 1) a k mkc_String (fun i k x hx _ _ => by unfold B_l_heldStringS_0; simp only [hx, mk_String, eq_self, decide_true, beq_self_eq_true, cond_true]) h0 h1
theorem mh_StringS (a : List Str) (k : Int) (h0 : 0 ≤ k) (h1 : k + (((1 : Nat) * a.length : Nat) : Int) ≤ 4611686018427387904) : l_heldStringS (l_markStringS a k).2 k = (l_markStringS a k).1 ∧ (l_markStringS a k).1 = k + (((1 : Nat) * a.length : Nat) : Int) ∧ (l_markStringS a k).2.length = a.length := by
  rw [← cntL_const] at h1 ⊢
  refine ⟨held_StringS a k h0 h1, ?_, ?_⟩
  · rw [mark_StringS]; exact mkL_cnt mkc_String a k h0 h1
  · rw [mark_StringS]; exact mkL_length _ _ _
theorem rf_markStringS (a : List Str) (k : Int) (h : k ≤ 9223372036854775807) : (l_markStringS a k).1 ≤ 9223372036854775807 := by
  unfold l_markStringS
  refine loopM_val (fun _ (s : Int × List Str) => s.1 ≤ 9223372036854775807) (fun (v : Int × List Str) => v.1 ≤ 9223372036854775807) h (fun s hs => hs) ?_
  rintro j ⟨k, x⟩ _ _ hk
  exact wrap_le _
theorem rf_heldStringS (a : List Str) (k : Int) (h : k ≤ 9223372036854775807) : l_heldStringS a k ≤ 9223372036854775807 := by
  unfold l_heldStringS
  refine loopM_val (fun _ (s : Int) => s ≤ 9223372036854775807) (fun v => v ≤ 9223372036854775807) h (fun s hs => hs) ?_
  intro j k' _ _ hk
  unfold B_l_heldStringS_0
  dsimp only
  cases ((a.getD j d_Str) == l_markText k') <;> first | exact wrap_le _ | exact neg1_le
def mk_Idx (_ : DIdx) (k : Int) : Int × DIdx := (IntKind.wrap .i64 ((IntKind.wrap .i64 ((IntKind.wrap .i64 (k + 1)) + 1)) + 1), ⟨l_markText k, IntKind.wrap .i64 (k + 1), IntKind.wrap .i64 ((IntKind.wrap .i64 (k + 1)) + 1)⟩)
theorem mkc_Idx (x : DIdx) (k : Int) (h0 : 0 ≤ k) (h1 : k + ((3 : Nat) : Int) ≤ 4611686018427387904) : (mk_Idx x k).1 = k + ((3 : Nat) : Int) := by
  unfold mk_Idx
  simp only [IntKind.wrap_i64]; omega
theorem mark_IdxS (a : List DIdx) (k : Int) : l_markIdxS a k = mkL mk_Idx a k := by
  unfold l_markIdxS
  exact markE (d := d_Idx) (mk := mk_Idx) (fun i k xs hi => by unfold B_l_markIdxS_0; simp only [List.set_set, getD_set_self hi, mk_Idx]) a k
theorem held_IdxS (a : List DIdx) (k : Int) (h0 : 0 ≤ k) (h1 : k + (cntL (fun _ => 3) a : Int) ≤ 4611686018427387904) : l_heldIdxS (l_markIdxS a k).2 k = (l_markIdxS a k).1 := by
  rw [mark_IdxS]
  unfold l_heldIdxS
  exact heldE (d := d_Idx) (mk := mk_Idx) (c := fun _ => 3) a k mkc_Idx (fun i k x hx _ _ => by unfold B_l_heldIdxS_0; simp only [hx, mk_Idx, eq_self, decide_true, beq_self_eq_true, cond_true]) h0 h1
theorem mh_IdxS (a : List DIdx) (k : Int) (h0 : 0 ≤ k) (h1 : k + (((3 : Nat) * a.length : Nat) : Int) ≤ 4611686018427387904) : l_heldIdxS (l_markIdxS a k).2 k = (l_markIdxS a k).1 ∧ (l_markIdxS a k).1 = k + (((3 : Nat) * a.length : Nat) : Int) ∧ (l_markIdxS a k).2.length = a.length := by
  rw [← cntL_const] at h1 ⊢
  refine ⟨held_IdxS a k h0 h1, ?_, ?_⟩
  · rw [mark_IdxS]; exact mkL_cnt mkc_Idx a k h0 h1
  · rw [mark_IdxS]; exact mkL_length _ _ _
theorem rf_markIdxS (a : List DIdx) (k : Int) (h : k ≤ 9223372036854775807) : (l_markIdxS a k).1 ≤ 9223372036854775807 := by
  unfold l_markIdxS
  refine loopM_val (fun _ (s : Int × List DIdx) => s.1 ≤ 9223372036854775807) (fun (v : Int × List DIdx) => v.1 ≤ 9223372036854775807) h (fun s hs => hs) ?_
  rintro j ⟨k, x⟩ _ _ hk
  exact wrap_le _
theorem rf_heldIdxS (a : List DIdx) (k : Int) (h : k ≤ 9223372036854775807) : l_heldIdxS a k ≤ 9223372036854775807 := by
  unfold l_heldIdxS
  refine loopM_val (fun _ (s : Int) => s ≤ 9223372036854775807) (fun v => v ≤ 9223372036854775807) h (fun s hs => hs) ?_
  intro j k' _ _ hk
  unfold B_l_heldIdxS_0
  dsimp only
  cases (((a.getD j d_Idx).Name) == l_markText k') <;> cases decide (((a.getD j d_Idx).Col) = IntKind.wrap .i64 (k' + 1)) <;> cases decide (((a.getD j d_Idx).Stage) = IntKind.wrap .i64 ((IntKind.wrap .i64 (k' + 1)) + 1)) <;> first | exact wrap_le _ | exact neg1_le
theorem mh_Table (a : DTable) (k : Int) (h0 : 0 ≤ k) (h1 : k + ((1 * a.Cols.length + 3 * a.Idxs.length : Nat) : Int) ≤ 4611686018427387904) : l_heldTable (l_markTable a k).2 k = (l_markTable a k).1 ∧ (l_markTable a k).1 = k + ((1 * a.Cols.length + 3 * a.Idxs.length : Nat) : Int) := by
  obtain ⟨e0, n0, _⟩ := mh_StringS a.Cols k (by omega) (by omega)
  obtain ⟨e1, n1, _⟩ := mh_IdxS a.Idxs (k + ((1 * a.Cols.length : Nat) : Int)) (by omega) (by omega)
  have q1 : l_heldTable (l_markTable a k).2 k = (k + ((1 * a.Cols.length : Nat) : Int)) + ((3 * a.Idxs.length : Nat) : Int) := by unfold l_heldTable l_markTable; simp only [e0, n0, e1, n1, decide_eq_false (show ¬ k + ((1 * a.Cols.length : Nat) : Int) < 0 by omega), decide_eq_false (show ¬ (k + ((1 * a.Cols.length : Nat) : Int)) + ((3 * a.Idxs.length : Nat) : Int) < 0 by omega), cond_false]
  have q2 : (l_markTable a k).1 = (k + ((1 * a.Cols.length : Nat) : Int)) + ((3 * a.Idxs.length : Nat) : Int) := by unfold l_markTable; simp only [n0, n1]
  exact ⟨q1.trans q2.symm, q2.trans (by omega)⟩
theorem eta_markTable (r : DTable) (k : Int) : (⟨r.Name, (l_markTable r k).2.Cols, (l_markTable r k).2.Idxs⟩ : DTable) = (l_markTable r k).2 := rfl
theorem rf_markTable (a : DTable) (k : Int) (h : k ≤ 9223372036854775807) : (l_markTable a k).1 ≤ 9223372036854775807 := by
  unfold l_markTable
  exact (rf_markIdxS _ _ (rf_markStringS _ _ h))
theorem rf_heldTable (a : DTable) (k : Int) (h : k ≤ 9223372036854775807) : l_heldTable a k ≤ 9223372036854775807 := by
  unfold l_heldTable
  cases decide (l_heldStringS a.Cols k < 0) <;> cases decide (l_heldIdxS a.Idxs (l_heldStringS a.Cols k) < 0) <;> first | exact neg1_le | exact (rf_heldIdxS _ _ (rf_heldStringS _ _ h))
theorem Contains_string (xs : List Str) (y : Str) : g_slices_Contains_string xs y = xs.any (fun x => y == x) := idxF_any _ d_Str xs
theorem within_eq : i_within = s_l1In := rfl
theorem f_l1In {n lo hi : Int} (h : s_l1In n lo hi = true) : lo ≤ n ∧ n ≤ hi := by
  unfold s_l1In at h
  obtain ⟨h1, h2⟩ := of_cond_f h
  exact ⟨of_decide_eq_true h1, of_decide_eq_true h2⟩
theorem f_within {n lo hi : Int} (h : i_within n lo hi = true) : lo ≤ n ∧ n ≤ hi := f_l1In h
theorem toNat_eq (a b : UInt8) : decide ((a.toNat : Int) = (b.toNat : Int)) = (a == b) := by
  rw [Bool.eq_iff_iff, decide_eq_true_iff, beq_iff_eq]
  constructor
  · intro h; exact UInt8.toNat.inj (by omega)
  · intro h; rw [h]
theorem letters_eq : i_areLetters = s_l24Letters := by
  funext s m
  unfold i_areLetters s_l24Letters
  rfl
theorem l24At_neg (l : List Str) (s : Str) : decide (0 ≤ s_l24At l s) = l.any fun x => x == s := by
  have : s_l24At l s = idxF (fun x => x == s) d_Str l := rfl
  rw [this, idxF_any]
def colOk (l : List Str) (k : Nat) : Bool := s_l24Letters (l.getD k d_Str) 3 && !((l.take k).any fun x => x == l.getD k d_Str)
theorem l24Cols_eq (l : List Str) : s_l24Cols l = ((List.range l.length).all (colOk l) && s_l1In (l.length : Int) 2 4) := by
  unfold s_l24Cols
  rw [loopU (colOk l) (r := false) fun k _ => by
    unfold B_s_l24Cols_0 colOk
    rw [l24At_neg]
    cases s_l24Letters (l.getD k d_Str) 3 <;> cases ((l.take k).any fun x => x == l.getD k d_Str) <;> rfl]
  cases (List.range l.length).all (colOk l) <;> rfl
theorem GoodTable_eq (t : DTable) : i_GoodTable t = s_GoodTable t := by
  unfold i_GoodTable s_GoodTable
  rw [l24Cols_eq, letters_eq, within_eq]
  rw [loopU (colOk t.Cols) (r := false) fun k _ => by
    unfold B_i_GoodTable_0 colOk
    rw [Contains_string, letters_eq]
    rw [show ((t.Cols.take k).any fun x => t.Cols.getD k d_Str == x) = ((t.Cols.take k).any fun x => x == t.Cols.getD k d_Str) by congr 1; funext x; rw [Bool.beq_comm]]
    cases s_l24Letters (t.Cols.getD k d_Str) 3 <;> cases ((t.Cols.take k).any fun x => x == t.Cols.getD k d_Str) <;> rfl]
  have hb : B_i_GoodTable_1 t = B_s_GoodTable_0 t := by
    funext k u
    unfold B_i_GoodTable_1 B_s_GoodTable_0 i_isStage
    rw [letters_eq, within_eq, sLe_not]
    cases s_l24Letters ((t.Idxs.getD k d_Idx).Name) 1 <;> cases s_l1In ((t.Idxs.getD k d_Idx).Col) 1 (IntKind.wrap .i64 ((t.Cols.length : Int) - 1)) <;> cases s_l1In ((t.Idxs.getD k d_Idx).Stage) 0 3 <;> cases decide (0 < (k : Int)) <;> cases sLt ((t.Idxs.getD ((IntKind.wrap .i64 ((k : Int) - 1)).toNat) d_Idx).Name) ((t.Idxs.getD k d_Idx).Name) <;> rfl
  rw [hb]
  cases s_l24Letters t.Name 1 <;> cases s_l1In (t.Cols.length : Int) 2 4 <;> cases decide (3 < (t.Idxs.length : Int)) <;> cases (List.range t.Cols.length).all (colOk t.Cols) <;> rfl
theorem f_s_GoodTable {t : DTable} (h : s_GoodTable t = true) : 2 ≤ (t.Cols.length : Int) ∧ (t.Cols.length : Int) ≤ 4 ∧ (t.Idxs.length : Int) ≤ 3 := by
  unfold s_GoodTable at h
  obtain ⟨_, h⟩ := of_cond_f h
  obtain ⟨h1, h⟩ := of_cond_f h
  rw [l24Cols_eq, Bool.and_eq_true] at h1
  have h2 := f_l1In h1.2
  refine ⟨h2.1, h2.2, ?_⟩
  cases h3 : decide (3 < (t.Idxs.length : Int))
  · have := of_decide_eq_false h3; omega
  · rw [h3] at h; cases h
theorem f_i_GoodTable {t : DTable} (h : i_GoodTable t = true) : 2 ≤ (t.Cols.length : Int) ∧ (t.Cols.length : Int) ≤ 4 ∧ (t.Idxs.length : Int) ≤ 3 := f_s_GoodTable (GoodTable_eq t ▸ h)
def idxOk (t : DTable) (k : Nat) : Bool := s_l24Letters (t.Idxs.getD k d_Idx).Name 1 && s_l1In (t.Idxs.getD k d_Idx).Col 1 (IntKind.wrap .i64 ((t.Cols.length : Int) - 1)) && s_l1In (t.Idxs.getD k d_Idx).Stage 0 3 && bif decide (0 < (k : Int)) then sLt (t.Idxs.getD ((IntKind.wrap .i64 ((k : Int) - 1)).toNat) d_Idx).Name (t.Idxs.getD k d_Idx).Name else true
theorem s_GoodTable_eq (t : DTable) : s_GoodTable t = (s_l24Letters t.Name 1 && s_l24Cols t.Cols && decide (t.Idxs.length ≤ 3) && (List.range t.Idxs.length).all (idxOk t)) := by
  unfold s_GoodTable
  rw [loopU (idxOk t) (r := false) fun k _ => by
    unfold B_s_GoodTable_0 idxOk
    cases s_l24Letters (t.Idxs.getD k d_Idx).Name 1 <;> cases s_l1In (t.Idxs.getD k d_Idx).Col 1 (IntKind.wrap .i64 ((t.Cols.length : Int) - 1)) <;> cases s_l1In (t.Idxs.getD k d_Idx).Stage 0 3 <;> cases decide (0 < (k : Int)) <;> cases sLt (t.Idxs.getD ((IntKind.wrap .i64 ((k : Int) - 1)).toNat) d_Idx).Name (t.Idxs.getD k d_Idx).Name <;> rfl]
  have e : decide (t.Idxs.length ≤ 3) = !decide (3 < (t.Idxs.length : Int)) := by
    by_cases h : t.Idxs.length ≤ 3
    · rw [decide_eq_true h, decide_eq_false (by omega)]; rfl
    · rw [decide_eq_false h, decide_eq_true (by omega)]; rfl
  rw [e]
  cases s_l24Letters t.Name 1 <;> cases s_l24Cols t.Cols <;> cases decide (3 < (t.Idxs.length : Int)) <;> cases (List.range t.Idxs.length).all (idxOk t) <;> rfl
def letter (b : UInt8) : Bool := !decide ((b.toNat : Int) < 97) && !decide (122 < (b.toNat : Int))
theorem l24Letters_eq (s : Str) (m : Int) : s_l24Letters s m = (s.all letter && decide (1 ≤ (s.length : Int)) && decide ((s.length : Int) ≤ m)) := by
  unfold s_l24Letters
  rw [allE (0 : UInt8) letter (r := false) fun k => by
    unfold B_s_l24Letters_0 letter
    cases decide (((s.getD k 0).toNat : Int) < 97) <;> cases decide (122 < ((s.getD k 0).toNat : Int)) <;> rfl]
  cases s.all letter <;> cases decide (1 ≤ (s.length : Int)) <;> rfl
theorem letters_len {s : Str} {m : Int} (h : s_l24Letters s m = true) : 1 ≤ (s.length : Int) ∧ (s.length : Int) ≤ m := by
  rw [l24Letters_eq] at h
  simp only [Bool.and_eq_true, decide_eq_true_eq] at h
  exact ⟨h.1.2, h.2⟩
structure GoodT (t : DTable) : Prop where
  name : t.Name.length = 1
  cols : 2 ≤ t.Cols.length ∧ t.Cols.length ≤ 4
  idxs : t.Idxs.length ≤ 3
  idx : ∀ k, k < t.Idxs.length → (t.Idxs.getD k d_Idx).Name.length = 1 ∧ 1 ≤ (t.Idxs.getD k d_Idx).Col ∧ (t.Idxs.getD k d_Idx).Col < (t.Cols.length : Int) ∧ 0 ≤ (t.Idxs.getD k d_Idx).Stage ∧ (t.Idxs.getD k d_Idx).Stage ≤ 3
  rise : ∀ k, k + 1 < t.Idxs.length → (t.Idxs.getD k d_Idx).Name < (t.Idxs.getD (k + 1) d_Idx).Name
theorem GoodT.of {t : DTable} (h : s_GoodTable t = true) : GoodT t := by
  have hf := f_s_GoodTable h
  rw [s_GoodTable_eq] at h
  simp only [Bool.and_eq_true, decide_eq_true_eq, List.all_eq_true, List.mem_range] at h
  obtain ⟨⟨⟨h1, h2⟩, h3⟩, h4⟩ := h
  have h5 : ∀ k, k < t.Idxs.length → _ := fun k hk => h4 k hk
  unfold idxOk at h5
  simp only [Bool.and_eq_true] at h5
  refine ⟨by have := letters_len h1; omega, by omega, h3, fun k hk => ?_, fun k hk => ?_⟩
  · obtain ⟨⟨⟨a, b⟩, c⟩, d⟩ := h5 k hk
    have a := letters_len a
    have b := f_l1In b
    have c := f_l1In c
    rw [wrap_in (by omega)] at b
    omega
  · have d := (h5 (k + 1) hk).2
    rw [wrap_in (by omega), decide_eq_true (show 0 < ((k + 1 : Nat) : Int) by omega)] at d
    have e : (((k + 1 : Nat) : Int) - 1).toNat = k := by omega
    rw [e] at d
    exact (sLt_iff _ _).1 d
theorem Index_one (s : Str) (c : UInt8) : g_internal_stringslite_Index s [c] = Lib.indexByte s c := by
  unfold g_internal_stringslite_Index g_internal_stringslite_IndexByte idxB
  have h : ((([c] : Str).getD 0 0).toNat : Int).toNat.toUInt8 = c := by simp
  rw [h]
  cases hc : ([c] : Str) == s
  · rfl
  · have : s = [c] := (eq_of_beq hc).symm
    subst this
    simp [Lib.indexByte]
theorem rf_Index {s sub : Str} (h : sub.length = 1) : -1 ≤ g_internal_stringslite_Index s sub ∧ g_internal_stringslite_Index s sub ≤ (s.length : Int) - 1 := by
  match sub, h with
  | [c], _ =>
    rw [Index_one]
    rcases indexByte_split c s with ⟨_, h2⟩ | ⟨a, r, h1, _, h3⟩
    · rw [h2]; omega
    · rw [h3, h1]; simp only [List.length_append, List.length_cons]; omega
theorem f_Cut {s sub : Str} (o : okS s) (h : sub.length = 1) (hd : decide (0 ≤ g_internal_stringslite_Index s sub) = true) : 0 ≤ IntKind.wrap .i64 ((g_internal_stringslite_Index s sub) + (sub.length : Int)) ∧ IntKind.wrap .i64 ((g_internal_stringslite_Index s sub) + (sub.length : Int)) ≤ (s.length : Int) := by
  have h1 := of_decide_eq_true hd
  have h2 := rf_Index (s := s) h
  unfold okS at o
  rw [h, wrap_in (by omega)]
  omega
theorem okS_l1Split {s : Str} (h : okS s) (b : Int) (i : Nat) : okS ((s_l1Split s b).getD i d_Str) := by
  have hh : ∀ x ∈ s_l1Split s b, okS x := by
    unfold s_l1Split
    refine loopM_val (fun _ (p : List Str × Int) => ∀ x ∈ p.1, okS x) (fun (v : List Str) => ∀ x ∈ v, okS x) (fun _ h => by cases h) ?_ ?_
    · rintro ⟨x, a⟩ hx y hy
      rcases List.mem_append.1 hy with hy | hy
      · exact hx y hy
      · rw [List.mem_singleton.1 hy]; exact h.drop _
    · rintro j ⟨x, a⟩ _ _ hx
      unfold B_s_l1Split_0
      dsimp only
      cases decide (((s.getD j 0).toNat : Int) = b)
      · exact hx
      · intro y hy
        rcases List.mem_append.1 hy with hy | hy
        · exact hx y hy
        · rw [List.mem_singleton.1 hy]; exact (h.take _).drop _
  rw [List.getD_eq_getElem?_getD]
  cases h1 : (s_l1Split s b)[i]? with
  | none => exact ok_d_Str
  | some x => exact hh x (List.mem_of_getElem? h1)

theorem l1Split_sp (s : Str) (b : UInt8) : s_l1Split s (b.toNat : Int) = sp b s := by
  unfold s_l1Split
  refine loopM_val (fun k (p : List Str × Int) => 0 ≤ p.2 ∧ p.2.toNat ≤ k ∧ b ∉ (s.take k).drop p.2.toNat ∧ p.1 ++ sp b (s.drop p.2.toNat) = sp b s) (fun (v : List Str) => v = sp b s) ⟨by omega, by simp, by simp, by simp⟩ ?_ ?_
  · rintro ⟨x, a⟩ ⟨h1, h2, h3, h4⟩
    dsimp only at h1 h2 h3 h4 ⊢
    rw [show s.take (0 + (s.length - 0)) = s from by rw [List.take_of_length_le (by omega)]] at h3
    rw [sp_none h3] at h4
    exact h4
  · rintro j ⟨x, a⟩ _ hj ⟨h1, h2, h3, h4⟩
    have hj' : j < s.length := by omega
    unfold B_s_l1Split_0
    dsimp only at h1 h2 h3 h4 ⊢
    have ht : (s.take (j + 1)).drop a.toNat = (s.take j).drop a.toNat ++ [s.getD j 0] := by
      rw [getD_eq hj', List.take_succ_eq_append_getElem hj', List.drop_append_of_le_length (by rw [List.length_take]; omega)]
    have hd : s.drop a.toNat = (s.take j).drop a.toNat ++ s.getD j 0 :: s.drop (j + 1) := by
      conv => lhs; rw [← List.take_append_drop j s]
      rw [List.drop_append_of_le_length (by rw [List.length_take]; omega), getD_eq hj', List.drop_eq_getElem_cons hj']
    rw [toNat_eq]
    cases hc : s.getD j 0 == b
    · refine ⟨h1, by omega, ?_, h4⟩
      rw [ht]
      intro hm
      rcases List.mem_append.1 hm with hm | hm
      · exact h3 hm
      · rw [← List.mem_singleton.1 hm] at hc; simp at hc
    · have hb : s.getD j 0 = b := eq_of_beq hc
      refine ⟨by omega, by simp, by simp, ?_⟩
      rw [hd, hb, sp_some h3] at h4
      rw [← h4, List.append_assoc]
      show x ++ ([_] ++ sp b (s.drop _)) = _
      rw [show (((j + 1 : Nat) : Int)).toNat = j + 1 from by simp]
      rfl
theorem Cut_some {a r : Str} {c : UInt8} (h : c ∉ a) (hl : a.length ≤ 1073741824) : g_strings_Cut (a ++ c :: r) [c] = (a, r, true) := by
  have h1 : g_internal_stringslite_Index (a ++ c :: r) [c] = (a.length : Int) := by
    rw [Index_one]
    rcases indexByte_split c (a ++ c :: r) with ⟨h2, _⟩ | ⟨a', r', h2, h3, h4⟩
    · simp at h2
    · have : a' :: sp c r' = a :: sp c r := by rw [← sp_some h3, ← sp_some h, h2]
      rw [h4, (List.cons.inj this).1]
  unfold g_strings_Cut g_internal_stringslite_Cut
  rw [h1, decide_eq_true (by omega)]
  simp only [cond_true]
  rw [wrap_in (by simp only [List.length_cons, List.length_nil]; omega)]
  have h2 : ((a.length : Int)).toNat = a.length := by simp
  have h3 : ((a.length : Int) + (([c] : Str).length : Int)).toNat = a.length + 1 := by simp only [List.length_cons, List.length_nil]; omega
  rw [h2, h3]
  simp
theorem loopM_congr {ρ σ : Type} {b b' : Nat → σ → Out ρ σ} : ∀ (n k : Nat) (s : σ), (∀ j s, k ≤ j → j < k + n → b j s = b' j s) → loopM b n k s = loopM b' n k s
  | 0, _, _, _ => rfl
  | n + 1, k, s, h => by
    have h1 := h k s (Nat.le_refl _) (by omega)
    have ih := fun s => loopM_congr n (k + 1) s fun j s h2 h3 => h j s (by omega) (by omega)
    simp only [loopM]
    rw [h1]
    cases b' k s with
    | ret r => rfl
    | brk s => rfl
    | cont s => exact ih s
theorem inter_cons (sep x y : Str) (zs : List Str) : sep.intercalate (x :: y :: zs) = x ++ (sep ++ sep.intercalate (y :: zs)) := by
  simp [List.intercalate, List.intersperse]
theorem inter_one (sep x : Str) : sep.intercalate [x] = x := by simp [List.intercalate]
theorem inter_concat (sep x : Str) : ∀ xs : List Str, 0 < xs.length → sep.intercalate (xs ++ [x]) = (sep.intercalate xs ++ sep) ++ x
  | [], h => by simp at h
  | [y], _ => by show sep.intercalate (y :: x :: []) = _; rw [inter_cons, inter_one, inter_one, List.append_assoc]
  | y :: z :: zs, _ => by
    show sep.intercalate (y :: z :: (zs ++ [x])) = _
    rw [inter_cons, show z :: (zs ++ [x]) = (z :: zs) ++ [x] from rfl, inter_concat sep x (z :: zs) (Nat.succ_pos _), inter_cons]
    simp only [List.append_assoc]
theorem inter_len : ∀ xs : List Str, (∀ x ∈ xs, x.length ≤ 3) → (([44] : Str).intercalate xs).length ≤ 4 * xs.length
  | [], _ => Nat.zero_le _
  | [x], h => by have := h x (by simp); rw [inter_one, List.length_singleton]; omega
  | x :: y :: zs, h => by
    have h1 := h x (by simp)
    have h2 := inter_len (y :: zs) fun z hz => h z (List.mem_cons_of_mem _ hz)
    rw [inter_cons, List.length_append, List.length_append, List.length_cons (as := y :: zs)]
    simp only [List.length_cons, List.length_nil] at h2 ⊢
    omega
theorem Join_eq (xs : List Str) (sep : Str) : s_l24Join xs sep = g_strings_Join xs sep := by
  unfold s_l24Join g_strings_Join
  refine loopM_val (fun k (s : Str) => s = sep.intercalate (xs.take k)) (fun (v : Str) => v = sep.intercalate xs) rfl (fun s h => by rw [h, List.take_of_length_le (by omega)]) ?_
  intro j s _ hj hs
  have hj' : j < xs.length := by omega
  unfold B_s_l24Join_0
  dsimp only
  rw [List.take_succ_eq_append_getElem hj', getD_eq hj']
  by_cases h0 : 0 < j
  · rw [decide_eq_true (by omega), hs, inter_concat _ _ _ (by rw [List.length_take]; omega)]; rfl
  · have : j = 0 := by omega
    subst this
    rw [decide_eq_false (by omega), hs]
    show [] ++ _ = _
    simp [List.intercalate]
theorem f_i_isStage {s : Int} (h : i_isStage s = true) : 0 ≤ s ∧ s ≤ 3 := f_within h
theorem rf_l1Split (s : Str) (b : Int) : 1 ≤ (s_l1Split s b).length ∧ (s_l1Split s b).length ≤ s.length + 1 := by
  unfold s_l1Split
  refine loopM_val (fun k (p : List Str × Int) => p.1.length ≤ k) (fun (v : List Str) => 1 ≤ v.length ∧ v.length ≤ s.length + 1) (Nat.zero_le _) ?_ ?_
  · rintro ⟨x, a⟩ h1
    dsimp only at h1 ⊢
    rw [List.length_append, List.length_singleton]; omega
  · rintro j ⟨x, a⟩ _ hj h1
    dsimp only at h1
    unfold B_s_l1Split_0
    dsimp only
    cases decide (((s.getD j 0).toNat : Int) = b)
    · exact Nat.le_succ_of_le h1
    · show (x ++ _).length ≤ _
      rw [List.length_append, List.length_singleton]; omega
theorem rf_Split (s sep : Str) : 1 ≤ (g_strings_Split s sep).length ∧ (g_strings_Split s sep).length ≤ s.length + 1 := ⟨sp_ne _ _, sp_length _ _⟩
theorem gt_name {t : DTable} (h : s_GoodTable t = true) : t.Name.length ≤ 1 := Nat.le_of_eq (GoodT.of h).name
theorem gt_idx {t : DTable} (h : s_GoodTable t = true) {k : Nat} (hk : k < t.Idxs.length) : 0 ≤ (t.Idxs.getD k d_Idx).Col ∧ (t.Idxs.getD k d_Idx).Col < (t.Cols.length : Int) ∧ 0 ≤ (t.Idxs.getD k d_Idx).Stage ∧ (t.Idxs.getD k d_Idx).Stage ≤ 3 ∧ (t.Idxs.getD k d_Idx).Name.length = 1 := by
  obtain ⟨a, b, c, d, e⟩ := (GoodT.of h).idx k hk
  exact ⟨by omega, c, d, e, a⟩
theorem col_len {t : DTable} (h : s_GoodTable t = true) : ∀ c ∈ t.Cols, c.length ≤ 3 := by
  rw [s_GoodTable_eq, l24Cols_eq] at h
  simp only [Bool.and_eq_true] at h
  have h2 := h.1.1.2.1
  intro c hc
  obtain ⟨k, hk, rfl⟩ := List.mem_iff_getElem.1 hc
  have h3 := List.all_eq_true.1 h2 k (List.mem_range.2 hk)
  unfold colOk at h3
  rw [Bool.and_eq_true, getD_eq hk] at h3
  have := letters_len h3.1
  omega
theorem join_cols {t : DTable} (h : s_GoodTable t = true) : (g_strings_Join t.Cols ([44] : Str)).length ≤ 1073741824 := by
  have h1 := inter_len t.Cols (col_len h)
  have h2 := (GoodT.of h).cols
  unfold g_strings_Join; omega
theorem l1Num_eq {n : Int} (h : 0 ≤ n ∧ n ≤ 9) : s_l1Num n = g_strconv_Itoa n := by
  have : n = 0 ∨ n = 1 ∨ n = 2 ∨ n = 3 ∨ n = 4 ∨ n = 5 ∨ n = 6 ∨ n = 7 ∨ n = 8 ∨ n = 9 := by omega
  rcases this with rfl | rfl | rfl | rfl | rfl | rfl | rfl | rfl | rfl | rfl <;> decide
theorem rf_l1Num (n : Int) : (s_l1Num n).length = 1 := rfl
theorem rf_Itoa (n : Int) : (g_strconv_Itoa n).length = 1 := rfl
theorem tableText_eq {t : DTable} (h : s_GoodTable t = true) : i_tableText t = s_l24Text t := by
  unfold i_tableText s_l24Text
  rw [Join_eq]
  congr 1
  refine loopM_congr _ _ _ fun j s _ hj => ?_
  have hg := gt_idx h (k := j) (by omega)
  unfold B_i_tableText_0 B_s_l24Text_0
  dsimp only
  rw [l1Num_eq (by omega)]
theorem sp_inter (c : UInt8) : ∀ xs : List Str, 0 < xs.length → (∀ x ∈ xs, c ∉ x) → sp c (([c] : Str).intercalate xs) = xs
  | [], h, _ => absurd h (Nat.lt_irrefl _)
  | [x], _, h => by rw [inter_one]; exact sp_none (h x (by simp))
  | x :: y :: zs, _, h => by
    rw [inter_cons, show x ++ (([c] : Str) ++ ([c] : Str).intercalate (y :: zs)) = x ++ c :: ([c] : Str).intercalate (y :: zs) from rfl, sp_some (h x (by simp)), sp_inter c (y :: zs) (Nat.succ_pos _) fun z hz => h z (List.mem_cons_of_mem _ hz)]
theorem rf_Cut (s sep : Str) : (g_strings_Cut s sep).1.length ≤ s.length ∧ (g_strings_Cut s sep).2.1.length ≤ s.length := by
  unfold g_strings_Cut g_internal_stringslite_Cut
  cases decide (0 ≤ g_internal_stringslite_Index s sep)
  · exact ⟨Nat.le_refl _, Nat.zero_le _⟩
  · simp only [cond_true, List.length_take, List.length_drop]
    omega
theorem letters_no {s : Str} {m : Int} (h : s_l24Letters s m = true) {c : UInt8} (hc : letter c = false) : c ∉ s := by
  rw [l24Letters_eq, Bool.and_eq_true, Bool.and_eq_true, List.all_eq_true] at h
  intro hm
  rw [h.1.1 _ hm] at hc; cases hc
structure GoodTx (t : DTable) : Prop where
  name : ∀ {c : UInt8}, letter c = false → c ∉ t.Name
  col : ∀ x ∈ t.Cols, ∀ {c : UInt8}, letter c = false → c ∉ x
  idx : ∀ k, k < t.Idxs.length → ∀ {c : UInt8}, letter c = false → c ∉ (t.Idxs.getD k d_Idx).Name
  dist : ∀ k, k < t.Cols.length → ∀ j, j < k → t.Cols.getD j d_Str ≠ t.Cols.getD k d_Str
theorem GoodTx.of {t : DTable} (h : s_GoodTable t = true) : GoodTx t := by
  rw [s_GoodTable_eq, l24Cols_eq] at h
  simp only [Bool.and_eq_true, List.all_eq_true, List.mem_range] at h
  obtain ⟨⟨⟨h1, h2, -⟩, -⟩, h4⟩ := h
  have hcol : ∀ k, k < t.Cols.length → s_l24Letters (t.Cols.getD k d_Str) 3 = true ∧ ((t.Cols.take k).any fun x => x == t.Cols.getD k d_Str) = false := fun k hk => by
    have := h2 k hk
    unfold colOk at this
    rw [Bool.and_eq_true] at this
    exact ⟨this.1, by simpa using this.2⟩
  refine ⟨fun hc => letters_no h1 hc, fun x hx c hc => ?_, fun k hk c hc => ?_, fun k hk j hj e => ?_⟩
  · obtain ⟨k, hk, rfl⟩ := List.mem_iff_getElem.1 hx
    have := (hcol k hk).1
    rw [getD_eq hk] at this
    exact letters_no this hc
  · have := h4 k hk
    unfold idxOk at this
    simp only [Bool.and_eq_true] at this
    exact letters_no this.1.1.1 hc
  · have h5 := (hcol k hk).2
    rw [List.any_eq_false] at h5
    refine h5 (t.Cols.getD j d_Str) ?_ (by rw [e]; exact beq_self_eq_true _)
    rw [getD_eq (by omega : j < t.Cols.length)]
    exact List.mem_take_iff_getElem.2 ⟨j, by omega, rfl⟩
theorem idxF_at {f : Str → Bool} {d : Str} {xs : List Str} {k : Nat} (hk : k < xs.length) (ht : f (xs.getD k d) = true) (hb : ∀ j, j < k → f (xs.getD j d) = false) : idxF f d xs = (k : Int) := by
  rcases idxF_spec f d xs with ⟨_, h2⟩ | ⟨i, hi, h1, h2, h3⟩
  · rw [h2 _ (getD_mem hk)] at ht; cases ht
  · rw [h1]
    rcases Nat.lt_trichotomy i k with h | h | h
    · have := hb i h; rw [getD_eq hi, h2] at this; cases this
    · rw [h]
    · have := h3 k h; rw [getD_eq hk, this] at ht; cases ht
theorem at_col {t : DTable} (h : s_GoodTable t = true) {k : Nat} (hk : k < t.Cols.length) : s_l24At t.Cols (t.Cols.getD k d_Str) = (k : Int) ∧ g_slices_Index_string t.Cols (t.Cols.getD k d_Str) = (k : Int) := by
  have hd := (GoodTx.of h).dist k hk
  exact ⟨idxF_at (f := fun x => x == t.Cols.getD k d_Str) (d := d_Str) hk (beq_self_eq_true _) fun j hj => beq_eq_false_iff_ne.2 (hd j hj),
    idxF_at (f := fun x => t.Cols.getD k d_Str == x) (d := d_Str) hk (beq_self_eq_true _) fun j hj => beq_eq_false_iff_ne.2 fun e => hd j hj e.symm⟩
def idxW (t : DTable) (x : DIdx) : Str := x.Name ++ 47 :: (t.Cols.getD x.Col.toNat d_Str ++ 47 :: s_l1Num x.Stage)
def headW (t : DTable) : Str := t.Name ++ 40 :: g_strings_Join t.Cols ([44] : Str)
def tailW (ws : List Str) : Str := (ws.map fun w => (32 : UInt8) :: w).flatten
theorem l24Text_eq (t : DTable) : s_l24Text t = headW t ++ 41 :: tailW (t.Idxs.map (idxW t)) := by
  unfold s_l24Text
  rw [catE (body := B_s_l24Text_0 t) (xs := t.Idxs) d_Idx (fun x => (32 : UInt8) :: idxW t x) fun k x _ => by
    unfold B_s_l24Text_0 idxW
    simp only [List.append_assoc, List.singleton_append, List.cons_append, List.nil_append]]
  rw [Join_eq]
  unfold headW tailW
  simp only [List.append_assoc, List.singleton_append, List.cons_append, List.nil_append, List.map_map]
  rfl
theorem sp_words {c : UInt8} : ∀ (ws : List Str) {h : Str}, c ∉ h → (∀ w ∈ ws, c ∉ w) → sp c (h ++ (ws.map fun w => c :: w).flatten) = h :: ws
  | [], h, hh, _ => by rw [List.map_nil, List.flatten_nil, List.append_nil, sp_none hh]
  | w :: ws, h, hh, hw => by
    rw [List.map_cons, List.flatten_cons, List.cons_append, sp_some hh, sp_words ws (hw w List.mem_cons_self) fun x hx => hw x (List.mem_cons_of_mem _ hx)]
theorem digit_no {n : Int} (h : 0 ≤ n ∧ n ≤ 3) {c : UInt8} (hc : c.toNat < 48 ∨ 51 < c.toNat) : c ∉ s_l1Num n := by
  have : n = 0 ∨ n = 1 ∨ n = 2 ∨ n = 3 := by omega
  intro hm
  rcases this with rfl | rfl | rfl | rfl
  · rw [show s_l1Num 0 = [48] from rfl, List.mem_singleton] at hm; subst hm; exact absurd hc (by decide)
  · rw [show s_l1Num 1 = [49] from rfl, List.mem_singleton] at hm; subst hm; exact absurd hc (by decide)
  · rw [show s_l1Num 2 = [50] from rfl, List.mem_singleton] at hm; subst hm; exact absurd hc (by decide)
  · rw [show s_l1Num 3 = [51] from rfl, List.mem_singleton] at hm; subst hm; exact absurd hc (by decide)
theorem col_mem {t : DTable} (h : s_GoodTable t = true) {k : Nat} (hk : k < t.Idxs.length) : t.Cols.getD (t.Idxs.getD k d_Idx).Col.toNat d_Str ∈ t.Cols := by
  have := gt_idx h hk
  exact getD_mem (by omega)
theorem word_no {t : DTable} (h : s_GoodTable t = true) : ∀ w ∈ t.Idxs.map (idxW t), (32 : UInt8) ∉ w := by
  intro w hw
  obtain ⟨x, hx, rfl⟩ := List.mem_map.1 hw
  obtain ⟨k, hk, rfl⟩ := List.mem_iff_getElem.1 hx
  have hx := GoodTx.of h
  have h1 := hx.idx k hk (c := 32) (by decide)
  have h2 := hx.col _ (col_mem h hk) (c := 32) (by decide)
  have h3 := digit_no (n := (t.Idxs.getD k d_Idx).Stage) (by have := gt_idx h hk; omega) (c := 32) (.inl (by decide))
  rw [getD_eq hk] at h1 h2 h3
  unfold idxW
  simp only [List.mem_append, List.mem_cons, not_or]
  exact ⟨h1, by decide, h2, by decide, h3⟩
theorem word_sp {t : DTable} (h : s_GoodTable t = true) {k : Nat} (hk : k < t.Idxs.length) : sp 47 (idxW t (t.Idxs.getD k d_Idx)) = [(t.Idxs.getD k d_Idx).Name, t.Cols.getD (t.Idxs.getD k d_Idx).Col.toNat d_Str, s_l1Num (t.Idxs.getD k d_Idx).Stage] := by
  have hx := GoodTx.of h
  unfold idxW
  rw [sp_some (hx.idx k hk (by decide)), sp_some (hx.col _ (col_mem h hk) (by decide)), sp_none (digit_no (by have := gt_idx h hk; omega) (.inl (by decide)))]
theorem join_no {t : DTable} (h : s_GoodTable t = true) {c : UInt8} (hc : letter c = false) (h44 : c ≠ 44) : c ∉ g_strings_Join t.Cols ([44] : Str) := by
  have key : ∀ xs : List Str, (∀ x ∈ xs, c ∉ x) → c ∉ ([44] : Str).intercalate xs := by
    intro xs
    induction xs with
    | nil => intro _ hm; cases hm
    | cons x xs ih =>
      intro hx
      cases xs with
      | nil => intro hm; rw [show ([44] : Str).intercalate [x] = x by simp [List.intercalate]] at hm; exact hx x List.mem_cons_self hm
      | cons y ys =>
        have h2 := ih fun z hz => hx z (List.mem_cons_of_mem _ hz)
        rw [show ([44] : Str).intercalate (x :: y :: ys) = x ++ 44 :: ([44] : Str).intercalate (y :: ys) by simp [List.intercalate]]
        simp only [List.mem_append, List.mem_cons, not_or]
        exact ⟨hx x List.mem_cons_self, h44, h2⟩
  exact key t.Cols fun x hx => (GoodTx.of h).col x hx hc
theorem head_no {t : DTable} (h : s_GoodTable t = true) {c : UInt8} (hc : letter c = false) (h44 : c ≠ 44) (h40 : c ≠ 40) : c ∉ headW t := by
  unfold headW
  simp only [List.mem_append, List.mem_cons, not_or]
  exact ⟨(GoodTx.of h).name hc, h40, join_no h hc h44⟩
theorem cols_sp {t : DTable} (h : s_GoodTable t = true) : sp 44 (g_strings_Join t.Cols ([44] : Str)) = t.Cols :=
  sp_inter 44 t.Cols (by have := (GoodT.of h).cols; omega) fun x hx => (GoodTx.of h).col x hx (by decide)

theorem walkTo {α ρ T : Type} {body : Nat → List α → Out ρ (List α)} {fr : ρ → T} {fd : List α → T} (xs : List α) (hb : ∀ k, k < xs.length → body k (xs.take k) = .cont (xs.take (k + 1))) :
    loopE (loopM body (xs.length - 0) 0 []) fr fd = fd xs := by
  refine loopM_val (fun k s => s = xs.take k) (fun v => v = fd xs) rfl (fun s hs => by rw [hs, List.take_of_length_le (by omega)]) ?_
  intro j s _ hj hs
  rw [hs, hb j (by omega)]
theorem text_words {t : DTable} (h : s_GoodTable t = true) : s_l1Split (s_l24Text t) 32 = (headW t ++ [41]) :: t.Idxs.map (idxW t) := by
  rw [show s_l1Split (s_l24Text t) 32 = sp 32 (s_l24Text t) from l1Split_sp _ 32, l24Text_eq]
  rw [show headW t ++ 41 :: tailW (t.Idxs.map (idxW t)) = (headW t ++ [41]) ++ ((t.Idxs.map (idxW t)).map fun w => (32 : UInt8) :: w).flatten by rw [List.append_assoc]; rfl]
  refine sp_words _ ?_ (word_no h)
  rw [List.mem_append, not_or]
  exact ⟨head_no h (by decide) (by decide) (by decide), by decide⟩
theorem l24Read_word {t u : DTable} (h : s_GoodTable t = true) (hu : u.Cols = t.Cols) {k : Nat} (hk : k < t.Idxs.length) : s_l24Read u (idxW t (t.Idxs.getD k d_Idx)) = (t.Idxs.getD k d_Idx, true) := by
  have hg := gt_idx h hk
  have hw := word_sp h hk
  unfold s_l24Read
  rw [show s_l1Split (idxW t (t.Idxs.getD k d_Idx)) 47 = _ from (l1Split_sp _ 47).trans hw, hu]
  have hs : (t.Idxs.getD k d_Idx).Stage = 0 ∨ (t.Idxs.getD k d_Idx).Stage = 1 ∨ (t.Idxs.getD k d_Idx).Stage = 2 ∨ (t.Idxs.getD k d_Idx).Stage = 3 := by omega
  have hc : s_l24At t.Cols (t.Cols.getD (t.Idxs.getD k d_Idx).Col.toNat d_Str) = (t.Idxs.getD k d_Idx).Col := by
    rw [(at_col h (k := (t.Idxs.getD k d_Idx).Col.toNat) (by omega)).1]; omega
  generalize t.Idxs.getD k d_Idx = x at *
  obtain ⟨xn, xc, xs⟩ := x
  simp only at hs hc ⊢
  rcases hs with rfl | rfl | rfl | rfl
  all_goals
    simp only [List.length_cons, List.length_nil, List.getD_cons_zero, List.getD_cons_succ]
    rw [hc]
    rfl
theorem ReadTable_text {t : DTable} (h : s_GoodTable t = true) : s_ReadTable (s_l24Text t) = (t, true) := by
  have hw := text_words h
  have hT := GoodT.of h
  obtain ⟨n, hn⟩ : ∃ n, t.Name = [n] := by
    have := hT.name
    match hN : t.Name, this with
    | [n], _ => exact ⟨n, rfl⟩
  have hH : headW t ++ [41] = n :: 40 :: (g_strings_Join t.Cols ([44] : Str) ++ [41]) := by unfold headW; rw [hn]; rfl
  have hJ := join_cols h
  unfold s_ReadTable
  have e0 : (s_l1Split (s_l24Text t) 32).getD 0 d_Str = n :: 40 :: (g_strings_Join t.Cols ([44] : Str) ++ [41]) := by rw [hw, ← hH]; rfl
  have el : (n :: 40 :: (g_strings_Join t.Cols ([44] : Str) ++ [41])).length = (g_strings_Join t.Cols ([44] : Str)).length + 3 := by simp
  have ew : IntKind.wrap .i64 (((n :: 40 :: (g_strings_Join t.Cols ([44] : Str) ++ [41])).length : Int) - 1) = ((g_strings_Join t.Cols ([44] : Str)).length + 2 : Nat) := by
    rw [el, wrap_in (by omega)]; omega
  have e1 : ((n :: 40 :: (g_strings_Join t.Cols ([44] : Str) ++ [41])).take ((g_strings_Join t.Cols ([44] : Str)).length + 2)).drop 2 = g_strings_Join t.Cols ([44] : Str) := by
    rw [List.take_succ_cons, List.take_succ_cons, List.drop_succ_cons, List.drop_succ_cons, List.drop_zero, List.take_left']
    rfl
  have e2 : (n :: 40 :: (g_strings_Join t.Cols ([44] : Str) ++ [41])).getD ((g_strings_Join t.Cols ([44] : Str)).length + 2) 0 = 41 := by
    rw [List.getD_cons_succ, List.getD_cons_succ]
    simp [List.getD]
  have e3 : s_l1Split (g_strings_Join t.Cols ([44] : Str)) 44 = t.Cols := by rw [show s_l1Split (g_strings_Join t.Cols ([44] : Str)) 44 = sp 44 _ from l1Split_sp _ 44, cols_sp h]
  have e4 : (s_l1Split (s_l24Text t) 32).drop 1 = t.Idxs.map (idxW t) := by rw [hw]; rfl
  simp only [e0, ew, Int.toNat_natCast, e1, e2, e3, e4]
  rw [decide_eq_false (by rw [el]; omega), cond_false]
  rw [show (n :: 40 :: (g_strings_Join t.Cols ([44] : Str) ++ [41])).getD 1 0 = 40 from rfl, show decide (((40 : UInt8).toNat : Int) = 40) = true from rfl, show decide (((41 : UInt8).toNat : Int) = 41) = true from rfl, cond_true, cond_true]
  have ht : (n :: 40 :: (g_strings_Join t.Cols ([44] : Str) ++ [41])).take 1 = t.Name := by rw [hn]; rfl
  simp only [ht]
  rw [List.length_map]
  rw [walkTo t.Idxs fun k hk => by
    unfold B_s_ReadTable_0
    simp only [e0, ew, Int.toNat_natCast, e1, e3, e4, ht]
    have hk' : k < (t.Idxs.map (idxW t)).length := by rw [List.length_map]; exact hk
    have ek : (t.Idxs.map (idxW t)).getD k d_Str = idxW t (t.Idxs.getD k d_Idx) := by rw [getD_eq hk', List.getElem_map, getD_eq hk]
    rw [ek, l24Read_word (u := ⟨t.Name, t.Cols, t.Idxs.take k⟩) h rfl hk, List.take_succ_eq_append_getElem hk, ← getD_eq (d := d_Idx) hk]
    rfl]
  rw [show (⟨t.Name, t.Cols, t.Idxs⟩ : DTable) = t from rfl, h, cond_true, beq_self_eq_true, cond_true]

def noTable : DTable × Bool := (⟨[], [], []⟩, false)
theorem bif_out {σ ρ : Type} {c : Bool} {a : σ} {r : ρ} : (bif c then Out.cont a else Out.ret r) = Out.ret r ∨ ∃ y, (bif c then Out.cont a else (Out.ret r : Out ρ σ)) = Out.cont y := by
  cases c
  · exact .inl rfl
  · exact .inr ⟨a, rfl⟩
theorem sRead_cases (s : Str) : s_ReadTable s = noTable ∨ ∃ t, s_ReadTable s = (t, true) ∧ s_GoodTable t = true ∧ s_l24Text t = s := by
  unfold s_ReadTable
  cases decide ((((s_l1Split s 32).getD 0 d_Str).length : Int) < 3)
  case true => exact .inl rfl
  rw [cond_false]
  cases decide (((((s_l1Split s 32).getD 0 d_Str).getD 1 0).toNat : Int) = 40)
  case false => exact .inl rfl
  rw [cond_true]
  cases decide (((((s_l1Split s 32).getD 0 d_Str).getD (IntKind.wrap .i64 ((((s_l1Split s 32).getD 0 d_Str).length : Int) - 1)).toNat 0).toNat : Int) = 41)
  case false => exact .inl rfl
  rw [cond_true]
  refine loopM_val (fun _ _ => True) (fun v => v = noTable ∨ ∃ t, v = (t, true) ∧ s_GoodTable t = true ∧ s_l24Text t = s) trivial (fun x _ => ?_) fun j x _ _ _ => ?_
  · generalize (⟨((s_l1Split s 32).getD 0 d_Str).take 1, _, x⟩ : DTable) = t
    cases hg : s_GoodTable t
    · exact .inl rfl
    · cases hb : s_l24Text t == s
      · exact .inl rfl
      · exact .inr ⟨t, rfl, hg, by simpa using hb⟩
  · have hb : B_s_ReadTable_0 s j x = .ret noTable ∨ ∃ y, B_s_ReadTable_0 s j x = .cont y := bif_out
    rcases hb with hb | ⟨y, hb⟩ <;> rw [hb]
    · exact .inl rfl
    · trivial
theorem iRead_cases (s : Str) : i_ReadTable s = noTable ∨ ∃ t, i_ReadTable s = (t, true) ∧ s_GoodTable t = true ∧ s_l24Text t = s := by
  unfold i_ReadTable
  refine loopM_val (fun _ _ => True) (fun v => v = noTable ∨ ∃ t, v = (t, true) ∧ s_GoodTable t = true ∧ s_l24Text t = s) trivial (fun x _ => ?_) fun j x _ _ _ => ?_
  · obtain ⟨x1, x2⟩ := x
    dsimp only
    generalize (⟨(g_strings_Cut ((g_strings_Cut s ([41] : Str)).1) ([40] : Str)).1, _, x2⟩ : DTable) = t
    cases x1
    · exact .inl rfl
    · cases (g_strings_Cut ((g_strings_Cut s ([41] : Str)).1) ([40] : Str)).2.2
      · exact .inl rfl
      · rw [GoodTable_eq]
        cases hg : s_GoodTable t
        · exact .inl rfl
        · rw [tableText_eq hg]
          cases hb : s_l24Text t == s
          · exact .inl rfl
          · exact .inr ⟨t, rfl, hg, by simpa using hb⟩
  · obtain ⟨x1, x2⟩ := x
    unfold B_i_ReadTable_0
    dsimp only
    cases decide ((j : Int) = 0)
    · rw [cond_false]
      cases decide (((g_strings_Split ((g_strings_Split ((g_strings_Cut s ([41] : Str)).2.1) ([32] : Str)).getD j d_Str) ([47] : Str)).length : Int) = 3)
      · exact .inl rfl
      · cases x1 <;> trivial
    · trivial
theorem readInt_num {n : Int} (h : 0 ≤ n ∧ n ≤ 3) : i_readInt (s_l1Num n) 0 3 = (n, true) := by
  have : n = 0 ∨ n = 1 ∨ n = 2 ∨ n = 3 := by omega
  rcases this with rfl | rfl | rfl | rfl <;> rfl
theorem iRead_text {t : DTable} (h : s_GoodTable t = true) : i_ReadTable (s_l24Text t) = (t, true) := by
  have hx := GoodTx.of h
  have hT := GoodT.of h
  have hJ : (g_strings_Join t.Cols ([44] : Str)).length ≤ 100 := by
    have h1 := inter_len t.Cols (col_len h)
    have h2 := hT.cols
    unfold g_strings_Join; omega
  have hl : (headW t).length ≤ 1073741824 := by unfold headW; rw [List.length_append, List.length_cons, hT.name]; omega
  have hc1 : g_strings_Cut (s_l24Text t) ([41] : Str) = (headW t, tailW (t.Idxs.map (idxW t)), true) := by
    rw [l24Text_eq, Cut_some (head_no h (by decide) (by decide) (by decide)) hl]
  have hc2 : g_strings_Cut (headW t) ([40] : Str) = (t.Name, g_strings_Join t.Cols ([44] : Str), true) := by
    unfold headW; rw [Cut_some (hx.name (by decide)) (by rw [hT.name]; omega)]
  have hs1 : g_strings_Split (tailW (t.Idxs.map (idxW t))) ([32] : Str) = [] :: t.Idxs.map (idxW t) :=
    sp_words (h := []) (t.Idxs.map (idxW t)) (by simp) (word_no h)
  have hs2 : g_strings_Split (g_strings_Join t.Cols ([44] : Str)) ([44] : Str) = t.Cols := cols_sp h
  unfold i_ReadTable
  simp only [hc1, hc2, hs1, hs2]
  refine loopM_val (fun k s => s = (true, t.Idxs.take (k - 1))) (fun v => v = (t, true)) rfl ?_ ?_
  · intro s hs
    subst hs
    simp only
    rw [show 0 + (([] :: t.Idxs.map (idxW t) : List Str).length - 0) - 1 = t.Idxs.length by simp, List.take_length]
    rw [show (⟨t.Name, t.Cols, t.Idxs⟩ : DTable) = t from rfl, GoodTable_eq, h, cond_true, cond_true, cond_true, tableText_eq h, beq_self_eq_true, cond_true]
  · intro j s _ hj hs
    subst hs
    unfold B_i_ReadTable_0
    simp only [hc1, hc2, hs1, hs2]
    rcases j with _ | j
    · rfl
    · have hj' : j < t.Idxs.length := by simp at hj; omega
      have hg := gt_idx h hj'
      have hjm : j < (t.Idxs.map (idxW t)).length := by rw [List.length_map]; exact hj'
      have ek : ([] :: t.Idxs.map (idxW t) : List Str).getD (j + 1) d_Str = idxW t (t.Idxs.getD j d_Idx) := by rw [List.getD_cons_succ, getD_eq hjm, List.getElem_map, getD_eq hj']
      have hw : g_strings_Split (idxW t (t.Idxs.getD j d_Idx)) ([47] : Str) = _ := word_sp h hj'
      rw [decide_eq_false (by omega), cond_false, ek, hw]
      have hcol : g_slices_Index_string t.Cols (t.Cols.getD (t.Idxs.getD j d_Idx).Col.toNat d_Str) = (t.Idxs.getD j d_Idx).Col := by
        rw [(at_col h (k := (t.Idxs.getD j d_Idx).Col.toNat) (by omega)).2]; omega
      have hn := readInt_num (n := (t.Idxs.getD j d_Idx).Stage) (by omega)
      simp only [List.getD_cons_zero, List.getD_cons_succ, hn, hcol]
      show (true, t.Idxs.take (j + 1 - 1) ++ [t.Idxs.getD j d_Idx]) = (true, t.Idxs.take (j + 1 + 1 - 1))
      rw [Nat.add_sub_cancel, Nat.add_sub_cancel, List.take_succ_eq_append_getElem hj', getD_eq hj']
theorem ReadTable_eq (s : Str) : i_ReadTable s = s_ReadTable s := by
  rcases sRead_cases s with hs | ⟨t, hs, hg, ht⟩
  · rcases iRead_cases s with hi | ⟨u, hi, hg, hu⟩
    · rw [hs, hi]
    · have := ReadTable_text hg
      rw [hu, hs] at this
      exact absurd (congrArg Prod.snd this) Bool.false_ne_true
  · rw [hs, ← ht]; exact iRead_text hg
theorem ReadTable_cnt (s : Str) : (i_ReadTable s).1.Cols.length ≤ 4 ∧ (i_ReadTable s).1.Idxs.length ≤ 3 := by
  rcases iRead_cases s with hi | ⟨u, hi, hg, hu⟩
  · rw [hi]; exact ⟨Nat.zero_le _, Nat.zero_le _⟩
  · rw [hi]; exact ⟨(GoodT.of hg).cols.2, (GoodT.of hg).idxs⟩
theorem true_ReadTable (s : Str) (_ : wfS s) : l_FnExactReadTable s = true := by
  unfold l_FnExactReadTable
  cases h1 : decide (1048576 < (s.length : Int))
  case true => rfl
  have hc := ReadTable_cnt s
  obtain ⟨h4, h5⟩ := mh_Table (i_ReadTable s).1 1 (by decide) (by omega)
  simp only [cond_false, ← ReadTable_eq, eq_Table, beq_self_eq_true, cond_true, eta_markTable, h4, h5]
  rw [decide_eq_false (by omega), cond_false, decide_true]; rfl

end Go.Proofs.YtdknedcbonflgaaDoor
