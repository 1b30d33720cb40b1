/- Read Row: plain laws of the models. -/
import Derived.Test.YtdbobbmagmcpnaaDoorReadRowT
set_option linter.unusedVariables false
set_option linter.unusedSimpArgs false
namespace Go.Proofs.YtdbobbmagmcpnaaDoor
open Go.RowKit Go.X
theorem szok_Idx {x : DIdx} {L : Int} (hw : wf_Idx x) (hL : 0 ≤ L ∧ L ≤ 1048576) (h : ¬ l_szIdx x L < 0) : ok_Idx x ∧ 0 ≤ l_szIdx x L ∧ l_szIdx x L ≤ 1048576 := by
  unfold l_szIdx at h ⊢
  obtain ⟨a0, e0, h⟩ := szc h
  rw [e0]
  have s0 := szS_ok hw.1 hL a0
  exact ⟨s0.1, s0.2⟩
theorem to_Idx (x : DIdx) : l_toIdx x = x := rfl
theorem eq_Idx (x : DIdx) : l_eqIdx x x = true := by unfold l_eqIdx; simp only [beq_self_eq_true, cond_true, decide_true]
theorem sze_StringS (x : List Str) (L : Int) : l_szStringS x L = szLL (fun s L => IntKind.wrap .i64 (L - (s.length : Int))) d_Str x L := by
  unfold l_szStringS szLL szL
  have : B_l_szStringS_0 x L = fun k y => bif decide (IntKind.wrap .i64 (y - ((x.getD k d_Str).length : Int)) < 0) then .ret (-1) else .cont (IntKind.wrap .i64 (y - ((x.getD k d_Str).length : Int))) := by
    funext k y; rfl
  rw [this]
theorem szok_StringS {x : List Str} {L : Int} (hw : (wfL wfS) x) (hL : 0 ≤ L ∧ L ≤ 1048576) (h : ¬ l_szStringS x L < 0) : (okL okS) x ∧ 0 ≤ l_szStringS x L ∧ l_szStringS x L ≤ 1048576 := by
  rw [sze_StringS] at h ⊢
  exact szLL_ok d_Str szS_ok hw hL h
theorem to_StringS (x : List Str) : l_toStringS x = x := toL_id d_Str (f := fun s => s) (fun _ => rfl) x
theorem eq_StringS (x : List Str) : l_eqStringS x x = true := eqL_refl d_Str (f := fun a b => a == b) (fun _ => beq_self_eq_true _) x
theorem szok_IdxS {x : List DIdx} {L : Int} (hw : (wfL wf_Idx) x) (hL : 0 ≤ L ∧ L ≤ 1048576) (h : ¬ l_szIdxS x L < 0) : (okL ok_Idx) x ∧ 0 ≤ l_szIdxS x L ∧ l_szIdxS x L ≤ 1048576 := szLL_ok d_Idx (f := l_szIdx) szok_Idx hw hL h
theorem to_IdxS (x : List DIdx) : l_toIdxS x = x := toL_id d_Idx (f := fun s => s) (fun _ => rfl) x
theorem eq_IdxS (x : List DIdx) : l_eqIdxS x x = true := eqL_refl d_Idx (f := l_eqIdx) eq_Idx x
theorem szok_Table {x : DTable} {L : Int} (hw : wf_Table x) (hL : 0 ≤ L ∧ L ≤ 1048576) (h : ¬ l_szTable x L < 0) : ok_Table x ∧ 0 ≤ l_szTable x L ∧ l_szTable x L ≤ 1048576 := by
  unfold l_szTable at h ⊢
  obtain ⟨a0, e0, h⟩ := szc h
  rw [e0]
  have s0 := szS_ok hw.1 hL a0
  obtain ⟨a1, e1, h⟩ := szc h
  rw [e1]
  have s1 := szok_StringS hw.2.1 s0.2 a1
  obtain ⟨a2, e2, h⟩ := szc h
  rw [e2]
  have s2 := szok_IdxS hw.2.2 s1.2 a2
  exact ⟨⟨s0.1, s1.1, s2.1⟩, s2.2⟩
theorem to_Table (x : DTable) : l_toTable x = x := rfl
theorem eq_Table (x : DTable) : l_eqTable x x = true := by unfold l_eqTable; simp only [eq_StringS, eq_IdxS, beq_self_eq_true, cond_true, decide_true]
theorem szok_Write {x : DWrite} {L : Int} (hw : wf_Write x) (hL : 0 ≤ L ∧ L ≤ 1048576) (h : ¬ l_szWrite x L < 0) : ok_Write x ∧ 0 ≤ l_szWrite x L ∧ l_szWrite x L ≤ 1048576 := by
  unfold l_szWrite at h ⊢
  obtain ⟨a0, e0, h⟩ := szc h
  rw [e0]
  have s0 := szS_ok hw.1 hL a0
  obtain ⟨a1, e1, h⟩ := szc h
  rw [e1]
  have s1 := szS_ok hw.2 s0.2 a1
  exact ⟨⟨s0.1, s1.1⟩, s1.2⟩
theorem to_Write (x : DWrite) : l_toWrite x = x := rfl
theorem eq_Row (x : DRow) : l_eqRow x x = true := by unfold l_eqRow; simp only [eq_StringS, beq_self_eq_true, cond_true, decide_true]
def mk_String (_ : Str) (k : Int) : Int × Str := (IntKind.wrap .i64 (k + 1), l_markText k)
theorem mkc_String (x : Str) (k : Int) (h0 : 0 ≤ k) (h1 : k + ((1 : Nat) : Int) ≤ 4611686018427387904) : (mk_String x k).1 = k + ((1 : Nat) : Int) := by
  unfold mk_String
  simp only [IntKind.wrap_i64]; omega
theorem mark_StringS (a : List Str) (k : Int) : l_markStringS a k = mkL mk_String a k := by
  unfold l_markStringS
  exact markE (d := d_Str) (mk := mk_String) (fun i k xs hi => by unfold B_l_markStringS_0; simp only [List.set_set, getD_set_self hi, mk_String]) a k
theorem held_StringS (a : List Str) (k : Int) (h0 : 0 ≤ k) (h1 : k + (cntL (fun _ => 1) a : Int) ≤ 4611686018427387904) : l_heldStringS (l_markStringS a k).2 k = (l_markStringS a k).1 := by
  rw [mark_StringS]
  unfold l_heldStringS
  exact heldE (d := d_Str) (mk := mk_String) (c := fun _ => 1) a k mkc_String (fun i k x hx _ _ => by unfold B_l_heldStringS_0; simp only [hx, mk_String, eq_self, decide_true, beq_self_eq_true, cond_true]) h0 h1
theorem mh_StringS (a : List Str) (k : Int) (h0 : 0 ≤ k) (h1 : k + (((1 : Nat) * a.length : Nat) : Int) ≤ 4611686018427387904) : l_heldStringS (l_markStringS a k).2 k = (l_markStringS a k).1 ∧ (l_markStringS a k).1 = k + (((1 : Nat) * a.length : Nat) : Int) ∧ (l_markStringS a k).2.length = a.length := by
  rw [← cntL_const] at h1 ⊢
  refine ⟨held_StringS a k h0 h1, ?_, ?_⟩
  · rw [mark_StringS]; exact mkL_cnt mkc_String a k h0 h1
  · rw [mark_StringS]; exact mkL_length _ _ _
theorem rf_markStringS (a : List Str) (k : Int) (h : k ≤ 9223372036854775807) : (l_markStringS a k).1 ≤ 9223372036854775807 := by
  unfold l_markStringS
  refine loopM_val (fun _ (s : Int × List Str) => s.1 ≤ 9223372036854775807) (fun (v : Int × List Str) => v.1 ≤ 9223372036854775807) h (fun s hs => hs) ?_
  rintro j ⟨k, x⟩ _ _ hk
  exact wrap_le _
theorem rf_heldStringS (a : List Str) (k : Int) (h : k ≤ 9223372036854775807) : l_heldStringS a k ≤ 9223372036854775807 := by
  unfold l_heldStringS
  refine loopM_val (fun _ (s : Int) => s ≤ 9223372036854775807) (fun v => v ≤ 9223372036854775807) h (fun s hs => hs) ?_
  intro j k' _ _ hk
  unfold B_l_heldStringS_0
  dsimp only
  cases ((a.getD j d_Str) == l_markText k') <;> first | exact wrap_le _ | exact neg1_le
theorem mh_Row (a : DRow) (k : Int) (h0 : 0 ≤ k) (h1 : k + ((1 * a.Vals.length : Nat) : Int) ≤ 4611686018427387904) : l_heldRow (l_markRow a k).2 k = (l_markRow a k).1 ∧ (l_markRow a k).1 = k + ((1 * a.Vals.length : Nat) : Int) := by
  obtain ⟨e0, n0, _⟩ := mh_StringS a.Vals k (by omega) (by omega)
  have q1 : l_heldRow (l_markRow a k).2 k = k + ((1 * a.Vals.length : Nat) : Int) := by unfold l_heldRow l_markRow; simp only [e0, n0, decide_eq_false (show ¬ k + ((1 * a.Vals.length : Nat) : Int) < 0 by omega), cond_false]
  have q2 : (l_markRow a k).1 = k + ((1 * a.Vals.length : Nat) : Int) := by unfold l_markRow; simp only [n0]
  exact ⟨q1.trans q2.symm, q2.trans (by omega)⟩
theorem eta_markRow (r : DRow) (k : Int) : (⟨(l_markRow r k).2.Vals⟩ : DRow) = (l_markRow r k).2 := rfl
theorem rf_markRow (a : DRow) (k : Int) (h : k ≤ 9223372036854775807) : (l_markRow a k).1 ≤ 9223372036854775807 := by
  unfold l_markRow
  exact (rf_markStringS _ _ h)
theorem rf_heldRow (a : DRow) (k : Int) (h : k ≤ 9223372036854775807) : l_heldRow a k ≤ 9223372036854775807 := by
  unfold l_heldRow
  cases decide (l_heldStringS a.Vals k < 0) <;> first | exact neg1_le | exact (rf_heldStringS _ _ h)
theorem ContainsFunc_string (xs : List Str) (f : Str → Bool) : g_slices_ContainsFunc_string xs f = xs.any f := idxF_any f d_Str xs
theorem Contains_string (xs : List Str) (y : Str) : g_slices_Contains_string xs y = xs.any (fun x => y == x) := idxF_any _ d_Str xs
def mk_Idx (_ : DIdx) (k : Int) : Int × DIdx := (IntKind.wrap .i64 ((IntKind.wrap .i64 ((IntKind.wrap .i64 (k + 1)) + 1)) + 1), ⟨l_markText k, IntKind.wrap .i64 (k + 1), IntKind.wrap .i64 ((IntKind.wrap .i64 (k + 1)) + 1)⟩)
theorem mkc_Idx (x : DIdx) (k : Int) (h0 : 0 ≤ k) (h1 : k + ((3 : Nat) : Int) ≤ 4611686018427387904) : (mk_Idx x k).1 = k + ((3 : Nat) : Int) := by
  unfold mk_Idx
  simp only [IntKind.wrap_i64]; omega
theorem mark_IdxS (a : List DIdx) (k : Int) : l_markIdxS a k = mkL mk_Idx a k := by
  unfold l_markIdxS
  exact markE (d := d_Idx) (mk := mk_Idx) (fun i k xs hi => by unfold B_l_markIdxS_0; simp only [List.set_set, getD_set_self hi, mk_Idx]) a k
theorem held_IdxS (a : List DIdx) (k : Int) (h0 : 0 ≤ k) (h1 : k + (cntL (fun _ => 3) a : Int) ≤ 4611686018427387904) : l_heldIdxS (l_markIdxS a k).2 k = (l_markIdxS a k).1 := by
  rw [mark_IdxS]
  unfold l_heldIdxS
  exact heldE (d := d_Idx) (mk := mk_Idx) (c := fun _ => 3) a k mkc_Idx (fun i k x hx _ _ => by unfold B_l_heldIdxS_0; simp only [hx, mk_Idx, eq_self, decide_true, beq_self_eq_true, cond_true]) h0 h1
theorem mh_IdxS (a : List DIdx) (k : Int) (h0 : 0 ≤ k) (h1 : k + (((3 : Nat) * a.length : Nat) : Int) ≤ 4611686018427387904) : l_heldIdxS (l_markIdxS a k).2 k = (l_markIdxS a k).1 ∧ (l_markIdxS a k).1 = k + (((3 : Nat) * a.length : Nat) : Int) ∧ (l_markIdxS a k).2.length = a.length := by
  rw [← cntL_const] at h1 ⊢
  refine ⟨held_IdxS a k h0 h1, ?_, ?_⟩
  · rw [mark_IdxS]; exact mkL_cnt mkc_Idx a k h0 h1
  · rw [mark_IdxS]; exact mkL_length _ _ _
theorem rf_markIdxS (a : List DIdx) (k : Int) (h : k ≤ 9223372036854775807) : (l_markIdxS a k).1 ≤ 9223372036854775807 := by
  unfold l_markIdxS
  refine loopM_val (fun _ (s : Int × List DIdx) => s.1 ≤ 9223372036854775807) (fun (v : Int × List DIdx) => v.1 ≤ 9223372036854775807) h (fun s hs => hs) ?_
  rintro j ⟨k, x⟩ _ _ hk
  exact wrap_le _
theorem mh_Table (a : DTable) (k : Int) (h0 : 0 ≤ k) (h1 : k + ((1 * a.Cols.length + 3 * a.Idxs.length : Nat) : Int) ≤ 4611686018427387904) : l_heldTable (l_markTable a k).2 k = (l_markTable a k).1 ∧ (l_markTable a k).1 = k + ((1 * a.Cols.length + 3 * a.Idxs.length : Nat) : Int) := by
  obtain ⟨e0, n0, _⟩ := mh_StringS a.Cols k (by omega) (by omega)
  obtain ⟨e1, n1, _⟩ := mh_IdxS a.Idxs (k + ((1 * a.Cols.length : Nat) : Int)) (by omega) (by omega)
  have q1 : l_heldTable (l_markTable a k).2 k = (k + ((1 * a.Cols.length : Nat) : Int)) + ((3 * a.Idxs.length : Nat) : Int) := by unfold l_heldTable l_markTable; simp only [e0, n0, e1, n1, decide_eq_false (show ¬ k + ((1 * a.Cols.length : Nat) : Int) < 0 by omega), decide_eq_false (show ¬ (k + ((1 * a.Cols.length : Nat) : Int)) + ((3 * a.Idxs.length : Nat) : Int) < 0 by omega), cond_false]
  have q2 : (l_markTable a k).1 = (k + ((1 * a.Cols.length : Nat) : Int)) + ((3 * a.Idxs.length : Nat) : Int) := by unfold l_markTable; simp only [n0, n1]
  exact ⟨q1.trans q2.symm, q2.trans (by omega)⟩
theorem rf_markTable (a : DTable) (k : Int) (h : k ≤ 9223372036854775807) : (l_markTable a k).1 ≤ 9223372036854775807 := by
  unfold l_markTable
  exact (rf_markIdxS _ _ (rf_markStringS _ _ h))
theorem within_eq : i_within = s_l1In := rfl
theorem f_l1In {n lo hi : Int} (h : s_l1In n lo hi = true) : lo ≤ n ∧ n ≤ hi := by
  unfold s_l1In at h
  obtain ⟨h1, h2⟩ := of_cond_f h
  exact ⟨of_decide_eq_true h1, of_decide_eq_true h2⟩
theorem f_within {n lo hi : Int} (h : i_within n lo hi = true) : lo ≤ n ∧ n ≤ hi := f_l1In h
theorem indexByte_neg (l : List UInt8) (c : UInt8) : decide (Lib.indexByte l c < 0) = !(l.contains c) := by
  induction l with
  | nil => rfl
  | cons b l ih =>
    have hge := Lib.indexByte_ge l c
    rw [Bool.eq_iff_iff] at ih ⊢
    simp only [decide_eq_true_eq, Bool.not_eq_true', List.contains_cons] at ih ⊢
    unfold Lib.indexByte
    by_cases hb : b = c
    · subst hb; simp
    · have hb1 : (b == c) = false := by simpa using hb
      have hb2 : (c == b) = false := by simpa using fun h => hb h.symm
      rw [hb1, hb2]
      simp only [Bool.false_or, Bool.false_eq_true, if_false]
      split
      · rename_i h
        have : Lib.indexByte l c = -1 := by simpa using h
        rw [← ih]; omega
      · rename_i h
        have : Lib.indexByte l c ≠ -1 := by simpa using h
        constructor
        · intro h; omega
        · intro h; have := ih.2 h; omega
theorem byte_back (b : UInt8) : ((b.toNat : Int)).toNat.toUInt8 = b := by simp
theorem idxB_neg (s : Str) (b : UInt8) : decide (idxB s (b.toNat : Int) < 0) = !(s.contains b) := by
  unfold idxB
  rw [byte_back, indexByte_neg]
def byteOk (more : Str) (b : UInt8) : Bool := i_isLowerOrDigit (b.toNat : Int) || more.contains b
theorem hasBytes_eq (s more : Str) : i_hasBytes s more = s.all (byteOk more) := by
  unfold i_hasBytes
  rw [allE (0 : UInt8) (byteOk more) (r := false) fun k => by
    unfold B_i_hasBytes_0 byteOk g_strings_IndexByte g_internal_stringslite_IndexByte
    rw [idxB_neg]
    cases i_isLowerOrDigit ((s.getD k 0).toNat : Int) <;> cases more.contains (s.getD k 0) <;> rfl]
  cases s.all (byteOk more) <;> rfl
theorem toNat_eq (a b : UInt8) : decide ((a.toNat : Int) = (b.toNat : Int)) = (a == b) := by
  rw [Bool.eq_iff_iff, decide_eq_true_iff, beq_iff_eq]
  constructor
  · intro h; exact UInt8.toNat.inj (by omega)
  · intro h; rw [h]
theorem l3B1 {T : Type} (s more : Str) (k : Nat) (x0 : Bool) (fr : Bool → T) (fd : Bool → T) : loopE (loopM (B_s_l3Bytes_1 s more k) (more.length - 0) 0 x0) fr fd = fd (x0 || more.contains (s.getD k 0)) := by
  rw [orE (0 : UInt8) (fun b => (s.getD k 0) == b) fun j x => by
    unfold B_s_l3Bytes_1
    rw [toNat_eq]
    cases x <;> rfl]
  rw [List.contains_eq_any_beq]
theorem l3Bytes_eq (s more : Str) : s_l3Bytes s more = s.all (byteOk more) := by
  unfold s_l3Bytes
  rw [allE (0 : UInt8) (byteOk more) (r := false) fun k => by
    unfold B_s_l3Bytes_0 byteOk i_isLowerOrDigit
    simp only [l3B1]
    cases decide (97 ≤ ((s.getD k 0).toNat : Int)) <;> cases decide (((s.getD k 0).toNat : Int) ≤ 122) <;> cases decide (48 ≤ ((s.getD k 0).toNat : Int)) <;> cases decide (((s.getD k 0).toNat : Int) ≤ 57) <;> cases more.contains (s.getD k 0) <;> rfl]
  cases s.all (byteOk more) <;> rfl
theorem letters_eq : i_areLetters = s_l24Letters := by
  funext s m
  unfold i_areLetters s_l24Letters
  rfl
theorem isField_eq (s : Str) : i_isField s = s_l25Field s := by
  unfold i_isField s_l25Field
  rw [hasBytes_eq, l3Bytes_eq, within_eq]
theorem l25Good_eq (t : DTable) (r : DRow) : s_l25Good t r = (r.Vals.all s_l25Field && decide ((r.Vals.length : Int) = (t.Cols.length : Int))) := by
  unfold s_l25Good
  rw [allE d_Str s_l25Field (r := false) fun k => rfl]
  cases r.Vals.all s_l25Field <;> rfl
theorem isRow_eq (t : DTable) (r : DRow) : i_Table_isRow t r = s_l25Good t r := by
  rw [l25Good_eq]
  unfold i_Table_isRow
  rw [ContainsFunc_string, List.not_any_eq_all_not]
  unfold i_Table_isRow_c1
  simp only [Bool.not_not, isField_eq]
  cases decide ((r.Vals.length : Int) = (t.Cols.length : Int)) <;> cases (r.Vals.all fun x => s_l25Field x) <;> rfl
theorem l24At_neg (l : List Str) (s : Str) : decide (0 ≤ s_l24At l s) = l.any fun x => x == s := by
  have : s_l24At l s = idxF (fun x => x == s) d_Str l := rfl
  rw [this, idxF_any]
def colOk (l : List Str) (k : Nat) : Bool := s_l24Letters (l.getD k d_Str) 3 && !((l.take k).any fun x => x == l.getD k d_Str)
theorem l24Cols_eq (l : List Str) : s_l24Cols l = ((List.range l.length).all (colOk l) && s_l1In (l.length : Int) 2 4) := by
  unfold s_l24Cols
  rw [loopU (colOk l) (r := false) fun k _ => by
    unfold B_s_l24Cols_0 colOk
    rw [l24At_neg]
    cases s_l24Letters (l.getD k d_Str) 3 <;> cases ((l.take k).any fun x => x == l.getD k d_Str) <;> rfl]
  cases (List.range l.length).all (colOk l) <;> rfl
theorem GoodTable_eq (t : DTable) : i_GoodTable t = s_GoodTable t := by
  unfold i_GoodTable s_GoodTable
  rw [l24Cols_eq, letters_eq, within_eq]
  rw [loopU (colOk t.Cols) (r := false) fun k _ => by
    unfold B_i_GoodTable_0 colOk
    rw [Contains_string, letters_eq]
    rw [show ((t.Cols.take k).any fun x => t.Cols.getD k d_Str == x) = ((t.Cols.take k).any fun x => x == t.Cols.getD k d_Str) by congr 1; funext x; rw [Bool.beq_comm]]
    cases s_l24Letters (t.Cols.getD k d_Str) 3 <;> cases ((t.Cols.take k).any fun x => x == t.Cols.getD k d_Str) <;> rfl]
  have hb : B_i_GoodTable_1 t = B_s_GoodTable_0 t := by
    funext k u
    unfold B_i_GoodTable_1 B_s_GoodTable_0 i_isStage
    rw [letters_eq, within_eq, sLe_not]
    cases s_l24Letters ((t.Idxs.getD k d_Idx).Name) 1 <;> cases s_l1In ((t.Idxs.getD k d_Idx).Col) 1 (IntKind.wrap .i64 ((t.Cols.length : Int) - 1)) <;> cases s_l1In ((t.Idxs.getD k d_Idx).Stage) 0 3 <;> cases decide (0 < (k : Int)) <;> cases sLt ((t.Idxs.getD ((IntKind.wrap .i64 ((k : Int) - 1)).toNat) d_Idx).Name) ((t.Idxs.getD k d_Idx).Name) <;> rfl
  rw [hb]
  cases s_l24Letters t.Name 1 <;> cases s_l1In (t.Cols.length : Int) 2 4 <;> cases decide (3 < (t.Idxs.length : Int)) <;> cases (List.range t.Cols.length).all (colOk t.Cols) <;> rfl
theorem f_s_GoodTable {t : DTable} (h : s_GoodTable t = true) : 2 ≤ (t.Cols.length : Int) ∧ (t.Cols.length : Int) ≤ 4 ∧ (t.Idxs.length : Int) ≤ 3 := by
  unfold s_GoodTable at h
  obtain ⟨_, h⟩ := of_cond_f h
  obtain ⟨h1, h⟩ := of_cond_f h
  rw [l24Cols_eq, Bool.and_eq_true] at h1
  have h2 := f_l1In h1.2
  refine ⟨h2.1, h2.2, ?_⟩
  cases h3 : decide (3 < (t.Idxs.length : Int))
  · have := of_decide_eq_false h3; omega
  · rw [h3] at h; cases h
theorem f_i_GoodTable {t : DTable} (h : i_GoodTable t = true) : 2 ≤ (t.Cols.length : Int) ∧ (t.Cols.length : Int) ≤ 4 ∧ (t.Idxs.length : Int) ≤ 3 := f_s_GoodTable (GoodTable_eq t ▸ h)
theorem f_s_l25Good' {t : DTable} {r : DRow} (h : s_l25Good t r = true) : r.Vals.length = t.Cols.length := by
  rw [l25Good_eq, Bool.and_eq_true] at h
  have := of_decide_eq_true h.2
  omega
def idxOk (t : DTable) (k : Nat) : Bool := s_l24Letters (t.Idxs.getD k d_Idx).Name 1 && s_l1In (t.Idxs.getD k d_Idx).Col 1 (IntKind.wrap .i64 ((t.Cols.length : Int) - 1)) && s_l1In (t.Idxs.getD k d_Idx).Stage 0 3 && bif decide (0 < (k : Int)) then sLt (t.Idxs.getD ((IntKind.wrap .i64 ((k : Int) - 1)).toNat) d_Idx).Name (t.Idxs.getD k d_Idx).Name else true
theorem s_GoodTable_eq (t : DTable) : s_GoodTable t = (s_l24Letters t.Name 1 && s_l24Cols t.Cols && decide (t.Idxs.length ≤ 3) && (List.range t.Idxs.length).all (idxOk t)) := by
  unfold s_GoodTable
  rw [loopU (idxOk t) (r := false) fun k _ => by
    unfold B_s_GoodTable_0 idxOk
    cases s_l24Letters (t.Idxs.getD k d_Idx).Name 1 <;> cases s_l1In (t.Idxs.getD k d_Idx).Col 1 (IntKind.wrap .i64 ((t.Cols.length : Int) - 1)) <;> cases s_l1In (t.Idxs.getD k d_Idx).Stage 0 3 <;> cases decide (0 < (k : Int)) <;> cases sLt (t.Idxs.getD ((IntKind.wrap .i64 ((k : Int) - 1)).toNat) d_Idx).Name (t.Idxs.getD k d_Idx).Name <;> rfl]
  have e : decide (t.Idxs.length ≤ 3) = !decide (3 < (t.Idxs.length : Int)) := by
    by_cases h : t.Idxs.length ≤ 3
    · rw [decide_eq_true h, decide_eq_false (by omega)]; rfl
    · rw [decide_eq_false h, decide_eq_true (by omega)]; rfl
  rw [e]
  cases s_l24Letters t.Name 1 <;> cases s_l24Cols t.Cols <;> cases decide (3 < (t.Idxs.length : Int)) <;> cases (List.range t.Idxs.length).all (idxOk t) <;> rfl
def letter (b : UInt8) : Bool := !decide ((b.toNat : Int) < 97) && !decide (122 < (b.toNat : Int))
theorem l24Letters_eq (s : Str) (m : Int) : s_l24Letters s m = (s.all letter && decide (1 ≤ (s.length : Int)) && decide ((s.length : Int) ≤ m)) := by
  unfold s_l24Letters
  rw [allE (0 : UInt8) letter (r := false) fun k => by
    unfold B_s_l24Letters_0 letter
    cases decide (((s.getD k 0).toNat : Int) < 97) <;> cases decide (122 < ((s.getD k 0).toNat : Int)) <;> rfl]
  cases s.all letter <;> cases decide (1 ≤ (s.length : Int)) <;> rfl
theorem letters_len {s : Str} {m : Int} (h : s_l24Letters s m = true) : 1 ≤ (s.length : Int) ∧ (s.length : Int) ≤ m := by
  rw [l24Letters_eq] at h
  simp only [Bool.and_eq_true, decide_eq_true_eq] at h
  exact ⟨h.1.2, h.2⟩
structure GoodT (t : DTable) : Prop where
  name : t.Name.length = 1
  cols : 2 ≤ t.Cols.length ∧ t.Cols.length ≤ 4
  idxs : t.Idxs.length ≤ 3
  idx : ∀ k, k < t.Idxs.length → (t.Idxs.getD k d_Idx).Name.length = 1 ∧ 1 ≤ (t.Idxs.getD k d_Idx).Col ∧ (t.Idxs.getD k d_Idx).Col < (t.Cols.length : Int) ∧ 0 ≤ (t.Idxs.getD k d_Idx).Stage ∧ (t.Idxs.getD k d_Idx).Stage ≤ 3
  rise : ∀ k, k + 1 < t.Idxs.length → (t.Idxs.getD k d_Idx).Name < (t.Idxs.getD (k + 1) d_Idx).Name
theorem GoodT.of {t : DTable} (h : s_GoodTable t = true) : GoodT t := by
  have hf := f_s_GoodTable h
  rw [s_GoodTable_eq] at h
  simp only [Bool.and_eq_true, decide_eq_true_eq, List.all_eq_true, List.mem_range] at h
  obtain ⟨⟨⟨h1, h2⟩, h3⟩, h4⟩ := h
  have h5 : ∀ k, k < t.Idxs.length → _ := fun k hk => h4 k hk
  unfold idxOk at h5
  simp only [Bool.and_eq_true] at h5
  refine ⟨by have := letters_len h1; omega, by omega, h3, fun k hk => ?_, fun k hk => ?_⟩
  · obtain ⟨⟨⟨a, b⟩, c⟩, d⟩ := h5 k hk
    have a := letters_len a
    have b := f_l1In b
    have c := f_l1In c
    rw [wrap_in (by omega)] at b
    omega
  · have d := (h5 (k + 1) hk).2
    rw [wrap_in (by omega), decide_eq_true (show 0 < ((k + 1 : Nat) : Int) by omega)] at d
    have e : (((k + 1 : Nat) : Int) - 1).toNat = k := by omega
    rw [e] at d
    exact (sLt_iff _ _).1 d
def rowShort (r : DRow) : Prop := ∀ v ∈ r.Vals, v.length ≤ 3
theorem rowShort.getD {r : DRow} (h : rowShort r) (k : Nat) : (r.Vals.getD k d_Str).length ≤ 3 := by
  rcases Nat.lt_or_ge k r.Vals.length with hk | hk
  · exact h _ (getD_mem hk)
  · rw [List.getD_eq_getElem?_getD, List.getElem?_eq_none hk]; exact Nat.zero_le _
theorem field_len {s : Str} (h : s_l25Field s = true) : 1 ≤ (s.length : Int) ∧ (s.length : Int) ≤ 3 := by
  unfold s_l25Field at h
  exact f_l1In (of_cond_f h).1
theorem f_s_l25Good {t : DTable} {r : DRow} (h : s_l25Good t r = true) : r.Vals.length = t.Cols.length ∧ rowShort r := by
  refine ⟨f_s_l25Good' h, fun v hv => ?_⟩
  rw [l25Good_eq, Bool.and_eq_true] at h
  have := field_len (List.all_eq_true.1 h.1 v hv)
  omega
theorem f_i_isRow {t : DTable} {r : DRow} (h : i_Table_isRow t r = true) : r.Vals.length = t.Cols.length ∧ rowShort r := f_s_l25Good (isRow_eq t r ▸ h)
theorem szTable_len {t : DTable} (hw : wf_Table t) (h : ¬ l_szTable t 1048576 < 0) : t.Cols.length ≤ 2147483648 ∧ t.Idxs.length ≤ 2147483648 := by
  have := (szok_Table hw (by decide) h).1
  exact ⟨this.2.1.1, this.2.2.1⟩
theorem Index_one (s : Str) (c : UInt8) : g_internal_stringslite_Index s [c] = Lib.indexByte s c := by
  unfold g_internal_stringslite_Index g_internal_stringslite_IndexByte idxB
  have h : ((([c] : Str).getD 0 0).toNat : Int).toNat.toUInt8 = c := by simp
  rw [h]
  cases hc : ([c] : Str) == s
  · rfl
  · have : s = [c] := (eq_of_beq hc).symm
    subst this
    simp [Lib.indexByte]
theorem rf_Index {s sub : Str} (h : sub.length = 1) : -1 ≤ g_internal_stringslite_Index s sub ∧ g_internal_stringslite_Index s sub ≤ (s.length : Int) - 1 := by
  match sub, h with
  | [c], _ =>
    rw [Index_one]
    rcases indexByte_split c s with ⟨_, h2⟩ | ⟨a, r, h1, _, h3⟩
    · rw [h2]; omega
    · rw [h3, h1]; simp only [List.length_append, List.length_cons]; omega
theorem f_HasPrefix {s p : Str} (h : g_internal_stringslite_HasPrefix s p = true) : p.length ≤ s.length := by
  unfold g_internal_stringslite_HasPrefix at h
  have := of_decide_eq_true (of_cond_f h).1
  omega
theorem l1Split_sp (s : Str) (b : UInt8) : s_l1Split s (b.toNat : Int) = sp b s := by
  unfold s_l1Split
  refine loopM_val (fun k (p : List Str × Int) => 0 ≤ p.2 ∧ p.2.toNat ≤ k ∧ b ∉ (s.take k).drop p.2.toNat ∧ p.1 ++ sp b (s.drop p.2.toNat) = sp b s) (fun (v : List Str) => v = sp b s) ⟨by omega, by simp, by simp, by simp⟩ ?_ ?_
  · rintro ⟨x, a⟩ ⟨h1, h2, h3, h4⟩
    dsimp only at h1 h2 h3 h4 ⊢
    rw [show s.take (0 + (s.length - 0)) = s from by rw [List.take_of_length_le (by omega)]] at h3
    rw [sp_none h3] at h4
    exact h4
  · rintro j ⟨x, a⟩ _ hj ⟨h1, h2, h3, h4⟩
    have hj' : j < s.length := by omega
    unfold B_s_l1Split_0
    dsimp only at h1 h2 h3 h4 ⊢
    have ht : (s.take (j + 1)).drop a.toNat = (s.take j).drop a.toNat ++ [s.getD j 0] := by
      rw [getD_eq hj', List.take_succ_eq_append_getElem hj', List.drop_append_of_le_length (by rw [List.length_take]; omega)]
    have hd : s.drop a.toNat = (s.take j).drop a.toNat ++ s.getD j 0 :: s.drop (j + 1) := by
      conv => lhs; rw [← List.take_append_drop j s]
      rw [List.drop_append_of_le_length (by rw [List.length_take]; omega), getD_eq hj', List.drop_eq_getElem_cons hj']
    rw [toNat_eq]
    cases hc : s.getD j 0 == b
    · refine ⟨h1, by omega, ?_, h4⟩
      rw [ht]
      intro hm
      rcases List.mem_append.1 hm with hm | hm
      · exact h3 hm
      · rw [← List.mem_singleton.1 hm] at hc; simp at hc
    · have hb : s.getD j 0 = b := eq_of_beq hc
      refine ⟨by omega, by simp, by simp, ?_⟩
      rw [hd, hb, sp_some h3] at h4
      rw [← h4, List.append_assoc]
      show x ++ ([_] ++ sp b (s.drop _)) = _
      rw [show (((j + 1 : Nat) : Int)).toNat = j + 1 from by simp]
      rfl
theorem CutPrefix_iff (k p : Str) : (g_strings_CutPrefix k p).2 = p.isPrefixOf k ∧ ((g_strings_CutPrefix k p).2 = true → (g_strings_CutPrefix k p).1 = k.drop p.length) := by
  have h : g_internal_stringslite_HasPrefix k p = p.isPrefixOf k := by
    unfold g_internal_stringslite_HasPrefix
    by_cases hp : p <+: k
    · obtain ⟨r, rfl⟩ := hp
      rw [decide_eq_true (by rw [List.length_append]; omega), cond_true, List.take_left]
      simp
    · rw [show p.isPrefixOf k = false from by rw [Bool.eq_false_iff]; intro e; exact hp (List.isPrefixOf_iff_prefix.1 e)]
      cases hd : decide ((p.length : Int) ≤ (k.length : Int))
      · rfl
      · rw [cond_true, beq_eq_false_iff_ne]
        intro e
        exact hp (e ▸ List.take_prefix ..)
  unfold g_strings_CutPrefix g_internal_stringslite_CutPrefix
  rw [h]
  cases p.isPrefixOf k <;> simp
theorem inter_cons (sep x y : Str) (zs : List Str) : sep.intercalate (x :: y :: zs) = x ++ (sep ++ sep.intercalate (y :: zs)) := by
  simp [List.intercalate, List.intersperse]
theorem inter_one (sep x : Str) : sep.intercalate [x] = x := by simp [List.intercalate]
theorem inter_concat (sep x : Str) : ∀ xs : List Str, 0 < xs.length → sep.intercalate (xs ++ [x]) = (sep.intercalate xs ++ sep) ++ x
  | [], h => by simp at h
  | [y], _ => by show sep.intercalate (y :: x :: []) = _; rw [inter_cons, inter_one, inter_one, List.append_assoc]
  | y :: z :: zs, _ => by
    show sep.intercalate (y :: z :: (zs ++ [x])) = _
    rw [inter_cons, show z :: (zs ++ [x]) = (z :: zs) ++ [x] from rfl, inter_concat sep x (z :: zs) (Nat.succ_pos _), inter_cons]
    simp only [List.append_assoc]
theorem inter_len : ∀ xs : List Str, (∀ x ∈ xs, x.length ≤ 3) → (([44] : Str).intercalate xs).length ≤ 4 * xs.length
  | [], _ => Nat.zero_le _
  | [x], h => by have := h x (by simp); rw [inter_one, List.length_singleton]; omega
  | x :: y :: zs, h => by
    have h1 := h x (by simp)
    have h2 := inter_len (y :: zs) fun z hz => h z (List.mem_cons_of_mem _ hz)
    rw [inter_cons, List.length_append, List.length_append, List.length_cons (as := y :: zs)]
    simp only [List.length_cons, List.length_nil] at h2 ⊢
    omega
theorem join_drop {r : DRow} (h : r.Vals.length ≤ 4) (hr : rowShort r) : (g_strings_Join (r.Vals.drop 1) ([44] : Str)).length ≤ 1073741824 := by
  have := inter_len (r.Vals.drop 1) fun x hx => hr x (List.mem_of_mem_drop hx)
  rw [List.length_drop] at this
  unfold g_strings_Join; omega
theorem Join_eq (xs : List Str) (sep : Str) : s_l24Join xs sep = g_strings_Join xs sep := by
  unfold s_l24Join g_strings_Join
  refine loopM_val (fun k (s : Str) => s = sep.intercalate (xs.take k)) (fun (v : Str) => v = sep.intercalate xs) rfl (fun s h => by rw [h, List.take_of_length_le (by omega)]) ?_
  intro j s _ hj hs
  have hj' : j < xs.length := by omega
  unfold B_s_l24Join_0
  dsimp only
  rw [List.take_succ_eq_append_getElem hj', getD_eq hj']
  by_cases h0 : 0 < j
  · rw [decide_eq_true (by omega), hs, inter_concat _ _ _ (by rw [List.length_take]; omega)]; rfl
  · have : j = 0 := by omega
    subst this
    rw [decide_eq_false (by omega), hs]
    show [] ++ _ = _
    simp [List.intercalate]
theorem rowWrite_eq (t : DTable) (r : DRow) : i_Table_rowWrite t r = s_l25Write t r := by
  unfold i_Table_rowWrite s_l25Write
  rw [Join_eq]
theorem f_i_isStage {s : Int} (h : i_isStage s = true) : 0 ≤ s ∧ s ≤ 3 := f_within h
theorem okL_l1Split {s : Str} (h : okS s) {b : Int} : okL okS (s_l1Split s b) := by
  have h' : s.length ≤ 1073741824 := h
  unfold s_l1Split
  refine loopM_val (fun k (p : List Str × Int) => p.1.length ≤ k ∧ ∀ y ∈ p.1, okS y) (fun (v : List Str) => okL okS v) ⟨Nat.zero_le _, fun _ h => by cases h⟩ ?_ ?_
  · rintro ⟨x, a⟩ ⟨h1, h2⟩
    dsimp only at h1 h2 ⊢
    refine ⟨by rw [List.length_append, List.length_singleton]; omega, fun y hy => ?_⟩
    rcases List.mem_append.1 hy with hy | hy
    · exact h2 y hy
    · rw [List.mem_singleton.1 hy]; exact okS.drop h _
  · rintro j ⟨x, a⟩ _ hj ⟨h1, h2⟩
    dsimp only at h1 h2
    unfold B_s_l1Split_0
    dsimp only
    cases decide (((s.getD j 0).toNat : Int) = b)
    · exact ⟨Nat.le_succ_of_le h1, h2⟩
    · refine ⟨by rw [List.length_append, List.length_singleton]; omega, fun y hy => ?_⟩
      rcases List.mem_append.1 hy with hy | hy
      · exact h2 y hy
      · rw [List.mem_singleton.1 hy]; exact okS.drop (okS.take h _) _
theorem rf_l1Split (s : Str) (b : Int) : 1 ≤ (s_l1Split s b).length ∧ (s_l1Split s b).length ≤ s.length + 1 := by
  unfold s_l1Split
  refine loopM_val (fun k (p : List Str × Int) => p.1.length ≤ k) (fun (v : List Str) => 1 ≤ v.length ∧ v.length ≤ s.length + 1) (Nat.zero_le _) ?_ ?_
  · rintro ⟨x, a⟩ h1
    dsimp only at h1 ⊢
    rw [List.length_append, List.length_singleton]; omega
  · rintro j ⟨x, a⟩ _ hj h1
    dsimp only at h1
    unfold B_s_l1Split_0
    dsimp only
    cases decide (((s.getD j 0).toNat : Int) = b)
    · exact Nat.le_succ_of_le h1
    · show (x ++ _).length ≤ _
      rw [List.length_append, List.length_singleton]; omega
theorem rf_Split (s sep : Str) : 1 ≤ (g_strings_Split s sep).length ∧ (g_strings_Split s sep).length ≤ s.length + 1 := ⟨sp_ne _ _, sp_length _ _⟩
theorem comma_split (s : Str) : s_l1Split s 44 = sp 44 s := l1Split_sp s 44
theorem gt_name {t : DTable} (h : s_GoodTable t = true) : t.Name.length ≤ 1 := Nat.le_of_eq (GoodT.of h).name
theorem okS_nm {t : DTable} (h : t.Name.length ≤ 1) : okS (t.Name ++ ([47] : Str)) := by unfold okS; rw [List.length_append]; show t.Name.length + 1 ≤ _; omega

theorem good_one {t : DTable} {r : DRow} (h : s_l25Good t r = true) {v : Str} (hv : v ∈ r.Vals) : 1 ≤ v.length ∧ v.length ≤ 3 := by
  rw [l25Good_eq, Bool.and_eq_true] at h
  have := field_len (List.all_eq_true.1 h.1 v hv)
  omega
def rowIn (w : DWrite) : DRow := ⟨[w.Key.drop 2] ++ s_l1Split w.Val 44⟩
theorem Split_comma (s : Str) : g_strings_Split s ([44] : Str) = s_l1Split s 44 := (comma_split s).symm
theorem drop_pre {p s k : Str} (h : s = p ++ k) : p.isPrefixOf s = true := by subst h; simp
theorem l25Read_eq (t : DTable) (w : DWrite) : s_l25Read t w = bif decide ((w.Key.length : Int) < 3) then (⟨[]⟩, false) else (rowIn w, s_l25Good t (rowIn w) && (((t.Name ++ ([47] : Str)) ++ w.Key.drop 2 == w.Key) && (((s_l25Write t (rowIn w)).Val == w.Val) && (false == w.Gone)))) := by
  unfold s_l25Read
  cases decide ((w.Key.length : Int) < 3)
  · show (bif s_l25Good t (rowIn w) then _ else _) = _
    cases s_l25Good t (rowIn w) <;> rfl
  · rfl
theorem read_row {t : DTable} (hg : s_GoodTable t = true) (w : DWrite) : i_Table_readRow t w = bif (s_l25Read t w).2 then ((s_l25Read t w).1, true) else (⟨[]⟩, false) := by
  have hn := (GoodT.of hg).name
  have hpl : (t.Name ++ ([47] : Str)).length = 2 := by rw [List.length_append, hn]; rfl
  obtain ⟨c1, c2⟩ := CutPrefix_iff w.Key (t.Name ++ ([47] : Str))
  rw [hpl] at c2
  rw [l25Read_eq]
  unfold i_Table_readRow
  rw [c1]
  cases hp : (t.Name ++ ([47] : Str)).isPrefixOf w.Key
  · rw [cond_false]
    have hne : ((t.Name ++ ([47] : Str)) ++ w.Key.drop 2 == w.Key) = false := by
      cases hh : ((t.Name ++ ([47] : Str)) ++ w.Key.drop 2 == w.Key)
      · rfl
      · rw [drop_pre (eq_of_beq hh).symm] at hp; cases hp
    cases decide ((w.Key.length : Int) < 3)
    · rw [cond_false, hne, Bool.false_and, Bool.and_false]; rfl
    · rfl
  · rw [c1] at c2
    rw [cond_true, c2 hp, Split_comma]
    show (bif i_Table_isRow t (rowIn w) then _ else _) = _
    rw [isRow_eq]
    cases hgd : s_l25Good t (rowIn w)
    · cases decide ((w.Key.length : Int) < 3) <;> rfl
    · have h1 := good_one hgd (v := w.Key.drop 2) (List.mem_cons_self ..)
      rw [List.length_drop] at h1
      rw [decide_eq_false (by omega), cond_false, cond_true, Bool.true_and, rowWrite_eq]
      show (bif (w.Key == (t.Name ++ ([47] : Str)) ++ w.Key.drop 2) && ((w.Val == (s_l25Write t (rowIn w)).Val) && (w.Gone == false)) then _ else _) = _
      rw [BEq.comm (a := w.Key), BEq.comm (a := w.Val), BEq.comm (a := w.Gone)]
      rfl
theorem ReadRow_eq (t : DTable) (w : DWrite) : i_ReadRow t w = s_ReadRow t w := by
  unfold i_ReadRow s_ReadRow
  rw [GoodTable_eq]
  cases hg : s_GoodTable t
  · cases (s_l25Read t w).2 <;> rfl
  · rw [cond_true, cond_true, read_row hg]
theorem read_len {t : DTable} {w : DWrite} (h : okS w.Val) : (s_l25Read t w).1.Vals.length ≤ 1073741826 := by
  rw [l25Read_eq]
  cases decide ((w.Key.length : Int) < 3)
  · show (([w.Key.drop 2] : List Str) ++ s_l1Split w.Val 44).length ≤ _
    have := (rf_l1Split w.Val 44).2
    have h : w.Val.length ≤ 1073741824 := h
    rw [List.length_append, List.length_singleton]; omega
  · exact Nat.zero_le _
theorem true_ReadRow (t : DTable) (w : DWrite) (hw : wf_Table t) (hw2 : wf_Write w) : l_FnExactReadRow t w = true := by
  unfold l_FnExactReadRow
  cases h1 : decide (l_szTable t 1048576 < 0)
  case true => rfl
  cases h2 : decide (l_szWrite w (l_szTable t 1048576) < 0)
  case true => rfl
  have hl := szTable_len hw (of_decide_eq_false h1)
  have hz := szok_Table hw (by decide) (of_decide_eq_false h1)
  have ho := (szok_Write hw2 hz.2 (of_decide_eq_false h2)).1.2
  have hc : (i_ReadRow t w).1.Vals.length ≤ 1073741826 := by
    rw [ReadRow_eq]
    unfold s_ReadRow
    cases (s_l25Read t w).2
    · exact Nat.zero_le _
    · cases s_GoodTable t
      · exact Nat.zero_le _
      · exact read_len ho
  obtain ⟨_, h3⟩ := mh_Table t 1 (by decide) (by omega)
  obtain ⟨h4, h5⟩ := mh_Row (i_ReadRow t w).1 1 (by decide) (by omega)
  simp only [cond_false, eta_markRow, ← ReadRow_eq, eq_Table, eq_Row, beq_self_eq_true, cond_true, h4]
  rw [h3, decide_eq_false (by omega), cond_false, h5, decide_eq_false (by omega), cond_false, decide_true]; rfl
end Go.Proofs.YtdbobbmagmcpnaaDoor
