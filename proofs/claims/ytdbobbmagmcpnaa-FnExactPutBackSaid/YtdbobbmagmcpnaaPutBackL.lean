/- Put Back: plain laws of the models. -/
import Derived.Test.YtdbobbmagmcpnaaPutBackT
set_option linter.unusedVariables false
set_option linter.unusedSimpArgs false
namespace Go.Proofs.Ytdbobbmagmcpnaa
open Go.RowKit Go.X
theorem szok_Write {x : DWrite} {L : Int} (hw : wf_Write x) (hL : 0 ≤ L ∧ L ≤ 1048576) (h : ¬ l_szWrite x L < 0) : ok_Write x ∧ 0 ≤ l_szWrite x L ∧ l_szWrite x L ≤ 1048576 := by
  unfold l_szWrite at h ⊢
  obtain ⟨a0, e0, h⟩ := szc h
  rw [e0]
  have s0 := szS_ok hw.1 hL a0
  obtain ⟨a1, e1, h⟩ := szc h
  rw [e1]
  have s1 := szS_ok hw.2 s0.2 a1
  exact ⟨⟨s0.1, s1.1⟩, s1.2⟩
theorem to_Write (x : DWrite) : l_toWrite x = x := rfl
theorem eq_Write (x : DWrite) : l_eqWrite x x = true := by unfold l_eqWrite; simp only [beq_self_eq_true, cond_true, decide_true]
theorem szok_WriteS {x : List DWrite} {L : Int} (hw : (wfL wf_Write) x) (hL : 0 ≤ L ∧ L ≤ 1048576) (h : ¬ l_szWriteS x L < 0) : (okL ok_Write) x ∧ 0 ≤ l_szWriteS x L ∧ l_szWriteS x L ≤ 1048576 := szLL_ok d_Write (f := l_szWrite) szok_Write hw hL h
theorem to_WriteS (x : List DWrite) : l_toWriteS x = x := toL_id d_Write (f := fun s => s) (fun _ => rfl) x
theorem eq_WriteS (x : List DWrite) : l_eqWriteS x x = true := eqL_refl d_Write (f := l_eqWrite) eq_Write x
theorem szok_Copy {x : DCopy} {L : Int} (hw : wf_Copy x) (hL : 0 ≤ L ∧ L ≤ 1048576) (h : ¬ l_szCopy x L < 0) : ok_Copy x ∧ 0 ≤ l_szCopy x L ∧ l_szCopy x L ≤ 1048576 := by
  unfold l_szCopy at h ⊢
  obtain ⟨a0, e0, h⟩ := szc h
  rw [e0]
  have s0 := szok_WriteS hw.2 hL a0
  exact ⟨s0.1, s0.2⟩
theorem to_Copy (x : DCopy) : l_toCopy x = x := rfl
theorem eq_Copy (x : DCopy) : l_eqCopy x x = true := by unfold l_eqCopy; simp only [eq_WriteS, beq_self_eq_true, cond_true, decide_true]
theorem eq_Ver (x : DVer) : l_eqVer x x = true := by unfold l_eqVer; simp only [beq_self_eq_true, cond_true, decide_true]
theorem eq_VerS (x : List DVer) : l_eqVerS x x = true := eqL_refl d_Ver (f := l_eqVer) eq_Ver x
theorem eq_Cell (x : DCell) : l_eqCell x x = true := by unfold l_eqCell; simp only [eq_VerS, beq_self_eq_true, cond_true, decide_true]
theorem eq_CellS (x : List DCell) : l_eqCellS x x = true := eqL_refl d_Cell (f := l_eqCell) eq_Cell x
def mk_Ver (_ : DVer) (k : Int) : Int × DVer := (IntKind.wrap .i64 ((IntKind.wrap .i64 ((IntKind.wrap .i64 (k + 1)) + 1)) + 1), ⟨k, l_markText (IntKind.wrap .i64 (k + 1)), decide (Int.tmod (IntKind.wrap .i64 ((IntKind.wrap .i64 (k + 1)) + 1)) 3 = 0)⟩)
theorem mkc_Ver (x : DVer) (k : Int) (h0 : 0 ≤ k) (h1 : k + ((3 : Nat) : Int) ≤ 4611686018427387904) : (mk_Ver x k).1 = k + ((3 : Nat) : Int) := by
  unfold mk_Ver
  simp only [IntKind.wrap_i64]; omega
theorem mark_VerS (a : List DVer) (k : Int) : l_markVerS a k = mkL mk_Ver a k := by
  unfold l_markVerS
  exact markE (d := d_Ver) (mk := mk_Ver) (fun i k xs hi => by unfold B_l_markVerS_0; simp only [List.set_set, getD_set_self hi, mk_Ver]) a k
theorem held_VerS (a : List DVer) (k : Int) (h0 : 0 ≤ k) (h1 : k + (cntL (fun _ => 3) a : Int) ≤ 4611686018427387904) : l_heldVerS (l_markVerS a k).2 k = (l_markVerS a k).1 := by
  rw [mark_VerS]
  unfold l_heldVerS
  exact heldE (d := d_Ver) (mk := mk_Ver) (c := fun _ => 3) a k mkc_Ver (fun i k x hx _ _ => by unfold B_l_heldVerS_0; simp only [hx, mk_Ver, eq_self, decide_true, beq_self_eq_true, cond_true]) h0 h1
theorem mh_VerS (a : List DVer) (k : Int) (h0 : 0 ≤ k) (h1 : k + (((3 : Nat) * a.length : Nat) : Int) ≤ 4611686018427387904) : l_heldVerS (l_markVerS a k).2 k = (l_markVerS a k).1 ∧ (l_markVerS a k).1 = k + (((3 : Nat) * a.length : Nat) : Int) ∧ (l_markVerS a k).2.length = a.length := by
  rw [← cntL_const] at h1 ⊢
  refine ⟨held_VerS a k h0 h1, ?_, ?_⟩
  · rw [mark_VerS]; exact mkL_cnt mkc_Ver a k h0 h1
  · rw [mark_VerS]; exact mkL_length _ _ _
theorem rf_markVerS (a : List DVer) (k : Int) (h : k ≤ 9223372036854775807) : (l_markVerS a k).1 ≤ 9223372036854775807 := by
  unfold l_markVerS
  refine loopM_val (fun _ (s : Int × List DVer) => s.1 ≤ 9223372036854775807) (fun (v : Int × List DVer) => v.1 ≤ 9223372036854775807) h (fun s hs => hs) ?_
  rintro j ⟨k, x⟩ _ _ hk
  exact wrap_le _
theorem rf_heldVerS (a : List DVer) (k : Int) (h : k ≤ 9223372036854775807) : l_heldVerS a k ≤ 9223372036854775807 := by
  unfold l_heldVerS
  refine loopM_val (fun _ (s : Int) => s ≤ 9223372036854775807) (fun v => v ≤ 9223372036854775807) h (fun s hs => hs) ?_
  intro j k' _ _ hk
  unfold B_l_heldVerS_0
  dsimp only
  cases decide (((a.getD j d_Ver).Time) = k') <;> cases (((a.getD j d_Ver).Val) == l_markText (IntKind.wrap .i64 (k' + 1))) <;> cases (((a.getD j d_Ver).Gone) == decide (Int.tmod (IntKind.wrap .i64 ((IntKind.wrap .i64 (k' + 1)) + 1)) 3 = 0)) <;> first | exact wrap_le _ | exact neg1_le
def c_Cell (x : DCell) : Nat := 1 + 3 * x.Vers.length
def mk_Cell (x : DCell) (k : Int) : Int × DCell := ((l_markVerS x.Vers (IntKind.wrap .i64 (k + 1))).1, ⟨l_markText k, (l_markVerS x.Vers (IntKind.wrap .i64 (k + 1))).2⟩)
theorem mkc_Cell (x : DCell) (k : Int) (h0 : 0 ≤ k) (h1 : k + ((c_Cell x : Nat) : Int) ≤ 4611686018427387904) : (mk_Cell x k).1 = k + ((c_Cell x : Nat) : Int) := by
  unfold c_Cell at h1 ⊢
  have n0 : IntKind.wrap .i64 (k + 1) = k + 1 := by simp only [IntKind.wrap_i64]; omega
  obtain ⟨e1, n1, _⟩ := mh_VerS x.Vers (k + 1) (by omega) (by omega)
  unfold mk_Cell
  simp only [n0, n1] <;> omega
theorem mark_CellS (a : List DCell) (k : Int) : l_markCellS a k = mkL mk_Cell a k := by
  unfold l_markCellS
  exact markE (d := d_Cell) (mk := mk_Cell) (fun i k xs hi => by unfold B_l_markCellS_0; simp only [List.set_set, getD_set_self hi, mk_Cell]) a k
theorem held_CellS (a : List DCell) (k : Int) (h0 : 0 ≤ k) (h1 : k + (cntL c_Cell a : Int) ≤ 4611686018427387904) : l_heldCellS (l_markCellS a k).2 k = (l_markCellS a k).1 := by
  rw [mark_CellS]
  unfold l_heldCellS
  refine heldE (d := d_Cell) (mk := mk_Cell) (c := c_Cell) a k mkc_Cell (fun i k x hx h0 h1 => ?_) h0 h1
  unfold c_Cell at h1
  have n0 : IntKind.wrap .i64 (k + 1) = k + 1 := by simp only [IntKind.wrap_i64]; omega
  obtain ⟨e1, n1, _⟩ := mh_VerS x.Vers (k + 1) (by omega) (by omega)
  unfold B_l_heldCellS_0
  simp only [hx, mk_Cell]
  simp only [n0, n1, e1, decide_eq_false (show ¬ (k + 1) + ((3 * x.Vers.length : Nat) : Int) < 0 by omega), eq_self, decide_true, beq_self_eq_true, cond_true, cond_false]
theorem mh_CellS (a : List DCell) (k : Int) (h0 : 0 ≤ k) (h1 : k + ((cntL c_Cell a : Nat) : Int) ≤ 4611686018427387904) : l_heldCellS (l_markCellS a k).2 k = (l_markCellS a k).1 ∧ (l_markCellS a k).1 = k + ((cntL c_Cell a : Nat) : Int) ∧ (l_markCellS a k).2.length = a.length := by
  refine ⟨held_CellS a k h0 h1, ?_, ?_⟩
  · rw [mark_CellS]; exact mkL_cnt mkc_Cell a k h0 h1
  · rw [mark_CellS]; exact mkL_length _ _ _
theorem rf_markCellS (a : List DCell) (k : Int) (h : k ≤ 9223372036854775807) : (l_markCellS a k).1 ≤ 9223372036854775807 := by
  unfold l_markCellS
  refine loopM_val (fun _ (s : Int × List DCell) => s.1 ≤ 9223372036854775807) (fun (v : Int × List DCell) => v.1 ≤ 9223372036854775807) h (fun s hs => hs) ?_
  rintro j ⟨k, x⟩ _ _ hk
  exact (rf_markVerS _ _ (wrap_le _))
theorem rf_heldCellS (a : List DCell) (k : Int) (h : k ≤ 9223372036854775807) : l_heldCellS a k ≤ 9223372036854775807 := by
  unfold l_heldCellS
  refine loopM_val (fun _ (s : Int) => s ≤ 9223372036854775807) (fun v => v ≤ 9223372036854775807) h (fun s hs => hs) ?_
  intro j k' _ _ hk
  unfold B_l_heldCellS_0
  dsimp only
  cases (((a.getD j d_Cell).Key) == l_markText k') <;> cases decide ((l_heldVerS ((a.getD j d_Cell).Vers) (IntKind.wrap .i64 (k' + 1))) < 0) <;> first | exact neg1_le | exact (rf_heldVerS _ _ (wrap_le _))
theorem ContainsFunc_Write (xs : List DWrite) (f : DWrite → Bool) : g_slices_ContainsFunc_Write xs f = xs.any f := idxF_any f d_Write xs
def mk_Write (_ : DWrite) (k : Int) : Int × DWrite := (IntKind.wrap .i64 ((IntKind.wrap .i64 ((IntKind.wrap .i64 (k + 1)) + 1)) + 1), ⟨l_markText k, l_markText (IntKind.wrap .i64 (k + 1)), decide (Int.tmod (IntKind.wrap .i64 ((IntKind.wrap .i64 (k + 1)) + 1)) 3 = 0)⟩)
theorem mkc_Write (x : DWrite) (k : Int) (h0 : 0 ≤ k) (h1 : k + ((3 : Nat) : Int) ≤ 4611686018427387904) : (mk_Write x k).1 = k + ((3 : Nat) : Int) := by
  unfold mk_Write
  simp only [IntKind.wrap_i64]; omega
theorem mark_WriteS (a : List DWrite) (k : Int) : l_markWriteS a k = mkL mk_Write a k := by
  unfold l_markWriteS
  exact markE (d := d_Write) (mk := mk_Write) (fun i k xs hi => by unfold B_l_markWriteS_0; simp only [List.set_set, getD_set_self hi, mk_Write]) a k
theorem held_WriteS (a : List DWrite) (k : Int) (h0 : 0 ≤ k) (h1 : k + (cntL (fun _ => 3) a : Int) ≤ 4611686018427387904) : l_heldWriteS (l_markWriteS a k).2 k = (l_markWriteS a k).1 := by
  rw [mark_WriteS]
  unfold l_heldWriteS
  exact heldE (d := d_Write) (mk := mk_Write) (c := fun _ => 3) a k mkc_Write (fun i k x hx _ _ => by unfold B_l_heldWriteS_0; simp only [hx, mk_Write, eq_self, decide_true, beq_self_eq_true, cond_true]) h0 h1
theorem mh_WriteS (a : List DWrite) (k : Int) (h0 : 0 ≤ k) (h1 : k + (((3 : Nat) * a.length : Nat) : Int) ≤ 4611686018427387904) : l_heldWriteS (l_markWriteS a k).2 k = (l_markWriteS a k).1 ∧ (l_markWriteS a k).1 = k + (((3 : Nat) * a.length : Nat) : Int) ∧ (l_markWriteS a k).2.length = a.length := by
  rw [← cntL_const] at h1 ⊢
  refine ⟨held_WriteS a k h0 h1, ?_, ?_⟩
  · rw [mark_WriteS]; exact mkL_cnt mkc_Write a k h0 h1
  · rw [mark_WriteS]; exact mkL_length _ _ _
theorem rf_markWriteS (a : List DWrite) (k : Int) (h : k ≤ 9223372036854775807) : (l_markWriteS a k).1 ≤ 9223372036854775807 := by
  unfold l_markWriteS
  refine loopM_val (fun _ (s : Int × List DWrite) => s.1 ≤ 9223372036854775807) (fun (v : Int × List DWrite) => v.1 ≤ 9223372036854775807) h (fun s hs => hs) ?_
  rintro j ⟨k, x⟩ _ _ hk
  exact wrap_le _
theorem mh_Copy (a : DCopy) (k : Int) (h0 : 0 ≤ k) (h1 : k + ((3 * a.Rows.length : Nat) : Int) ≤ 4611686018427387904) : l_heldCopy (l_markCopy a k).2 k = (l_markCopy a k).1 ∧ (l_markCopy a k).1 = k + ((3 * a.Rows.length : Nat) : Int) := by
  obtain ⟨e0, n0, _⟩ := mh_WriteS a.Rows k (by omega) (by omega)
  have q1 : l_heldCopy (l_markCopy a k).2 k = k + ((3 * a.Rows.length : Nat) : Int) := by unfold l_heldCopy l_markCopy; simp only [e0, n0, decide_eq_false (show ¬ k + ((3 * a.Rows.length : Nat) : Int) < 0 by omega), cond_false]
  have q2 : (l_markCopy a k).1 = k + ((3 * a.Rows.length : Nat) : Int) := by unfold l_markCopy; simp only [n0]
  exact ⟨q1.trans q2.symm, q2.trans (by omega)⟩
theorem rf_markCopy (a : DCopy) (k : Int) (h : k ≤ 9223372036854775807) : (l_markCopy a k).1 ≤ 9223372036854775807 := by
  unfold l_markCopy
  exact (rf_markWriteS _ _ h)
theorem within_eq : i_within = s_l1In := rfl
theorem f_l1In {n lo hi : Int} (h : s_l1In n lo hi = true) : lo ≤ n ∧ n ≤ hi := by
  unfold s_l1In at h
  obtain ⟨h1, h2⟩ := of_cond_f h
  exact ⟨of_decide_eq_true h1, of_decide_eq_true h2⟩
theorem f_within {n lo hi : Int} (h : i_within n lo hi = true) : lo ≤ n ∧ n ≤ hi := f_l1In h
theorem indexByte_neg (l : List UInt8) (c : UInt8) : decide (Lib.indexByte l c < 0) = !(l.contains c) := by
  induction l with
  | nil => rfl
  | cons b l ih =>
    have hge := Lib.indexByte_ge l c
    rw [Bool.eq_iff_iff] at ih ⊢
    simp only [decide_eq_true_eq, Bool.not_eq_true', List.contains_cons] at ih ⊢
    unfold Lib.indexByte
    by_cases hb : b = c
    · subst hb; simp
    · have hb1 : (b == c) = false := by simpa using hb
      have hb2 : (c == b) = false := by simpa using fun h => hb h.symm
      rw [hb1, hb2]
      simp only [Bool.false_or, Bool.false_eq_true, if_false]
      split
      · rename_i h
        have : Lib.indexByte l c = -1 := by simpa using h
        rw [← ih]; omega
      · rename_i h
        have : Lib.indexByte l c ≠ -1 := by simpa using h
        constructor
        · intro h; omega
        · intro h; have := ih.2 h; omega
theorem byte_back (b : UInt8) : ((b.toNat : Int)).toNat.toUInt8 = b := by simp
theorem idxB_neg (s : Str) (b : UInt8) : decide (idxB s (b.toNat : Int) < 0) = !(s.contains b) := by
  unfold idxB
  rw [byte_back, indexByte_neg]
def byteOk (more : Str) (b : UInt8) : Bool := i_isLowerOrDigit (b.toNat : Int) || more.contains b
theorem hasBytes_eq (s more : Str) : i_hasBytes s more = s.all (byteOk more) := by
  unfold i_hasBytes
  rw [allE (0 : UInt8) (byteOk more) (r := false) fun k => by
    unfold B_i_hasBytes_0 byteOk g_strings_IndexByte g_internal_stringslite_IndexByte
    rw [idxB_neg]
    cases i_isLowerOrDigit ((s.getD k 0).toNat : Int) <;> cases more.contains (s.getD k 0) <;> rfl]
  cases s.all (byteOk more) <;> rfl
theorem toNat_eq (a b : UInt8) : decide ((a.toNat : Int) = (b.toNat : Int)) = (a == b) := by
  rw [Bool.eq_iff_iff, decide_eq_true_iff, beq_iff_eq]
  constructor
  · intro h; exact UInt8.toNat.inj (by omega)
  · intro h; rw [h]
theorem l3B1 {T : Type} (s more : Str) (k : Nat) (x0 : Bool) (fr : Bool → T) (fd : Bool → T) : loopE (loopM (B_s_l3Bytes_1 s more k) (more.length - 0) 0 x0) fr fd = fd (x0 || more.contains (s.getD k 0)) := by
  rw [orE (0 : UInt8) (fun b => (s.getD k 0) == b) fun j x => by
    unfold B_s_l3Bytes_1
    rw [toNat_eq]
    cases x <;> rfl]
  rw [List.contains_eq_any_beq]
theorem l3Bytes_eq (s more : Str) : s_l3Bytes s more = s.all (byteOk more) := by
  unfold s_l3Bytes
  rw [allE (0 : UInt8) (byteOk more) (r := false) fun k => by
    unfold B_s_l3Bytes_0 byteOk i_isLowerOrDigit
    simp only [l3B1]
    cases decide (97 ≤ ((s.getD k 0).toNat : Int)) <;> cases decide (((s.getD k 0).toNat : Int) ≤ 122) <;> cases decide (48 ≤ ((s.getD k 0).toNat : Int)) <;> cases decide (((s.getD k 0).toNat : Int) ≤ 57) <;> cases more.contains (s.getD k 0) <;> rfl]
  cases s.all (byteOk more) <;> rfl
theorem GoodKey_eq (s : Str) : i_GoodKey s = s_l3Key s := by
  unfold i_GoodKey s_l3Key
  rw [hasBytes_eq, l3Bytes_eq, within_eq]
theorem GoodVal_eq (s : Str) : i_GoodVal s = s_l3Val s := by
  unfold i_GoodVal s_l3Val
  rw [hasBytes_eq, l3Bytes_eq]

theorem writeKeys_eq (l : List DWrite) : i_writeKeys l = l.map (·.Key) := by
  unfold i_writeKeys
  rw [mapE (body := B_i_writeKeys_0 l) (xs := l) d_Write (fun w => w.Key) fun k x _ => rfl]
  rfl
def rising (ks : List Str) (k : Nat) : Bool := bif decide (0 < (k : Int)) then sLt (ks.getD ((IntKind.wrap .i64 ((k : Int) - 1)).toNat) d_Str) (ks.getD k d_Str) else true
theorem areRising_eq (ks : List Str) : i_areRising ks = (List.range ks.length).all fun k => s_l3Key (ks.getD k d_Str) && rising ks k := by
  unfold i_areRising
  rw [loopU (fun k => s_l3Key (ks.getD k d_Str) && rising ks k) (r := false) fun k _ => by
    unfold B_i_areRising_0 rising
    rw [GoodKey_eq, sLe_not]
    cases s_l3Key (ks.getD k d_Str) <;> cases decide (0 < (k : Int)) <;> cases sLt (ks.getD ((IntKind.wrap .i64 ((k : Int) - 1)).toNat) d_Str) (ks.getD k d_Str) <;> rfl]
  cases (List.range ks.length).all fun k => s_l3Key (ks.getD k d_Str) && rising ks k <;> rfl
theorem l3Writes_eq (l : List DWrite) : s_l3Writes l = (((List.range l.length).all fun k => s_l3Write ((l.getD k d_Write).Key) ((l.getD k d_Write).Val) ((l.getD k d_Write).Gone) && rising (l.map (·.Key)) k) && decide ((l.length : Int) ≤ 24)) := by
  have hg : ∀ k, (l.map (·.Key)).getD k d_Str = (l.getD k d_Write).Key := by
    intro k
    simp only [List.getD_eq_getElem?_getD, List.getElem?_map]
    cases l[k]? <;> rfl
  unfold s_l3Writes
  rw [loopU (fun k => s_l3Write ((l.getD k d_Write).Key) ((l.getD k d_Write).Val) ((l.getD k d_Write).Gone) && rising (l.map (·.Key)) k) (r := false) fun k _ => by
    unfold B_s_l3Writes_0 rising
    rw [hg, hg]
    cases s_l3Write ((l.getD k d_Write).Key) ((l.getD k d_Write).Val) ((l.getD k d_Write).Gone) <;> cases decide (0 < (k : Int)) <;> cases sLt (l.getD ((IntKind.wrap .i64 ((k : Int) - 1)).toNat) d_Write).Key (l.getD k d_Write).Key <;> rfl]
  cases ((List.range l.length).all fun k => s_l3Write ((l.getD k d_Write).Key) ((l.getD k d_Write).Val) ((l.getD k d_Write).Gone) && rising (l.map (·.Key)) k) <;> rfl
theorem and_all {α : Type} (l : List α) (p q : α → Bool) : (l.all p && l.all q) = l.all fun x => p x && q x := by
  induction l with
  | nil => rfl
  | cons x l ih =>
    simp only [List.all_cons, ← ih]
    cases p x <;> cases q x <;> cases l.all p <;> rfl
theorem isStored_eq (v : Str) (g : Bool) : i_isStored v g = (s_l3Val v && (!g || v == ([] : Str))) := by
  unfold i_isStored
  rw [GoodVal_eq]
  cases s_l3Val v <;> cases g <;> cases (v == ([] : Str)) <;> rfl
theorem l3Write_eq (k v : Str) (g : Bool) : s_l3Write k v g = (s_l3Key k && i_isStored v g) := by
  rw [isStored_eq]
  unfold s_l3Write
  cases s_l3Key k <;> cases s_l3Val v <;> cases g <;> cases (v == ([] : Str)) <;> rfl
theorem GoodWrites_eq (l : List DWrite) : i_GoodWrites l = s_l3Writes l := by
  have hg : ∀ k, (l.map (·.Key)).getD k d_Str = (l.getD k d_Write).Key := by
    intro k
    simp only [List.getD_eq_getElem?_getD, List.getElem?_map]
    cases l[k]? <;> rfl
  unfold i_GoodWrites
  rw [writeKeys_eq, areRising_eq, l3Writes_eq, ContainsFunc_Write, List.length_map]
  have h1 : (!(l.any fun y => i_GoodWrites_c1 y)) = (List.range l.length).all fun k => i_isStored (l.getD k d_Write).Val (l.getD k d_Write).Gone := by
    rw [List.not_any_eq_all_not, ← range_all d_Write]
    unfold i_GoodWrites_c1
    simp only [Bool.not_not]
  rw [h1]
  have h2 : ((List.range l.length).all fun k => s_l3Write ((l.getD k d_Write).Key) ((l.getD k d_Write).Val) ((l.getD k d_Write).Gone) && rising (l.map (·.Key)) k) = (((List.range l.length).all fun k => s_l3Key ((l.map (·.Key)).getD k d_Str) && rising (l.map (·.Key)) k) && (List.range l.length).all fun k => i_isStored (l.getD k d_Write).Val (l.getD k d_Write).Gone) := by
    rw [and_all]
    congr 1; funext k
    rw [l3Write_eq, hg]
    cases s_l3Key (l.getD k d_Write).Key <;> cases i_isStored (l.getD k d_Write).Val (l.getD k d_Write).Gone <;> cases rising (l.map (·.Key)) k <;> rfl
  rw [h2]
  cases decide ((l.length : Int) ≤ 24) <;> cases ((List.range l.length).all fun k => s_l3Key ((l.map (·.Key)).getD k d_Str) && rising (l.map (·.Key)) k) <;> cases ((List.range l.length).all fun k => i_isStored (l.getD k d_Write).Val (l.getD k d_Write).Gone) <;> rfl
theorem isRows_eq (l : List DWrite) : i_isRows l = (s_l3Writes l && l.all fun w => !w.Gone) := by
  unfold i_isRows
  rw [GoodWrites_eq, ContainsFunc_Write, List.not_any_eq_all_not]
  cases s_l3Writes l <;> rfl
theorem GoodCopy_eq (c : DCopy) : i_GoodCopy c = s_GoodCopy c := by
  unfold i_GoodCopy s_GoodCopy s_l31Copy i_isTrue
  rw [allE d_Write (fun w => !w.Gone) (r := false) fun k => by
    unfold B_s_l31Copy_0
    cases (c.Rows.getD k d_Write).Gone <;> rfl]
  rw [isRows_eq, within_eq]
  cases s_l1In c.Time 0 100000 <;> cases s_l3Writes c.Rows <;> cases (c.Rows.all fun w => !w.Gone) <;> rfl
def copyShort (c : DCopy) : Prop := ∀ k, k < c.Rows.length → (c.Rows.getD k d_Write).Key.length ≤ 12 ∧ (c.Rows.getD k d_Write).Val.length ≤ 24
theorem l3Key_len {s : Str} (h : s_l3Key s = true) : s.length ≤ 12 := by
  unfold s_l3Key at h
  have := f_l1In (of_cond_f h).1
  omega
theorem l3Val_len {s : Str} (h : s_l3Val s = true) : s.length ≤ 24 := by
  unfold s_l3Val at h
  have := of_decide_eq_true (of_cond_f h).1
  omega
theorem l3Write_len {k v : Str} {g : Bool} (h : s_l3Write k v g = true) : k.length ≤ 12 ∧ v.length ≤ 24 := by
  rw [l3Write_eq, isStored_eq] at h
  simp only [Bool.and_eq_true] at h
  exact ⟨l3Key_len h.1, l3Val_len h.2.1⟩
theorem f_l3Writes {l : List DWrite} (h : s_l3Writes l = true) : l.length ≤ 24 ∧ ∀ k, k < l.length → (l.getD k d_Write).Key.length ≤ 12 ∧ (l.getD k d_Write).Val.length ≤ 24 := by
  rw [l3Writes_eq, Bool.and_eq_true, decide_eq_true_eq] at h
  refine ⟨by omega, fun k hk => ?_⟩
  have := List.all_eq_true.1 h.1 k (List.mem_range.2 hk)
  rw [Bool.and_eq_true] at this
  exact l3Write_len this.1
theorem f_s_l31Copy {c : DCopy} (h : s_l31Copy c = true) : (c.Rows.length ≤ 24 ∧ 0 ≤ c.Time ∧ c.Time ≤ 100000) ∧ copyShort c := by
  have h' : i_GoodCopy c = true := by rw [GoodCopy_eq]; exact h
  unfold i_GoodCopy i_isTrue at h'
  obtain ⟨h1, h2⟩ := of_cond_f h'
  obtain ⟨h2, _⟩ := of_cond_f h2
  rw [isRows_eq, Bool.and_eq_true] at h2
  have h3 := f_l3Writes h2.1
  have h4 := f_within h1
  exact ⟨⟨h3.1, h4⟩, h3.2⟩
theorem PutBack_eq (c : DCopy) : i_PutBack c = s_PutBack c := by
  unfold i_PutBack s_PutBack
  rw [GoodCopy_eq]
  rfl
theorem PutBack_cnt (c : DCopy) : cntL c_Cell (i_PutBack c).1 ≤ 4 * c.Rows.length := by
  unfold i_PutBack
  cases i_GoodCopy c
  · exact Nat.zero_le _
  · rw [cond_true, catE (body := B_i_PutBack_0 c) (xs := c.Rows) d_Write (fun w => [(⟨w.Key, [⟨c.Time, w.Val, false⟩]⟩ : DCell)]) (fun _ _ _ => rfl)]
    rw [List.nil_append]
    show cntL c_Cell (List.flatten _) ≤ _
    induction c.Rows with
    | nil => exact Nat.zero_le _
    | cons x xs ih =>
      rw [List.map_cons, List.flatten_cons, List.length_cons, Nat.mul_succ]
      rw [List.singleton_append]
      unfold cntL
      have : c_Cell (⟨x.Key, [⟨c.Time, x.Val, false⟩]⟩ : DCell) = 4 := rfl
      omega
theorem true_PutBack (c : DCopy) (hw : wf_Copy c) : l_FnExactPutBack c = true := by
  unfold l_FnExactPutBack
  cases h1 : decide (l_szCopy c 1048576 < 0)
  case true => rfl
  have hl : c.Rows.length ≤ 1073741824 := (szok_Copy hw (by decide) (of_decide_eq_false h1)).1.1
  have hc := PutBack_cnt c
  obtain ⟨_, h3⟩ := mh_Copy c 1 (by decide) (by omega)
  obtain ⟨h4, h5, _⟩ := mh_CellS (i_PutBack c).1 1 (by decide) (by omega)
  simp only [cond_false, ← PutBack_eq, eq_Copy, eq_CellS, beq_self_eq_true, cond_true, h4]
  rw [h3, decide_eq_false (by omega), cond_false, h5, decide_eq_false (by omega), cond_false, decide_true]; rfl
end Go.Proofs.Ytdbobbmagmcpnaa
