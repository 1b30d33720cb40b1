/- New Shift: plain laws of the models. -/
import Derived.Test.YtdbobbmagmcpnaaNewShiftT
set_option linter.unusedVariables false
set_option linter.unusedSimpArgs false
namespace Go.Proofs.Ytdbobbmagmcpnaa
open Go.RowKit Go.X
theorem szok_Idx {x : DIdx} {L : Int} (hw : wf_Idx x) (hL : 0 ≤ L ∧ L ≤ 1048576) (h : ¬ l_szIdx x L < 0) : ok_Idx x ∧ 0 ≤ l_szIdx x L ∧ l_szIdx x L ≤ 1048576 := by
  unfold l_szIdx at h ⊢
  obtain ⟨a0, e0, h⟩ := szc h
  rw [e0]
  have s0 := szS_ok hw.1 hL a0
  exact ⟨s0.1, s0.2⟩
theorem to_Idx (x : DIdx) : l_toIdx x = x := rfl
theorem eq_Idx (x : DIdx) : l_eqIdx x x = true := by unfold l_eqIdx; simp only [beq_self_eq_true, cond_true, decide_true]
theorem sze_StringS (x : List Str) (L : Int) : l_szStringS x L = szLL (fun s L => IntKind.wrap .i64 (L - (s.length : Int))) d_Str x L := by
  unfold l_szStringS szLL szL
  have : B_l_szStringS_0 x L = fun k y => bif decide (IntKind.wrap .i64 (y - ((x.getD k d_Str).length : Int)) < 0) then .ret (-1) else .cont (IntKind.wrap .i64 (y - ((x.getD k d_Str).length : Int))) := by
    funext k y; rfl
  rw [this]
theorem szok_StringS {x : List Str} {L : Int} (hw : (wfL wfS) x) (hL : 0 ≤ L ∧ L ≤ 1048576) (h : ¬ l_szStringS x L < 0) : (okL okS) x ∧ 0 ≤ l_szStringS x L ∧ l_szStringS x L ≤ 1048576 := by
  rw [sze_StringS] at h ⊢
  exact szLL_ok d_Str szS_ok hw hL h
theorem to_StringS (x : List Str) : l_toStringS x = x := toL_id d_Str (f := fun s => s) (fun _ => rfl) x
theorem eq_StringS (x : List Str) : l_eqStringS x x = true := eqL_refl d_Str (f := fun a b => a == b) (fun _ => beq_self_eq_true _) x
theorem szok_IdxS {x : List DIdx} {L : Int} (hw : (wfL wf_Idx) x) (hL : 0 ≤ L ∧ L ≤ 1048576) (h : ¬ l_szIdxS x L < 0) : (okL ok_Idx) x ∧ 0 ≤ l_szIdxS x L ∧ l_szIdxS x L ≤ 1048576 := szLL_ok d_Idx (f := l_szIdx) szok_Idx hw hL h
theorem to_IdxS (x : List DIdx) : l_toIdxS x = x := toL_id d_Idx (f := fun s => s) (fun _ => rfl) x
theorem eq_IdxS (x : List DIdx) : l_eqIdxS x x = true := eqL_refl d_Idx (f := l_eqIdx) eq_Idx x
theorem szok_Table {x : DTable} {L : Int} (hw : wf_Table x) (hL : 0 ≤ L ∧ L ≤ 1048576) (h : ¬ l_szTable x L < 0) : ok_Table x ∧ 0 ≤ l_szTable x L ∧ l_szTable x L ≤ 1048576 := by
  unfold l_szTable at h ⊢
  obtain ⟨a0, e0, h⟩ := szc h
  rw [e0]
  have s0 := szS_ok hw.1 hL a0
  obtain ⟨a1, e1, h⟩ := szc h
  rw [e1]
  have s1 := szok_StringS hw.2.1 s0.2 a1
  obtain ⟨a2, e2, h⟩ := szc h
  rw [e2]
  have s2 := szok_IdxS hw.2.2 s1.2 a2
  exact ⟨⟨s0.1, s1.1, s2.1⟩, s2.2⟩
theorem to_Table (x : DTable) : l_toTable x = x := rfl
theorem eq_Table (x : DTable) : l_eqTable x x = true := by unfold l_eqTable; simp only [eq_StringS, eq_IdxS, beq_self_eq_true, cond_true, decide_true]
theorem szok_Write {x : DWrite} {L : Int} (hw : wf_Write x) (hL : 0 ≤ L ∧ L ≤ 1048576) (h : ¬ l_szWrite x L < 0) : ok_Write x ∧ 0 ≤ l_szWrite x L ∧ l_szWrite x L ≤ 1048576 := by
  unfold l_szWrite at h ⊢
  obtain ⟨a0, e0, h⟩ := szc h
  rw [e0]
  have s0 := szS_ok hw.1 hL a0
  obtain ⟨a1, e1, h⟩ := szc h
  rw [e1]
  have s1 := szS_ok hw.2 s0.2 a1
  exact ⟨⟨s0.1, s1.1⟩, s1.2⟩
theorem to_Write (x : DWrite) : l_toWrite x = x := rfl
theorem eq_Write (x : DWrite) : l_eqWrite x x = true := by unfold l_eqWrite; simp only [beq_self_eq_true, cond_true, decide_true]
theorem eq_TableS (x : List DTable) : l_eqTableS x x = true := eqL_refl d_Table (f := l_eqTable) eq_Table x
theorem eq_IntS (x : List Int) : l_eqIntS x x = true := eqL_refl d_Int (f := fun a b => decide (a = b)) (fun _ => decide_eq_true rfl) x
theorem szok_WriteS {x : List DWrite} {L : Int} (hw : (wfL wf_Write) x) (hL : 0 ≤ L ∧ L ≤ 1048576) (h : ¬ l_szWriteS x L < 0) : (okL ok_Write) x ∧ 0 ≤ l_szWriteS x L ∧ l_szWriteS x L ≤ 1048576 := szLL_ok d_Write (f := l_szWrite) szok_Write hw hL h
theorem to_WriteS (x : List DWrite) : l_toWriteS x = x := toL_id d_Write (f := fun s => s) (fun _ => rfl) x
theorem eq_WriteS (x : List DWrite) : l_eqWriteS x x = true := eqL_refl d_Write (f := l_eqWrite) eq_Write x
theorem eq_Shift (x : DShift) : l_eqShift x x = true := by unfold l_eqShift; simp only [eq_TableS, eq_IntS, eq_WriteS, beq_self_eq_true, cond_true, decide_true]
def mk_String (_ : Str) (k : Int) : Int × Str := (IntKind.wrap .i64 (k + 1), l_markText k)
theorem mkc_String (x : Str) (k : Int) (h0 : 0 ≤ k) (h1 : k + ((1 : Nat) : Int) ≤ 4611686018427387904) : (mk_String x k).1 = k + ((1 : Nat) : Int) := by
  unfold mk_String
  simp only [IntKind.wrap_i64]; omega
theorem mark_StringS (a : List Str) (k : Int) : l_markStringS a k = mkL mk_String a k := by
  unfold l_markStringS
  exact markE (d := d_Str) (mk := mk_String) (fun i k xs hi => by unfold B_l_markStringS_0; simp only [List.set_set, getD_set_self hi, mk_String]) a k
theorem held_StringS (a : List Str) (k : Int) (h0 : 0 ≤ k) (h1 : k + (cntL (fun _ => 1) a : Int) ≤ 4611686018427387904) : l_heldStringS (l_markStringS a k).2 k = (l_markStringS a k).1 := by
  rw [mark_StringS]
  unfold l_heldStringS
  exact heldE (d := d_Str) (mk := mk_String) (c := fun _ => 1) a k mkc_String (fun i k x hx _ _ => by unfold B_l_heldStringS_0; simp only [hx, mk_String, eq_self, decide_true, beq_self_eq_true, cond_true]) h0 h1
theorem mh_StringS (a : List Str) (k : Int) (h0 : 0 ≤ k) (h1 : k + (((1 : Nat) * a.length : Nat) : Int) ≤ 4611686018427387904) : l_heldStringS (l_markStringS a k).2 k = (l_markStringS a k).1 ∧ (l_markStringS a k).1 = k + (((1 : Nat) * a.length : Nat) : Int) ∧ (l_markStringS a k).2.length = a.length := by
  rw [← cntL_const] at h1 ⊢
  refine ⟨held_StringS a k h0 h1, ?_, ?_⟩
  · rw [mark_StringS]; exact mkL_cnt mkc_String a k h0 h1
  · rw [mark_StringS]; exact mkL_length _ _ _
theorem rf_markStringS (a : List Str) (k : Int) (h : k ≤ 9223372036854775807) : (l_markStringS a k).1 ≤ 9223372036854775807 := by
  unfold l_markStringS
  refine loopM_val (fun _ (s : Int × List Str) => s.1 ≤ 9223372036854775807) (fun (v : Int × List Str) => v.1 ≤ 9223372036854775807) h (fun s hs => hs) ?_
  rintro j ⟨k, x⟩ _ _ hk
  exact wrap_le _
theorem rf_heldStringS (a : List Str) (k : Int) (h : k ≤ 9223372036854775807) : l_heldStringS a k ≤ 9223372036854775807 := by
  unfold l_heldStringS
  refine loopM_val (fun _ (s : Int) => s ≤ 9223372036854775807) (fun v => v ≤ 9223372036854775807) h (fun s hs => hs) ?_
  intro j k' _ _ hk
  unfold B_l_heldStringS_0
  dsimp only
  cases ((a.getD j d_Str) == l_markText k') <;> first | exact wrap_le _ | exact neg1_le
def mk_Idx (_ : DIdx) (k : Int) : Int × DIdx := (IntKind.wrap .i64 ((IntKind.wrap .i64 ((IntKind.wrap .i64 (k + 1)) + 1)) + 1), ⟨l_markText k, IntKind.wrap .i64 (k + 1), IntKind.wrap .i64 ((IntKind.wrap .i64 (k + 1)) + 1)⟩)
theorem mkc_Idx (x : DIdx) (k : Int) (h0 : 0 ≤ k) (h1 : k + ((3 : Nat) : Int) ≤ 4611686018427387904) : (mk_Idx x k).1 = k + ((3 : Nat) : Int) := by
  unfold mk_Idx
  simp only [IntKind.wrap_i64]; omega
theorem mark_IdxS (a : List DIdx) (k : Int) : l_markIdxS a k = mkL mk_Idx a k := by
  unfold l_markIdxS
  exact markE (d := d_Idx) (mk := mk_Idx) (fun i k xs hi => by unfold B_l_markIdxS_0; simp only [List.set_set, getD_set_self hi, mk_Idx]) a k
theorem held_IdxS (a : List DIdx) (k : Int) (h0 : 0 ≤ k) (h1 : k + (cntL (fun _ => 3) a : Int) ≤ 4611686018427387904) : l_heldIdxS (l_markIdxS a k).2 k = (l_markIdxS a k).1 := by
  rw [mark_IdxS]
  unfold l_heldIdxS
  exact heldE (d := d_Idx) (mk := mk_Idx) (c := fun _ => 3) a k mkc_Idx (fun i k x hx _ _ => by unfold B_l_heldIdxS_0; simp only [hx, mk_Idx, eq_self, decide_true, beq_self_eq_true, cond_true]) h0 h1
theorem mh_IdxS (a : List DIdx) (k : Int) (h0 : 0 ≤ k) (h1 : k + (((3 : Nat) * a.length : Nat) : Int) ≤ 4611686018427387904) : l_heldIdxS (l_markIdxS a k).2 k = (l_markIdxS a k).1 ∧ (l_markIdxS a k).1 = k + (((3 : Nat) * a.length : Nat) : Int) ∧ (l_markIdxS a k).2.length = a.length := by
  rw [← cntL_const] at h1 ⊢
  refine ⟨held_IdxS a k h0 h1, ?_, ?_⟩
  · rw [mark_IdxS]; exact mkL_cnt mkc_Idx a k h0 h1
  · rw [mark_IdxS]; exact mkL_length _ _ _
theorem rf_markIdxS (a : List DIdx) (k : Int) (h : k ≤ 9223372036854775807) : (l_markIdxS a k).1 ≤ 9223372036854775807 := by
  unfold l_markIdxS
  refine loopM_val (fun _ (s : Int × List DIdx) => s.1 ≤ 9223372036854775807) (fun (v : Int × List DIdx) => v.1 ≤ 9223372036854775807) h (fun s hs => hs) ?_
  rintro j ⟨k, x⟩ _ _ hk
  exact wrap_le _
theorem rf_heldIdxS (a : List DIdx) (k : Int) (h : k ≤ 9223372036854775807) : l_heldIdxS a k ≤ 9223372036854775807 := by
  unfold l_heldIdxS
  refine loopM_val (fun _ (s : Int) => s ≤ 9223372036854775807) (fun v => v ≤ 9223372036854775807) h (fun s hs => hs) ?_
  intro j k' _ _ hk
  unfold B_l_heldIdxS_0
  dsimp only
  cases (((a.getD j d_Idx).Name) == l_markText k') <;> cases decide (((a.getD j d_Idx).Col) = IntKind.wrap .i64 (k' + 1)) <;> cases decide (((a.getD j d_Idx).Stage) = IntKind.wrap .i64 ((IntKind.wrap .i64 (k' + 1)) + 1)) <;> first | exact wrap_le _ | exact neg1_le
def mk_Write (_ : DWrite) (k : Int) : Int × DWrite := (IntKind.wrap .i64 ((IntKind.wrap .i64 ((IntKind.wrap .i64 (k + 1)) + 1)) + 1), ⟨l_markText k, l_markText (IntKind.wrap .i64 (k + 1)), decide (Int.tmod (IntKind.wrap .i64 ((IntKind.wrap .i64 (k + 1)) + 1)) 3 = 0)⟩)
theorem mkc_Write (x : DWrite) (k : Int) (h0 : 0 ≤ k) (h1 : k + ((3 : Nat) : Int) ≤ 4611686018427387904) : (mk_Write x k).1 = k + ((3 : Nat) : Int) := by
  unfold mk_Write
  simp only [IntKind.wrap_i64]; omega
theorem mark_WriteS (a : List DWrite) (k : Int) : l_markWriteS a k = mkL mk_Write a k := by
  unfold l_markWriteS
  exact markE (d := d_Write) (mk := mk_Write) (fun i k xs hi => by unfold B_l_markWriteS_0; simp only [List.set_set, getD_set_self hi, mk_Write]) a k
theorem held_WriteS (a : List DWrite) (k : Int) (h0 : 0 ≤ k) (h1 : k + (cntL (fun _ => 3) a : Int) ≤ 4611686018427387904) : l_heldWriteS (l_markWriteS a k).2 k = (l_markWriteS a k).1 := by
  rw [mark_WriteS]
  unfold l_heldWriteS
  exact heldE (d := d_Write) (mk := mk_Write) (c := fun _ => 3) a k mkc_Write (fun i k x hx _ _ => by unfold B_l_heldWriteS_0; simp only [hx, mk_Write, eq_self, decide_true, beq_self_eq_true, cond_true]) h0 h1
theorem mh_WriteS (a : List DWrite) (k : Int) (h0 : 0 ≤ k) (h1 : k + (((3 : Nat) * a.length : Nat) : Int) ≤ 4611686018427387904) : l_heldWriteS (l_markWriteS a k).2 k = (l_markWriteS a k).1 ∧ (l_markWriteS a k).1 = k + (((3 : Nat) * a.length : Nat) : Int) ∧ (l_markWriteS a k).2.length = a.length := by
  rw [← cntL_const] at h1 ⊢
  refine ⟨held_WriteS a k h0 h1, ?_, ?_⟩
  · rw [mark_WriteS]; exact mkL_cnt mkc_Write a k h0 h1
  · rw [mark_WriteS]; exact mkL_length _ _ _
theorem rf_markWriteS (a : List DWrite) (k : Int) (h : k ≤ 9223372036854775807) : (l_markWriteS a k).1 ≤ 9223372036854775807 := by
  unfold l_markWriteS
  refine loopM_val (fun _ (s : Int × List DWrite) => s.1 ≤ 9223372036854775807) (fun (v : Int × List DWrite) => v.1 ≤ 9223372036854775807) h (fun s hs => hs) ?_
  rintro j ⟨k, x⟩ _ _ hk
  exact wrap_le _
theorem rf_heldWriteS (a : List DWrite) (k : Int) (h : k ≤ 9223372036854775807) : l_heldWriteS a k ≤ 9223372036854775807 := by
  unfold l_heldWriteS
  refine loopM_val (fun _ (s : Int) => s ≤ 9223372036854775807) (fun v => v ≤ 9223372036854775807) h (fun s hs => hs) ?_
  intro j k' _ _ hk
  unfold B_l_heldWriteS_0
  dsimp only
  cases (((a.getD j d_Write).Key) == l_markText k') <;> cases (((a.getD j d_Write).Val) == l_markText (IntKind.wrap .i64 (k' + 1))) <;> cases (((a.getD j d_Write).Gone) == decide (Int.tmod (IntKind.wrap .i64 ((IntKind.wrap .i64 (k' + 1)) + 1)) 3 = 0)) <;> first | exact wrap_le _ | exact neg1_le
def c_Table (x : DTable) : Nat := 1 + 1 * x.Cols.length + 3 * x.Idxs.length
def mk_Table (x : DTable) (k : Int) : Int × DTable := ((l_markIdxS x.Idxs ((l_markStringS x.Cols (IntKind.wrap .i64 (k + 1))).1)).1, ⟨l_markText k, (l_markStringS x.Cols (IntKind.wrap .i64 (k + 1))).2, (l_markIdxS x.Idxs ((l_markStringS x.Cols (IntKind.wrap .i64 (k + 1))).1)).2⟩)
theorem mkc_Table (x : DTable) (k : Int) (h0 : 0 ≤ k) (h1 : k + ((c_Table x : Nat) : Int) ≤ 4611686018427387904) : (mk_Table x k).1 = k + ((c_Table x : Nat) : Int) := by
  unfold c_Table at h1 ⊢
  have n0 : IntKind.wrap .i64 (k + 1) = k + 1 := by simp only [IntKind.wrap_i64]; omega
  obtain ⟨e1, n1, _⟩ := mh_StringS x.Cols (k + 1) (by omega) (by omega)
  obtain ⟨e2, n2, _⟩ := mh_IdxS x.Idxs ((k + 1) + ((1 * x.Cols.length : Nat) : Int)) (by omega) (by omega)
  unfold mk_Table
  simp only [n0, n1, n2] <;> omega
theorem mark_TableS (a : List DTable) (k : Int) : l_markTableS a k = mkL mk_Table a k := by
  unfold l_markTableS
  exact markE (d := d_Table) (mk := mk_Table) (fun i k xs hi => by unfold B_l_markTableS_0; simp only [List.set_set, getD_set_self hi, mk_Table]) a k
theorem held_TableS (a : List DTable) (k : Int) (h0 : 0 ≤ k) (h1 : k + (cntL c_Table a : Int) ≤ 4611686018427387904) : l_heldTableS (l_markTableS a k).2 k = (l_markTableS a k).1 := by
  rw [mark_TableS]
  unfold l_heldTableS
  refine heldE (d := d_Table) (mk := mk_Table) (c := c_Table) a k mkc_Table (fun i k x hx h0 h1 => ?_) h0 h1
  unfold c_Table at h1
  have n0 : IntKind.wrap .i64 (k + 1) = k + 1 := by simp only [IntKind.wrap_i64]; omega
  obtain ⟨e1, n1, _⟩ := mh_StringS x.Cols (k + 1) (by omega) (by omega)
  obtain ⟨e2, n2, _⟩ := mh_IdxS x.Idxs ((k + 1) + ((1 * x.Cols.length : Nat) : Int)) (by omega) (by omega)
  unfold B_l_heldTableS_0
  simp only [hx, mk_Table]
  simp only [n0, n1, e1, n2, e2, decide_eq_false (show ¬ (k + 1) + ((1 * x.Cols.length : Nat) : Int) < 0 by omega), decide_eq_false (show ¬ ((k + 1) + ((1 * x.Cols.length : Nat) : Int)) + ((3 * x.Idxs.length : Nat) : Int) < 0 by omega), eq_self, decide_true, beq_self_eq_true, cond_true, cond_false]
theorem mh_TableS (a : List DTable) (k : Int) (h0 : 0 ≤ k) (h1 : k + ((cntL c_Table a : Nat) : Int) ≤ 4611686018427387904) : l_heldTableS (l_markTableS a k).2 k = (l_markTableS a k).1 ∧ (l_markTableS a k).1 = k + ((cntL c_Table a : Nat) : Int) ∧ (l_markTableS a k).2.length = a.length := by
  refine ⟨held_TableS a k h0 h1, ?_, ?_⟩
  · rw [mark_TableS]; exact mkL_cnt mkc_Table a k h0 h1
  · rw [mark_TableS]; exact mkL_length _ _ _
theorem rf_markTableS (a : List DTable) (k : Int) (h : k ≤ 9223372036854775807) : (l_markTableS a k).1 ≤ 9223372036854775807 := by
  unfold l_markTableS
  refine loopM_val (fun _ (s : Int × List DTable) => s.1 ≤ 9223372036854775807) (fun (v : Int × List DTable) => v.1 ≤ 9223372036854775807) h (fun s hs => hs) ?_
  rintro j ⟨k, x⟩ _ _ hk
  exact (rf_markIdxS _ _ (rf_markStringS _ _ (wrap_le _)))
theorem rf_heldTableS (a : List DTable) (k : Int) (h : k ≤ 9223372036854775807) : l_heldTableS a k ≤ 9223372036854775807 := by
  unfold l_heldTableS
  refine loopM_val (fun _ (s : Int) => s ≤ 9223372036854775807) (fun v => v ≤ 9223372036854775807) h (fun s hs => hs) ?_
  intro j k' _ _ hk
  unfold B_l_heldTableS_0
  dsimp only
  cases (((a.getD j d_Table).Name) == l_markText k') <;> cases decide ((l_heldStringS ((a.getD j d_Table).Cols) (IntKind.wrap .i64 (k' + 1))) < 0) <;> cases decide ((l_heldIdxS ((a.getD j d_Table).Idxs) (l_heldStringS ((a.getD j d_Table).Cols) (IntKind.wrap .i64 (k' + 1)))) < 0) <;> first | exact neg1_le | exact (rf_heldIdxS _ _ (rf_heldStringS _ _ (wrap_le _)))
def mk_Int (_ : Int) (k : Int) : Int × Int := (IntKind.wrap .i64 (k + 1), k)
theorem mkc_Int (x : Int) (k : Int) (h0 : 0 ≤ k) (h1 : k + ((1 : Nat) : Int) ≤ 4611686018427387904) : (mk_Int x k).1 = k + ((1 : Nat) : Int) := by
  unfold mk_Int
  simp only [IntKind.wrap_i64]; omega
theorem mark_IntS (a : List Int) (k : Int) : l_markIntS a k = mkL mk_Int a k := by
  unfold l_markIntS
  exact markE (d := d_Int) (mk := mk_Int) (fun i k xs hi => by unfold B_l_markIntS_0; simp only [List.set_set, getD_set_self hi, mk_Int]) a k
theorem held_IntS (a : List Int) (k : Int) (h0 : 0 ≤ k) (h1 : k + (cntL (fun _ => 1) a : Int) ≤ 4611686018427387904) : l_heldIntS (l_markIntS a k).2 k = (l_markIntS a k).1 := by
  rw [mark_IntS]
  unfold l_heldIntS
  exact heldE (d := d_Int) (mk := mk_Int) (c := fun _ => 1) a k mkc_Int (fun i k x hx _ _ => by unfold B_l_heldIntS_0; simp only [hx, mk_Int, eq_self, decide_true, beq_self_eq_true, cond_true]) h0 h1
theorem mh_IntS (a : List Int) (k : Int) (h0 : 0 ≤ k) (h1 : k + (((1 : Nat) * a.length : Nat) : Int) ≤ 4611686018427387904) : l_heldIntS (l_markIntS a k).2 k = (l_markIntS a k).1 ∧ (l_markIntS a k).1 = k + (((1 : Nat) * a.length : Nat) : Int) ∧ (l_markIntS a k).2.length = a.length := by
  rw [← cntL_const] at h1 ⊢
  refine ⟨held_IntS a k h0 h1, ?_, ?_⟩
  · rw [mark_IntS]; exact mkL_cnt mkc_Int a k h0 h1
  · rw [mark_IntS]; exact mkL_length _ _ _
theorem rf_markIntS (a : List Int) (k : Int) (h : k ≤ 9223372036854775807) : (l_markIntS a k).1 ≤ 9223372036854775807 := by
  unfold l_markIntS
  refine loopM_val (fun _ (s : Int × List Int) => s.1 ≤ 9223372036854775807) (fun (v : Int × List Int) => v.1 ≤ 9223372036854775807) h (fun s hs => hs) ?_
  rintro j ⟨k, x⟩ _ _ hk
  exact wrap_le _
theorem rf_heldIntS (a : List Int) (k : Int) (h : k ≤ 9223372036854775807) : l_heldIntS a k ≤ 9223372036854775807 := by
  unfold l_heldIntS
  refine loopM_val (fun _ (s : Int) => s ≤ 9223372036854775807) (fun v => v ≤ 9223372036854775807) h (fun s hs => hs) ?_
  intro j k' _ _ hk
  unfold B_l_heldIntS_0
  dsimp only
  cases decide ((a.getD j d_Int) = k') <;> first | exact wrap_le _ | exact neg1_le
theorem mh_Shift (a : DShift) (k : Int) (h0 : 0 ≤ k) (h1 : k + ((cntL c_Table a.Ways + 1 * a.At.length + 3 * a.Store.length : Nat) : Int) ≤ 4611686018427387904) : l_heldShift (l_markShift a k).2 k = (l_markShift a k).1 ∧ (l_markShift a k).1 = k + ((cntL c_Table a.Ways + 1 * a.At.length + 3 * a.Store.length : Nat) : Int) := by
  obtain ⟨e0, n0, _⟩ := mh_TableS a.Ways k (by omega) (by omega)
  obtain ⟨e1, n1, _⟩ := mh_IntS a.At (k + ((cntL c_Table a.Ways : Nat) : Int)) (by omega) (by omega)
  obtain ⟨e2, n2, _⟩ := mh_WriteS a.Store ((k + ((cntL c_Table a.Ways : Nat) : Int)) + ((1 * a.At.length : Nat) : Int)) (by omega) (by omega)
  have q1 : l_heldShift (l_markShift a k).2 k = ((k + ((cntL c_Table a.Ways : Nat) : Int)) + ((1 * a.At.length : Nat) : Int)) + ((3 * a.Store.length : Nat) : Int) := by unfold l_heldShift l_markShift; simp only [e0, n0, e1, n1, e2, n2, decide_eq_false (show ¬ k + ((cntL c_Table a.Ways : Nat) : Int) < 0 by omega), decide_eq_false (show ¬ (k + ((cntL c_Table a.Ways : Nat) : Int)) + ((1 * a.At.length : Nat) : Int) < 0 by omega), decide_eq_false (show ¬ ((k + ((cntL c_Table a.Ways : Nat) : Int)) + ((1 * a.At.length : Nat) : Int)) + ((3 * a.Store.length : Nat) : Int) < 0 by omega), cond_false]
  have q2 : (l_markShift a k).1 = ((k + ((cntL c_Table a.Ways : Nat) : Int)) + ((1 * a.At.length : Nat) : Int)) + ((3 * a.Store.length : Nat) : Int) := by unfold l_markShift; simp only [n0, n1, n2]
  exact ⟨q1.trans q2.symm, q2.trans (by omega)⟩
theorem eta_markShift (r : DShift) (k : Int) : (⟨r.Name, (l_markShift r k).2.Ways, (l_markShift r k).2.At, (l_markShift r k).2.Store⟩ : DShift) = (l_markShift r k).2 := rfl
theorem rf_markShift (a : DShift) (k : Int) (h : k ≤ 9223372036854775807) : (l_markShift a k).1 ≤ 9223372036854775807 := by
  unfold l_markShift
  exact (rf_markWriteS _ _ (rf_markIntS _ _ (rf_markTableS _ _ h)))
theorem rf_heldShift (a : DShift) (k : Int) (h : k ≤ 9223372036854775807) : l_heldShift a k ≤ 9223372036854775807 := by
  unfold l_heldShift
  cases decide (l_heldTableS a.Ways k < 0) <;> cases decide (l_heldIntS a.At (l_heldTableS a.Ways k) < 0) <;> cases decide (l_heldWriteS a.Store (l_heldIntS a.At (l_heldTableS a.Ways k)) < 0) <;> first | exact neg1_le | exact (rf_heldWriteS _ _ (rf_heldIntS _ _ (rf_heldTableS _ _ h)))
theorem IndexFunc_Idx (xs : List DIdx) (f : DIdx → Bool) : g_slices_IndexFunc_Idx xs f = idxF f d_Idx xs := rfl
theorem ContainsFunc_Write (xs : List DWrite) (f : DWrite → Bool) : g_slices_ContainsFunc_Write xs f = xs.any f := idxF_any f d_Write xs
theorem Contains_string (xs : List Str) (y : Str) : g_slices_Contains_string xs y = xs.any (fun x => y == x) := idxF_any _ d_Str xs
theorem mh_Table (a : DTable) (k : Int) (h0 : 0 ≤ k) (h1 : k + ((1 * a.Cols.length + 3 * a.Idxs.length : Nat) : Int) ≤ 4611686018427387904) : l_heldTable (l_markTable a k).2 k = (l_markTable a k).1 ∧ (l_markTable a k).1 = k + ((1 * a.Cols.length + 3 * a.Idxs.length : Nat) : Int) := by
  obtain ⟨e0, n0, _⟩ := mh_StringS a.Cols k (by omega) (by omega)
  obtain ⟨e1, n1, _⟩ := mh_IdxS a.Idxs (k + ((1 * a.Cols.length : Nat) : Int)) (by omega) (by omega)
  have q1 : l_heldTable (l_markTable a k).2 k = (k + ((1 * a.Cols.length : Nat) : Int)) + ((3 * a.Idxs.length : Nat) : Int) := by unfold l_heldTable l_markTable; simp only [e0, n0, e1, n1, decide_eq_false (show ¬ k + ((1 * a.Cols.length : Nat) : Int) < 0 by omega), decide_eq_false (show ¬ (k + ((1 * a.Cols.length : Nat) : Int)) + ((3 * a.Idxs.length : Nat) : Int) < 0 by omega), cond_false]
  have q2 : (l_markTable a k).1 = (k + ((1 * a.Cols.length : Nat) : Int)) + ((3 * a.Idxs.length : Nat) : Int) := by unfold l_markTable; simp only [n0, n1]
  exact ⟨q1.trans q2.symm, q2.trans (by omega)⟩
theorem rf_markTable (a : DTable) (k : Int) (h : k ≤ 9223372036854775807) : (l_markTable a k).1 ≤ 9223372036854775807 := by
  unfold l_markTable
  exact (rf_markIdxS _ _ (rf_markStringS _ _ h))
theorem within_eq : i_within = s_l1In := rfl
theorem f_l1In {n lo hi : Int} (h : s_l1In n lo hi = true) : lo ≤ n ∧ n ≤ hi := by
  unfold s_l1In at h
  obtain ⟨h1, h2⟩ := of_cond_f h
  exact ⟨of_decide_eq_true h1, of_decide_eq_true h2⟩
theorem f_within {n lo hi : Int} (h : i_within n lo hi = true) : lo ≤ n ∧ n ≤ hi := f_l1In h
theorem indexByte_neg (l : List UInt8) (c : UInt8) : decide (Lib.indexByte l c < 0) = !(l.contains c) := by
  induction l with
  | nil => rfl
  | cons b l ih =>
    have hge := Lib.indexByte_ge l c
    rw [Bool.eq_iff_iff] at ih ⊢
    simp only [decide_eq_true_eq, Bool.not_eq_true', List.contains_cons] at ih ⊢
    unfold Lib.indexByte
    by_cases hb : b = c
    · subst hb; simp
    · have hb1 : (b == c) = false := by simpa using hb
      have hb2 : (c == b) = false := by simpa using fun h => hb h.symm
      rw [hb1, hb2]
      simp only [Bool.false_or, Bool.false_eq_true, if_false]
      split
      · rename_i h
        have : Lib.indexByte l c = -1 := by simpa using h
        rw [← ih]; omega
      · rename_i h
        have : Lib.indexByte l c ≠ -1 := by simpa using h
        constructor
        · intro h; omega
        · intro h; have := ih.2 h; omega
theorem byte_back (b : UInt8) : ((b.toNat : Int)).toNat.toUInt8 = b := by simp
theorem idxB_neg (s : Str) (b : UInt8) : decide (idxB s (b.toNat : Int) < 0) = !(s.contains b) := by
  unfold idxB
  rw [byte_back, indexByte_neg]
def byteOk (more : Str) (b : UInt8) : Bool := i_isLowerOrDigit (b.toNat : Int) || more.contains b
theorem hasBytes_eq (s more : Str) : i_hasBytes s more = s.all (byteOk more) := by
  unfold i_hasBytes
  rw [allE (0 : UInt8) (byteOk more) (r := false) fun k => by
    unfold B_i_hasBytes_0 byteOk g_strings_IndexByte g_internal_stringslite_IndexByte
    rw [idxB_neg]
    cases i_isLowerOrDigit ((s.getD k 0).toNat : Int) <;> cases more.contains (s.getD k 0) <;> rfl]
  cases s.all (byteOk more) <;> rfl
theorem toNat_eq (a b : UInt8) : decide ((a.toNat : Int) = (b.toNat : Int)) = (a == b) := by
  rw [Bool.eq_iff_iff, decide_eq_true_iff, beq_iff_eq]
  constructor
  · intro h; exact UInt8.toNat.inj (by omega)
  · intro h; rw [h]
theorem l3B1 {T : Type} (s more : Str) (k : Nat) (x0 : Bool) (fr : Bool → T) (fd : Bool → T) : loopE (loopM (B_s_l3Bytes_1 s more k) (more.length - 0) 0 x0) fr fd = fd (x0 || more.contains (s.getD k 0)) := by
  rw [orE (0 : UInt8) (fun b => (s.getD k 0) == b) fun j x => by
    unfold B_s_l3Bytes_1
    rw [toNat_eq]
    cases x <;> rfl]
  rw [List.contains_eq_any_beq]
theorem l3Bytes_eq (s more : Str) : s_l3Bytes s more = s.all (byteOk more) := by
  unfold s_l3Bytes
  rw [allE (0 : UInt8) (byteOk more) (r := false) fun k => by
    unfold B_s_l3Bytes_0 byteOk i_isLowerOrDigit
    simp only [l3B1]
    cases decide (97 ≤ ((s.getD k 0).toNat : Int)) <;> cases decide (((s.getD k 0).toNat : Int) ≤ 122) <;> cases decide (48 ≤ ((s.getD k 0).toNat : Int)) <;> cases decide (((s.getD k 0).toNat : Int) ≤ 57) <;> cases more.contains (s.getD k 0) <;> rfl]
  cases s.all (byteOk more) <;> rfl
theorem GoodKey_eq (s : Str) : i_GoodKey s = s_l3Key s := by
  unfold i_GoodKey s_l3Key
  rw [hasBytes_eq, l3Bytes_eq, within_eq]
theorem GoodVal_eq (s : Str) : i_GoodVal s = s_l3Val s := by
  unfold i_GoodVal s_l3Val
  rw [hasBytes_eq, l3Bytes_eq]

theorem writeKeys_eq (l : List DWrite) : i_writeKeys l = l.map (·.Key) := by
  unfold i_writeKeys
  rw [mapE (body := B_i_writeKeys_0 l) (xs := l) d_Write (fun w => w.Key) fun k x _ => rfl]
  rfl
def rising (ks : List Str) (k : Nat) : Bool := bif decide (0 < (k : Int)) then sLt (ks.getD ((IntKind.wrap .i64 ((k : Int) - 1)).toNat) d_Str) (ks.getD k d_Str) else true
theorem areRising_eq (ks : List Str) : i_areRising ks = (List.range ks.length).all fun k => s_l3Key (ks.getD k d_Str) && rising ks k := by
  unfold i_areRising
  rw [loopU (fun k => s_l3Key (ks.getD k d_Str) && rising ks k) (r := false) fun k _ => by
    unfold B_i_areRising_0 rising
    rw [GoodKey_eq, sLe_not]
    cases s_l3Key (ks.getD k d_Str) <;> cases decide (0 < (k : Int)) <;> cases sLt (ks.getD ((IntKind.wrap .i64 ((k : Int) - 1)).toNat) d_Str) (ks.getD k d_Str) <;> rfl]
  cases (List.range ks.length).all fun k => s_l3Key (ks.getD k d_Str) && rising ks k <;> rfl
theorem l3Writes_eq (l : List DWrite) : s_l3Writes l = (((List.range l.length).all fun k => s_l3Write ((l.getD k d_Write).Key) ((l.getD k d_Write).Val) ((l.getD k d_Write).Gone) && rising (l.map (·.Key)) k) && decide ((l.length : Int) ≤ 24)) := by
  have hg : ∀ k, (l.map (·.Key)).getD k d_Str = (l.getD k d_Write).Key := by
    intro k
    simp only [List.getD_eq_getElem?_getD, List.getElem?_map]
    cases l[k]? <;> rfl
  unfold s_l3Writes
  rw [loopU (fun k => s_l3Write ((l.getD k d_Write).Key) ((l.getD k d_Write).Val) ((l.getD k d_Write).Gone) && rising (l.map (·.Key)) k) (r := false) fun k _ => by
    unfold B_s_l3Writes_0 rising
    rw [hg, hg]
    cases s_l3Write ((l.getD k d_Write).Key) ((l.getD k d_Write).Val) ((l.getD k d_Write).Gone) <;> cases decide (0 < (k : Int)) <;> cases sLt (l.getD ((IntKind.wrap .i64 ((k : Int) - 1)).toNat) d_Write).Key (l.getD k d_Write).Key <;> rfl]
  cases ((List.range l.length).all fun k => s_l3Write ((l.getD k d_Write).Key) ((l.getD k d_Write).Val) ((l.getD k d_Write).Gone) && rising (l.map (·.Key)) k) <;> rfl
theorem and_all {α : Type} (l : List α) (p q : α → Bool) : (l.all p && l.all q) = l.all fun x => p x && q x := by
  induction l with
  | nil => rfl
  | cons x l ih =>
    simp only [List.all_cons, ← ih]
    cases p x <;> cases q x <;> cases l.all p <;> rfl
theorem isStored_eq (v : Str) (g : Bool) : i_isStored v g = (s_l3Val v && (!g || v == ([] : Str))) := by
  unfold i_isStored
  rw [GoodVal_eq]
  cases s_l3Val v <;> cases g <;> cases (v == ([] : Str)) <;> rfl
theorem l3Write_eq (k v : Str) (g : Bool) : s_l3Write k v g = (s_l3Key k && i_isStored v g) := by
  rw [isStored_eq]
  unfold s_l3Write
  cases s_l3Key k <;> cases s_l3Val v <;> cases g <;> cases (v == ([] : Str)) <;> rfl
theorem GoodWrites_eq (l : List DWrite) : i_GoodWrites l = s_l3Writes l := by
  have hg : ∀ k, (l.map (·.Key)).getD k d_Str = (l.getD k d_Write).Key := by
    intro k
    simp only [List.getD_eq_getElem?_getD, List.getElem?_map]
    cases l[k]? <;> rfl
  unfold i_GoodWrites
  rw [writeKeys_eq, areRising_eq, l3Writes_eq, ContainsFunc_Write, List.length_map]
  have h1 : (!(l.any fun y => i_GoodWrites_c1 y)) = (List.range l.length).all fun k => i_isStored (l.getD k d_Write).Val (l.getD k d_Write).Gone := by
    rw [List.not_any_eq_all_not, ← range_all d_Write]
    unfold i_GoodWrites_c1
    simp only [Bool.not_not]
  rw [h1]
  have h2 : ((List.range l.length).all fun k => s_l3Write ((l.getD k d_Write).Key) ((l.getD k d_Write).Val) ((l.getD k d_Write).Gone) && rising (l.map (·.Key)) k) = (((List.range l.length).all fun k => s_l3Key ((l.map (·.Key)).getD k d_Str) && rising (l.map (·.Key)) k) && (List.range l.length).all fun k => i_isStored (l.getD k d_Write).Val (l.getD k d_Write).Gone) := by
    rw [and_all]
    congr 1; funext k
    rw [l3Write_eq, hg]
    cases s_l3Key (l.getD k d_Write).Key <;> cases i_isStored (l.getD k d_Write).Val (l.getD k d_Write).Gone <;> cases rising (l.map (·.Key)) k <;> rfl
  rw [h2]
  cases decide ((l.length : Int) ≤ 24) <;> cases ((List.range l.length).all fun k => s_l3Key ((l.map (·.Key)).getD k d_Str) && rising (l.map (·.Key)) k) <;> cases ((List.range l.length).all fun k => i_isStored (l.getD k d_Write).Val (l.getD k d_Write).Gone) <;> rfl
theorem isRows_eq (l : List DWrite) : i_isRows l = (s_l3Writes l && l.all fun w => !w.Gone) := by
  unfold i_isRows
  rw [GoodWrites_eq, ContainsFunc_Write, List.not_any_eq_all_not]
  cases s_l3Writes l <;> rfl
theorem letters_eq : i_areLetters = s_l24Letters := by
  funext s m
  unfold i_areLetters s_l24Letters
  rfl
theorem l24At_neg (l : List Str) (s : Str) : decide (0 ≤ s_l24At l s) = l.any fun x => x == s := by
  have : s_l24At l s = idxF (fun x => x == s) d_Str l := rfl
  rw [this, idxF_any]
def colOk (l : List Str) (k : Nat) : Bool := s_l24Letters (l.getD k d_Str) 3 && !((l.take k).any fun x => x == l.getD k d_Str)
theorem l24Cols_eq (l : List Str) : s_l24Cols l = ((List.range l.length).all (colOk l) && s_l1In (l.length : Int) 2 4) := by
  unfold s_l24Cols
  rw [loopU (colOk l) (r := false) fun k _ => by
    unfold B_s_l24Cols_0 colOk
    rw [l24At_neg]
    cases s_l24Letters (l.getD k d_Str) 3 <;> cases ((l.take k).any fun x => x == l.getD k d_Str) <;> rfl]
  cases (List.range l.length).all (colOk l) <;> rfl
theorem GoodTable_eq (t : DTable) : i_GoodTable t = s_GoodTable t := by
  unfold i_GoodTable s_GoodTable
  rw [l24Cols_eq, letters_eq, within_eq]
  rw [loopU (colOk t.Cols) (r := false) fun k _ => by
    unfold B_i_GoodTable_0 colOk
    rw [Contains_string, letters_eq]
    rw [show ((t.Cols.take k).any fun x => t.Cols.getD k d_Str == x) = ((t.Cols.take k).any fun x => x == t.Cols.getD k d_Str) by congr 1; funext x; rw [Bool.beq_comm]]
    cases s_l24Letters (t.Cols.getD k d_Str) 3 <;> cases ((t.Cols.take k).any fun x => x == t.Cols.getD k d_Str) <;> rfl]
  have hb : B_i_GoodTable_1 t = B_s_GoodTable_0 t := by
    funext k u
    unfold B_i_GoodTable_1 B_s_GoodTable_0 i_isStage
    rw [letters_eq, within_eq, sLe_not]
    cases s_l24Letters ((t.Idxs.getD k d_Idx).Name) 1 <;> cases s_l1In ((t.Idxs.getD k d_Idx).Col) 1 (IntKind.wrap .i64 ((t.Cols.length : Int) - 1)) <;> cases s_l1In ((t.Idxs.getD k d_Idx).Stage) 0 3 <;> cases decide (0 < (k : Int)) <;> cases sLt ((t.Idxs.getD ((IntKind.wrap .i64 ((k : Int) - 1)).toNat) d_Idx).Name) ((t.Idxs.getD k d_Idx).Name) <;> rfl
  rw [hb]
  cases s_l24Letters t.Name 1 <;> cases s_l1In (t.Cols.length : Int) 2 4 <;> cases decide (3 < (t.Idxs.length : Int)) <;> cases (List.range t.Cols.length).all (colOk t.Cols) <;> rfl
theorem f_s_GoodTable {t : DTable} (h : s_GoodTable t = true) : 2 ≤ (t.Cols.length : Int) ∧ (t.Cols.length : Int) ≤ 4 ∧ (t.Idxs.length : Int) ≤ 3 := by
  unfold s_GoodTable at h
  obtain ⟨_, h⟩ := of_cond_f h
  obtain ⟨h1, h⟩ := of_cond_f h
  rw [l24Cols_eq, Bool.and_eq_true] at h1
  have h2 := f_l1In h1.2
  refine ⟨h2.1, h2.2, ?_⟩
  cases h3 : decide (3 < (t.Idxs.length : Int))
  · have := of_decide_eq_false h3; omega
  · rw [h3] at h; cases h
theorem f_i_GoodTable {t : DTable} (h : i_GoodTable t = true) : 2 ≤ (t.Cols.length : Int) ∧ (t.Cols.length : Int) ≤ 4 ∧ (t.Idxs.length : Int) ≤ 3 := f_s_GoodTable (GoodTable_eq t ▸ h)
theorem findIdx_eq (t : DTable) (s : Str) : i_Table_findIdx t s = s_l24Idx t s := by
  unfold i_Table_findIdx
  rw [IndexFunc_Idx]
  rfl
theorem l24Idx_idxF (t : DTable) (n : Str) : s_l24Idx t n = idxF (fun y => i_Table_findIdx_c1 y n) d_Idx t.Idxs := rfl
theorem l24Idx_spec (t : DTable) (n : Str) : (s_l24Idx t n = -1 ∧ ∀ x ∈ t.Idxs, x.Name ≠ n) ∨ ∃ (k : Nat) (_ : k < t.Idxs.length), s_l24Idx t n = (k : Int) ∧ (t.Idxs.getD k d_Idx).Name = n ∧ ∀ j, j < k → (t.Idxs.getD j d_Idx).Name ≠ n := by
  rw [l24Idx_idxF]
  rcases idxF_spec (fun y => i_Table_findIdx_c1 y n) d_Idx t.Idxs with ⟨h1, h2⟩ | ⟨k, hk, h1, h2, h3⟩
  · exact .inl ⟨h1, fun x hx e => by have := h2 x hx; unfold i_Table_findIdx_c1 at this; rw [e, beq_self_eq_true] at this; cases this⟩
  · refine .inr ⟨k, hk, h1, ?_, fun j hj e => ?_⟩
    · rw [getD_eq hk]; unfold i_Table_findIdx_c1 at h2; exact eq_of_beq h2
    · have := h3 j hj; rw [getD_eq (by omega)] at e; unfold i_Table_findIdx_c1 at this; rw [e, beq_self_eq_true] at this; cases this
theorem rf_s_l24Idx (t : DTable) (n : Str) : -1 ≤ s_l24Idx t n ∧ s_l24Idx t n < (t.Idxs.length : Int) := by
  rcases l24Idx_spec t n with ⟨h, _⟩ | ⟨k, hk, h, _⟩ <;> omega
theorem rf_i_findIdx (t : DTable) (n : Str) : -1 ≤ i_Table_findIdx t n ∧ i_Table_findIdx t n < (t.Idxs.length : Int) := by rw [findIdx_eq]; exact rf_s_l24Idx t n
def idxOk (t : DTable) (k : Nat) : Bool := s_l24Letters (t.Idxs.getD k d_Idx).Name 1 && s_l1In (t.Idxs.getD k d_Idx).Col 1 (IntKind.wrap .i64 ((t.Cols.length : Int) - 1)) && s_l1In (t.Idxs.getD k d_Idx).Stage 0 3 && bif decide (0 < (k : Int)) then sLt (t.Idxs.getD ((IntKind.wrap .i64 ((k : Int) - 1)).toNat) d_Idx).Name (t.Idxs.getD k d_Idx).Name else true
theorem s_GoodTable_eq (t : DTable) : s_GoodTable t = (s_l24Letters t.Name 1 && s_l24Cols t.Cols && decide (t.Idxs.length ≤ 3) && (List.range t.Idxs.length).all (idxOk t)) := by
  unfold s_GoodTable
  rw [loopU (idxOk t) (r := false) fun k _ => by
    unfold B_s_GoodTable_0 idxOk
    cases s_l24Letters (t.Idxs.getD k d_Idx).Name 1 <;> cases s_l1In (t.Idxs.getD k d_Idx).Col 1 (IntKind.wrap .i64 ((t.Cols.length : Int) - 1)) <;> cases s_l1In (t.Idxs.getD k d_Idx).Stage 0 3 <;> cases decide (0 < (k : Int)) <;> cases sLt (t.Idxs.getD ((IntKind.wrap .i64 ((k : Int) - 1)).toNat) d_Idx).Name (t.Idxs.getD k d_Idx).Name <;> rfl]
  have e : decide (t.Idxs.length ≤ 3) = !decide (3 < (t.Idxs.length : Int)) := by
    by_cases h : t.Idxs.length ≤ 3
    · rw [decide_eq_true h, decide_eq_false (by omega)]; rfl
    · rw [decide_eq_false h, decide_eq_true (by omega)]; rfl
  rw [e]
  cases s_l24Letters t.Name 1 <;> cases s_l24Cols t.Cols <;> cases decide (3 < (t.Idxs.length : Int)) <;> cases (List.range t.Idxs.length).all (idxOk t) <;> rfl
def letter (b : UInt8) : Bool := !decide ((b.toNat : Int) < 97) && !decide (122 < (b.toNat : Int))
theorem l24Letters_eq (s : Str) (m : Int) : s_l24Letters s m = (s.all letter && decide (1 ≤ (s.length : Int)) && decide ((s.length : Int) ≤ m)) := by
  unfold s_l24Letters
  rw [allE (0 : UInt8) letter (r := false) fun k => by
    unfold B_s_l24Letters_0 letter
    cases decide (((s.getD k 0).toNat : Int) < 97) <;> cases decide (122 < ((s.getD k 0).toNat : Int)) <;> rfl]
  cases s.all letter <;> cases decide (1 ≤ (s.length : Int)) <;> rfl
theorem letters_len {s : Str} {m : Int} (h : s_l24Letters s m = true) : 1 ≤ (s.length : Int) ∧ (s.length : Int) ≤ m := by
  rw [l24Letters_eq] at h
  simp only [Bool.and_eq_true, decide_eq_true_eq] at h
  exact ⟨h.1.2, h.2⟩
structure GoodT (t : DTable) : Prop where
  name : t.Name.length = 1
  cols : 2 ≤ t.Cols.length ∧ t.Cols.length ≤ 4
  idxs : t.Idxs.length ≤ 3
  idx : ∀ k, k < t.Idxs.length → (t.Idxs.getD k d_Idx).Name.length = 1 ∧ 1 ≤ (t.Idxs.getD k d_Idx).Col ∧ (t.Idxs.getD k d_Idx).Col < (t.Cols.length : Int) ∧ 0 ≤ (t.Idxs.getD k d_Idx).Stage ∧ (t.Idxs.getD k d_Idx).Stage ≤ 3
  rise : ∀ k, k + 1 < t.Idxs.length → (t.Idxs.getD k d_Idx).Name < (t.Idxs.getD (k + 1) d_Idx).Name
theorem GoodT.of {t : DTable} (h : s_GoodTable t = true) : GoodT t := by
  have hf := f_s_GoodTable h
  rw [s_GoodTable_eq] at h
  simp only [Bool.and_eq_true, decide_eq_true_eq, List.all_eq_true, List.mem_range] at h
  obtain ⟨⟨⟨h1, h2⟩, h3⟩, h4⟩ := h
  have h5 : ∀ k, k < t.Idxs.length → _ := fun k hk => h4 k hk
  unfold idxOk at h5
  simp only [Bool.and_eq_true] at h5
  refine ⟨by have := letters_len h1; omega, by omega, h3, fun k hk => ?_, fun k hk => ?_⟩
  · obtain ⟨⟨⟨a, b⟩, c⟩, d⟩ := h5 k hk
    have a := letters_len a
    have b := f_l1In b
    have c := f_l1In c
    rw [wrap_in (by omega)] at b
    omega
  · have d := (h5 (k + 1) hk).2
    rw [wrap_in (by omega), decide_eq_true (show 0 < ((k + 1 : Nat) : Int) by omega)] at d
    have e : (((k + 1 : Nat) : Int) - 1).toNat = k := by omega
    rw [e] at d
    exact (sLt_iff _ _).1 d
theorem f_i_hasIdx' {t : DTable} {n : Str} (h : i_hasIdx t n = true) : (2 ≤ (t.Cols.length : Int) ∧ (t.Cols.length : Int) ≤ 4 ∧ (t.Idxs.length : Int) ≤ 3) ∧ (0 ≤ i_Table_findIdx t n ∧ i_Table_findIdx t n < (t.Idxs.length : Int)) ∧ 1 ≤ (i_Table_idx t n).Col ∧ (i_Table_idx t n).Col < (t.Cols.length : Int) := by
  unfold i_hasIdx at h
  obtain ⟨h1, h2⟩ := of_cond_f h
  have h2 := of_decide_eq_true h2
  have h3 := rf_i_findIdx t n
  rw [GoodTable_eq] at h1
  have hg := GoodT.of h1
  refine ⟨f_s_GoodTable h1, ⟨h2, h3.2⟩, ?_⟩
  unfold i_Table_idx
  have := hg.idx (i_Table_findIdx t n).toNat (by omega)
  omega
theorem f_s_l24Asked' {t : DTable} {n : Str} {s : Int} (h : s_l24Asked t n s = true) : (2 ≤ (t.Cols.length : Int) ∧ (t.Cols.length : Int) ≤ 4 ∧ (t.Idxs.length : Int) ≤ 3) ∧ (0 ≤ s_l24Idx t n ∧ s_l24Idx t n < (t.Idxs.length : Int)) ∧ 0 ≤ s ∧ s ≤ 3 := by
  unfold s_l24Asked at h
  obtain ⟨h1, h2⟩ := of_cond_f h
  obtain ⟨h2, h4⟩ := of_cond_f h2
  have h2 := of_decide_eq_true h2
  exact ⟨f_s_GoodTable h1, ⟨h2, (rf_s_l24Idx t n).2⟩, f_l1In h4⟩
theorem f_s_IdxAt' {t : DTable} {n : Str} (h : (s_IdxAt t n).2 = true) : (2 ≤ (t.Cols.length : Int) ∧ (t.Cols.length : Int) ≤ 4 ∧ (t.Idxs.length : Int) ≤ 3) ∧ (0 ≤ s_l24Idx t n ∧ s_l24Idx t n < (t.Idxs.length : Int)) ∧ 1 ≤ (s_IdxAt t n).1.Col ∧ (s_IdxAt t n).1.Col < (t.Cols.length : Int) := by
  unfold s_IdxAt at h ⊢
  cases h1 : s_GoodTable t
  · rw [h1] at h; cases h
  · rw [h1] at h
    simp only [cond_true] at h ⊢
    cases h2 : decide (s_l24Idx t n < 0)
    · simp only [cond_false]
      have h2 := of_decide_eq_false h2
      have h3 := rf_s_l24Idx t n
      have := (GoodT.of h1).idx (s_l24Idx t n).toNat (by omega)
      exact ⟨f_s_GoodTable h1, ⟨by omega, h3.2⟩, by omega⟩
    · rw [h2] at h; cases h
theorem IdxAt_fst {t : DTable} {n : Str} (h : (s_IdxAt t n).2 = true) : (s_IdxAt t n).1 = i_Table_idx t n ∧ (i_Table_idx t n).Name = n := by
  have hf := f_s_IdxAt' h
  unfold s_IdxAt at h ⊢
  unfold i_Table_idx
  cases h1 : s_GoodTable t
  · rw [h1] at h; cases h
  · simp only [cond_true]
    rw [decide_eq_false (show ¬ s_l24Idx t n < 0 by omega), findIdx_eq]
    refine ⟨rfl, ?_⟩
    rcases l24Idx_spec t n with ⟨h, _⟩ | ⟨k, hk, h, h', _⟩
    · omega
    · rw [h]; exact h'
theorem rf_copyTable (t : DTable) : (i_copyTable t).Idxs.length = t.Idxs.length ∧ (i_copyTable t).Cols.length = t.Cols.length := ⟨rfl, rfl⟩
theorem rf_l24Own (t : DTable) : (s_l24Own t).Idxs.length = t.Idxs.length ∧ (s_l24Own t).Cols.length = t.Cols.length := ⟨rfl, rfl⟩
theorem copyTable_eq (t : DTable) : i_copyTable t = t := rfl
theorem l24Own_eq (t : DTable) : s_l24Own t = t := rfl
theorem f_i_hasIdx {t : DTable} {n : Str} (h : i_hasIdx t n = true) : (2 ≤ (t.Cols.length : Int) ∧ (t.Cols.length : Int) ≤ 4 ∧ (t.Idxs.length : Int) ≤ 3) ∧ (0 ≤ i_Table_findIdx t n ∧ i_Table_findIdx t n < (t.Idxs.length : Int)) ∧ 1 ≤ (i_Table_idx t n).Col ∧ (i_Table_idx t n).Col < (t.Cols.length : Int) ∧ 0 ≤ (i_Table_idx t n).Stage ∧ (i_Table_idx t n).Stage ≤ 3 ∧ t.Name.length = 1 ∧ n.length = 1 := by
  have h0 := f_i_hasIdx' h
  unfold i_hasIdx at h
  obtain ⟨h1, h2⟩ := of_cond_f h
  rw [GoodTable_eq] at h1
  have hg := GoodT.of h1
  have h3 := IdxAt_fst (t := t) (n := n) (by unfold s_IdxAt; rw [h1, cond_true, decide_eq_false (by have := of_decide_eq_true h2; rw [findIdx_eq] at this; omega)]; rfl)
  refine ⟨h0.1, h0.2.1, h0.2.2.1, h0.2.2.2, ?_⟩
  have h4 := hg.idx (i_Table_findIdx t n).toNat (by omega)
  have h5 : (t.Idxs.getD (i_Table_findIdx t n).toNat d_Idx).Name = n := h3.2
  rw [h5] at h4
  unfold i_Table_idx
  exact ⟨h4.2.2.2.1, h4.2.2.2.2, hg.name, h4.1⟩
theorem f_s_l24Asked {t : DTable} {n : Str} {s : Int} (h : s_l24Asked t n s = true) : (2 ≤ (t.Cols.length : Int) ∧ (t.Cols.length : Int) ≤ 4 ∧ (t.Idxs.length : Int) ≤ 3) ∧ (0 ≤ s_l24Idx t n ∧ s_l24Idx t n < (t.Idxs.length : Int)) ∧ 0 ≤ s ∧ s ≤ 3 ∧ 0 ≤ (t.Idxs.getD (s_l24Idx t n).toNat d_Idx).Stage ∧ (t.Idxs.getD (s_l24Idx t n).toNat d_Idx).Stage ≤ 3 := by
  have h0 := f_s_l24Asked' h
  unfold s_l24Asked at h
  obtain ⟨h1, h2⟩ := of_cond_f h
  have h4 := (GoodT.of h1).idx (s_l24Idx t n).toNat (by omega)
  exact ⟨h0.1, h0.2.1, h0.2.2.1, h0.2.2.2, h4.2.2.2.1, h4.2.2.2.2⟩
theorem withStage_eq (t : DTable) (n : Str) (s : Int) : i_Table_withStage t n s = s_l24Set t n s := by
  unfold i_Table_withStage s_l24Set
  rw [copyTable_eq, l24Own_eq, findIdx_eq]
def setStage (t : DTable) (k : Nat) (s : Int) : DTable := ⟨t.Name, t.Cols, t.Idxs.set k ⟨(t.Idxs.getD k d_Idx).Name, (t.Idxs.getD k d_Idx).Col, s⟩⟩
theorem l24Set_eq (t : DTable) (n : Str) (s : Int) : s_l24Set t n s = setStage t (s_l24Idx t n).toNat s := rfl
theorem list_ext {α : Type} (d : α) {xs ys : List α} (hl : xs.length = ys.length) (h : ∀ k, k < xs.length → xs.getD k d = ys.getD k d) : xs = ys :=
  List.ext_getElem hl fun k h1 h2 => by have := h k h1; rwa [getD_eq h1, getD_eq h2] at this
theorem SameCols_iff (a b : DTable) : s_l24SameCols a b = true ↔ a.Name = b.Name ∧ a.Cols = b.Cols ∧ a.Idxs.length = b.Idxs.length ∧ ∀ k, k < a.Idxs.length → (a.Idxs.getD k d_Idx).Name = (b.Idxs.getD k d_Idx).Name ∧ (a.Idxs.getD k d_Idx).Col = (b.Idxs.getD k d_Idx).Col := by
  unfold s_l24SameCols
  rw [loopU (fun k => a.Cols.getD k d_Str == b.Cols.getD k d_Str) (r := false) fun k _ => rfl]
  rw [loopU (fun k => ((a.Idxs.getD k d_Idx).Name == (b.Idxs.getD k d_Idx).Name) && decide ((a.Idxs.getD k d_Idx).Col = (b.Idxs.getD k d_Idx).Col)) (r := false) fun k _ => by
    unfold B_s_l24SameCols_1
    cases (a.Idxs.getD k d_Idx).Name == (b.Idxs.getD k d_Idx).Name <;> cases decide ((a.Idxs.getD k d_Idx).Col = (b.Idxs.getD k d_Idx).Col) <;> rfl]
  constructor
  · intro h
    obtain ⟨h1, h⟩ := of_cond_f h
    obtain ⟨h2, h⟩ := of_cond_f h
    obtain ⟨h3, h⟩ := of_cond_f h
    obtain ⟨h4, h⟩ := of_cond_f h
    obtain ⟨h5, _⟩ := of_cond_f h
    have h2 := of_decide_eq_true h2
    have h3 := of_decide_eq_true h3
    refine ⟨eq_of_beq h1, list_ext d_Str (by omega) fun k hk => eq_of_beq (List.all_eq_true.1 h4 k (List.mem_range.2 hk)), by omega, fun k hk => ?_⟩
    have := List.all_eq_true.1 h5 k (List.mem_range.2 hk)
    simp only [Bool.and_eq_true, decide_eq_true_eq, beq_iff_eq] at this
    exact this
  · rintro ⟨h1, h2, h3, h4⟩
    rw [h1, beq_self_eq_true, cond_true, h2, decide_eq_true rfl, cond_true, decide_eq_true (by omega), cond_true, List.all_eq_true.2 fun k _ => beq_self_eq_true _, cond_true, List.all_eq_true.2 fun k hk => by
      have := h4 k (List.mem_range.1 hk)
      simp only [Bool.and_eq_true, decide_eq_true_eq, beq_iff_eq]
      exact this]
    rfl
def stageAt (t : DTable) (k : Nat) : Int := (t.Idxs.getD k d_Idx).Stage
theorem getD_set {α : Type} {d : α} {xs : List α} {k : Nat} {v : α} (hk : k < xs.length) (i : Nat) : (xs.set k v).getD i d = if i = k then v else xs.getD i d := by
  rw [List.getD_eq_getElem?_getD, List.getD_eq_getElem?_getD, List.getElem?_set]
  by_cases h : i = k
  · subst h; simp [hk]
  · have : ¬ k = i := fun h' => h h'.symm
    simp [h, this]
theorem setStage_len (t : DTable) (k : Nat) (s : Int) : (setStage t k s).Idxs.length = t.Idxs.length := List.length_set ..
theorem idx_eq (t : DTable) (n : Str) : i_Table_idx t n = t.Idxs.getD (s_l24Idx t n).toNat d_Idx := by unfold i_Table_idx; rw [findIdx_eq]
theorem way_sim (t : DTable) (n : Str) (s : Int) : ∀ (m : Nat) (a : Int) (x : List DTable), loopE (loopW (B_i_Table_wayTo_0 t n s) m (a, x)) (fun r => r) (fun (_, x) => x) = loopE (loopW (B_s_l24Way_0 t n s) m (x, a)) (fun r => r) (fun (x, _) => x)
  | 0, a, x => rfl
  | m + 1, a, x => by
    by_cases h1 : a = s
    · have e1 : B_i_Table_wayTo_0 t n s (a, x) = .brk (a, x) := by unfold B_i_Table_wayTo_0; simp only [decide_eq_true h1, cond_true]
      have e2 : B_s_l24Way_0 t n s (x, a) = .brk (x, a) := by unfold B_s_l24Way_0; simp only [decide_eq_true h1, cond_true]
      simp only [loopW, e1, e2, loopE_done]
    · by_cases h2 : a < s
      · have e1 : B_i_Table_wayTo_0 t n s (a, x) = .cont (IntKind.wrap .i64 (a + 1), x ++ [s_l24Set t n (IntKind.wrap .i64 (a + 1))]) := by unfold B_i_Table_wayTo_0; simp only [decide_eq_false h1, decide_eq_true h2, cond_true, cond_false, withStage_eq]
        have e2 : B_s_l24Way_0 t n s (x, a) = .cont (x ++ [s_l24Set t n (IntKind.wrap .i64 (a + 1))], IntKind.wrap .i64 (a + 1)) := by unfold B_s_l24Way_0; simp only [decide_eq_false h1, decide_eq_true h2, cond_true, cond_false]
        simp only [loopW, e1, e2]
        exact way_sim t n s m _ _
      · have e1 : B_i_Table_wayTo_0 t n s (a, x) = .cont (IntKind.wrap .i64 (a - 1), x ++ [s_l24Set t n (IntKind.wrap .i64 (a - 1))]) := by unfold B_i_Table_wayTo_0; simp only [decide_eq_false h1, decide_eq_false h2, cond_false, withStage_eq]
        have e2 : B_s_l24Way_0 t n s (x, a) = .cont (x ++ [s_l24Set t n (IntKind.wrap .i64 (a - 1))], IntKind.wrap .i64 (a - 1)) := by unfold B_s_l24Way_0; simp only [decide_eq_false h1, decide_eq_false h2, cond_false]
        simp only [loopW, e1, e2]
        exact way_sim t n s m _ _
theorem wayTo_eq (t : DTable) (n : Str) (s : Int) : i_Table_wayTo t n s = s_l24Way t n s := by
  unfold i_Table_wayTo s_l24Way
  rw [idx_eq, copyTable_eq, l24Own_eq]
  exact way_sim t n s _ _ _
structure Like (t x : DTable) : Prop where
  same : s_l24SameCols x t = true
  stage : ∀ k, k < x.Idxs.length → 0 ≤ stageAt x k ∧ stageAt x k ≤ 3
theorem Like.refl {t : DTable} (h : GoodT t) : Like t t := ⟨(SameCols_iff t t).2 ⟨rfl, rfl, rfl, fun _ _ => ⟨rfl, rfl⟩⟩, fun k hk => (h.idx k hk).2.2.2⟩
theorem Like.set {t : DTable} (h : GoodT t) {k : Nat} (hk : k < t.Idxs.length) {s : Int} (hs : 0 ≤ s ∧ s ≤ 3) : Like t (setStage t k s) := by
  refine ⟨(SameCols_iff _ _).2 ⟨rfl, rfl, setStage_len .., fun i hi => ?_⟩, fun i hi => ?_⟩
  · unfold setStage
    simp only [getD_set hk]
    by_cases hik : i = k
    · subst hik; simp only [if_true]; exact ⟨trivial, trivial⟩
    · simp only [if_neg hik]; exact ⟨trivial, trivial⟩
  · rw [setStage_len] at hi
    unfold stageAt setStage
    simp only [getD_set hk]
    by_cases hik : i = k
    · simp only [if_pos hik]; exact hs
    · simp only [if_neg hik]; exact (h.idx i hi).2.2.2
theorem way_like {t : DTable} (h : GoodT t) {n : Str} (hn : 0 ≤ s_l24Idx t n) {s : Int} (hs : 0 ≤ s ∧ s ≤ 3) : ∀ x ∈ s_l24Way t n s, Like t x := by
  have hk := rf_s_l24Idx t n
  have hk' : (s_l24Idx t n).toNat < t.Idxs.length := by omega
  have h0 := (h.idx _ hk').2.2.2
  unfold s_l24Way
  refine loopW_val (fun (p : List DTable × Int) => (∀ x ∈ p.1, Like t x) ∧ 0 ≤ p.2 ∧ p.2 ≤ 3) (fun p => (s - p.2).toNat + (p.2 - s).toNat) (fun v => ∀ x ∈ v, Like t x) ?_ _ _ ⟨fun x hx => ?_, h0⟩ (Nat.lt_succ_self _)
  · rintro ⟨x, a⟩ ⟨h1, h2, h3⟩
    simp only at h1 h2 h3
    have key : ∀ b, 0 ≤ b ∧ b ≤ 3 → ∀ y ∈ x ++ [s_l24Set t n b], Like t y := fun b hb y hy => by
      rcases List.mem_append.1 hy with hy | hy
      · exact h1 y hy
      · rw [List.mem_singleton.1 hy, l24Set_eq]; exact Like.set h hk' hb
    unfold B_s_l24Way_0
    simp only
    by_cases e1 : a = s
    · simp only [decide_eq_true e1, cond_true, Out.sat]; exact h1
    · by_cases e2 : a < s
      · simp only [decide_eq_false e1, decide_eq_true e2, cond_true, cond_false, Out.sat]
        rw [wrap_in (by omega)]
        exact ⟨⟨key _ (by omega), by omega, by omega⟩, by omega⟩
      · simp only [decide_eq_false e1, decide_eq_false e2, cond_false, Out.sat]
        rw [wrap_in (by omega)]
        exact ⟨⟨key _ (by omega), by omega, by omega⟩, by omega⟩
  · rw [List.mem_singleton.1 hx, l24Own_eq]; exact Like.refl h
theorem l5Rows_eq (l : List DWrite) : s_l5Rows l = i_isRows l := by
  rw [isRows_eq]
  unfold s_l5Rows
  rw [allE d_Write (fun w => !w.Gone) (r := false) fun k => by
    unfold B_s_l5Rows_0
    cases (l.getD k d_Write).Gone <;> rfl]
  cases s_l3Writes l <;> cases (l.all fun w => !w.Gone) <;> rfl
theorem szTable_len {t : DTable} (hw : wf_Table t) (h : ¬ l_szTable t 1048576 < 0) : t.Cols.length ≤ 1073741824 ∧ t.Idxs.length ≤ 1073741824 := by
  have := (szok_Table hw (by decide) h).1
  exact ⟨this.2.1.1, this.2.2.1⟩
theorem f_i_isStage {s : Int} (h : i_isStage s = true) : 0 ≤ s ∧ s ≤ 3 := f_within h
theorem cntL_le {α : Type} {c : α → Nat} {m : Nat} : ∀ {xs : List α}, (∀ x ∈ xs, c x ≤ m) → cntL c xs ≤ m * xs.length
  | [], _ => Nat.zero_le _
  | x :: xs, h => by
    have h1 := h x (List.mem_cons_self ..)
    have h2 := cntL_le (xs := xs) fun y hy => h y (List.mem_cons_of_mem _ hy)
    unfold cntL
    rw [List.length_cons, Nat.mul_succ]; omega
theorem WayTo_eq (t : DTable) (n : Str) (s : Int) : i_WayTo t n s = s_WayTo t n s := by
  unfold i_WayTo s_WayTo s_l24Asked i_hasIdx i_isStage
  rw [GoodTable_eq, findIdx_eq, within_eq, wayTo_eq]
  cases s_GoodTable t <;> cases decide (0 ≤ s_l24Idx t n) <;> cases s_l1In s 0 3 <;> rfl
theorem way_len {t : DTable} (h : GoodT t) {n : Str} (hn : 0 ≤ s_l24Idx t n) {s : Int} (hs : 0 ≤ s ∧ s ≤ 3) : 1 ≤ (s_l24Way t n s).length ∧ (s_l24Way t n s).length ≤ 4 := by
  have hk := rf_s_l24Idx t n
  have hk' : (s_l24Idx t n).toNat < t.Idxs.length := by omega
  have h0 := (h.idx _ hk').2.2.2
  unfold stageAt at h0
  unfold s_l24Way
  refine loopW_val (fun (p : List DTable × Int) => 1 ≤ p.1.length ∧ p.1.length + ((s - p.2).toNat + (p.2 - s).toNat) ≤ 4 ∧ 0 ≤ p.2 ∧ p.2 ≤ 3) (fun p => (s - p.2).toNat + (p.2 - s).toNat) (fun (v : List DTable) => 1 ≤ v.length ∧ v.length ≤ 4) ?_ _ _ ⟨Nat.le_refl _, by show 1 + _ ≤ 4; simp only; omega, h0⟩ (Nat.lt_succ_self _)
  rintro ⟨x, a⟩ ⟨h1, h2, h3, h4⟩
  simp only at h1 h2 h3 h4
  unfold B_s_l24Way_0
  simp only
  by_cases e1 : a = s
  · simp only [decide_eq_true e1, cond_true, Out.sat]; omega
  · by_cases e2 : a < s
    · simp only [decide_eq_false e1, decide_eq_true e2, cond_true, cond_false, Out.sat]
      rw [wrap_in (by omega)]
      simp only [List.length_append, List.length_singleton]; omega
    · simp only [decide_eq_false e1, decide_eq_false e2, cond_false, Out.sat]
      rw [wrap_in (by omega)]
      simp only [List.length_append, List.length_singleton]; omega
theorem way_cnt {t : DTable} (h : s_GoodTable t = true) {n : Str} (hn : 0 ≤ s_l24Idx t n) {s : Int} (hs : 0 ≤ s ∧ s ≤ 3) : cntL c_Table (s_l24Way t n s) ≤ 56 := by
  have hg := GoodT.of h
  have h1 := cntL_le (c := c_Table) (m := 14) (xs := s_l24Way t n s) fun x hx => by
    obtain ⟨a, b, c, _⟩ := (SameCols_iff _ _).1 (way_like hg hn hs x hx).same
    have := hg.cols
    have := hg.idxs
    unfold c_Table
    rw [b, c]; omega
  have := way_len hg hn hs
  omega
theorem l27Own_eq (c : DShift) : s_l27Own c = c := by
  unfold s_l27Own
  rw [catE (body := B_s_l27Own_0 c) (xs := c.Ways) d_Table (fun t => [t]) (fun _ _ _ => rfl), List.nil_append, show (c.Ways.map fun t => [t]).flatten = c.Ways from by induction c.Ways with | nil => rfl | cons x xs ih => rw [List.map_cons, List.flatten_cons, ih]; rfl]
  rfl
theorem NewShift_eq (t : DTable) (n : Str) (s v : Int) (l : List DWrite) : i_NewShift t n s v l = s_NewShift t n s v l := by
  unfold i_NewShift s_NewShift
  rw [WayTo_eq, within_eq, l5Rows_eq, l27Own_eq]
  unfold s_WayTo
  cases s_l24Asked t n s <;> rfl
theorem Asked_cnt {t : DTable} {n : Str} {s : Int} (ha : s_l24Asked t n s = true) : cntL c_Table (s_l24Way t n s) ≤ 56 := by
  unfold s_l24Asked at ha
  cases hg : s_GoodTable t <;> rw [hg] at ha
  · cases ha
  · cases hi : decide (0 ≤ s_l24Idx t n) <;> rw [hi] at ha
    · cases ha
    · exact way_cnt hg (of_decide_eq_true hi) (f_l1In ha)
theorem NewShift_cnt (t : DTable) (n : Str) (s v : Int) (l : List DWrite) : cntL c_Table (i_NewShift t n s v l).1.Ways + 1 * (i_NewShift t n s v l).1.At.length + 3 * (i_NewShift t n s v l).1.Store.length ≤ 59 + 3 * l.length := by
  rw [NewShift_eq]
  unfold s_NewShift
  cases ha : s_l24Asked t n s
  · show cntL c_Table [] + 1 * 0 + 3 * 0 ≤ _; simp only [cntL]; omega
  · cases hv : s_l1In v 1 3
    · show cntL c_Table [] + 1 * 0 + 3 * 0 ≤ _; simp only [cntL]; omega
    · cases s_l5Rows l
      · show cntL c_Table [] + 1 * 0 + 3 * 0 ≤ _; simp only [cntL]; omega
      · rw [l27Own_eq]
        have h1 := Asked_cnt ha
        have h2 := f_l1In hv
        show cntL c_Table (s_l24Way t n s) + 1 * (List.replicate v.toNat d_Int).length + 3 * l.length ≤ _
        rw [List.length_replicate]; omega
theorem true_NewShift (t : DTable) (n : Str) (s v : Int) (l : List DWrite) (hw : wf_Table t) (_ : wfS n) (_ : wfI s) (_ : wfI v) (hw2 : (wfL wf_Write) l) : l_FnExactNewShift t n s v l = true := by
  unfold l_FnExactNewShift
  cases h0 : decide (1048576 < (n.length : Int))
  case true => rfl
  cases h1 : decide (l_szTable t 1048576 < 0)
  case true => rfl
  cases h2 : decide (l_szWriteS l (l_szTable t 1048576) < 0)
  case true => rfl
  have hl := szTable_len hw (of_decide_eq_false h1)
  have hz := szok_Table hw (by decide) (of_decide_eq_false h1)
  have hl2 : l.length ≤ 1073741824 := (szok_WriteS hw2 hz.2 (of_decide_eq_false h2)).1.1
  have hc := NewShift_cnt t n s v l
  obtain ⟨_, h3⟩ := mh_Table t 1 (by decide) (by omega)
  obtain ⟨_, h3', _⟩ := mh_WriteS l (l_markTable t 1).1 (by omega) (by omega)
  obtain ⟨h4, h5⟩ := mh_Shift (i_NewShift t n s v l).1 1 (by decide) (by omega)
  simp only [cond_false, eta_markShift, ← NewShift_eq, eq_Table, eq_WriteS, eq_Shift, beq_self_eq_true, cond_true, h4]
  rw [h3', decide_eq_false (by omega), cond_false, h5, decide_eq_false (by omega), cond_false, decide_true]; rfl

end Go.Proofs.Ytdbobbmagmcpnaa
