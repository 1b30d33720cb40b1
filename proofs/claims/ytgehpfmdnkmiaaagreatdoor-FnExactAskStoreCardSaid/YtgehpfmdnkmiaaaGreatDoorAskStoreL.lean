/- Ask Store: plain laws of the models. -/
import Derived.Test.YtgehpfmdnkmiaaaGreatDoorAskStoreT
set_option linter.unusedVariables false
set_option linter.unusedSimpArgs false
namespace Go.Proofs.YtgehpfmdnkmiaaaGreatDoor
open Go.RowKit Go.X
theorem szok_Idx {x : DIdx} {L : Int} (hw : wf_Idx x) (hL : 0 ≤ L ∧ L ≤ 1048576) (h : ¬ l_szIdx x L < 0) : ok_Idx x ∧ 0 ≤ l_szIdx x L ∧ l_szIdx x L ≤ 1048576 := by
  unfold l_szIdx at h ⊢
  obtain ⟨a0, e0, h⟩ := szc h
  rw [e0]
  have s0 := szS_ok hw.1 hL a0
  exact ⟨s0.1, s0.2⟩
theorem to_Idx (x : DIdx) : l_toIdx x = x := rfl
theorem eq_Idx (x : DIdx) : l_eqIdx x x = true := by unfold l_eqIdx; simp only [beq_self_eq_true, cond_true, decide_true]
theorem sze_StringS (x : List Str) (L : Int) : l_szStringS x L = szLL (fun s L => IntKind.wrap .i64 (L - (s.length : Int))) d_Str x L := by
  unfold l_szStringS szLL szL
  have : B_l_szStringS_0 x L = fun k y => bif decide (IntKind.wrap .i64 (y - ((x.getD k d_Str).length : Int)) < 0) then .ret (-1) else .cont (IntKind.wrap .i64 (y - ((x.getD k d_Str).length : Int))) := by
    funext k y; rfl
  rw [this]
theorem szok_StringS {x : List Str} {L : Int} (hw : (wfL wfS) x) (hL : 0 ≤ L ∧ L ≤ 1048576) (h : ¬ l_szStringS x L < 0) : (okL okS) x ∧ 0 ≤ l_szStringS x L ∧ l_szStringS x L ≤ 1048576 := by
  rw [sze_StringS] at h ⊢
  exact szLL_ok d_Str szS_ok hw hL h
theorem to_StringS (x : List Str) : l_toStringS x = x := toL_id d_Str (f := fun s => s) (fun _ => rfl) x
theorem eq_StringS (x : List Str) : l_eqStringS x x = true := eqL_refl d_Str (f := fun a b => a == b) (fun _ => beq_self_eq_true _) x
theorem szok_IdxS {x : List DIdx} {L : Int} (hw : (wfL wf_Idx) x) (hL : 0 ≤ L ∧ L ≤ 1048576) (h : ¬ l_szIdxS x L < 0) : (okL ok_Idx) x ∧ 0 ≤ l_szIdxS x L ∧ l_szIdxS x L ≤ 1048576 := szLL_ok d_Idx (f := l_szIdx) szok_Idx hw hL h
theorem to_IdxS (x : List DIdx) : l_toIdxS x = x := toL_id d_Idx (f := fun s => s) (fun _ => rfl) x
theorem eq_IdxS (x : List DIdx) : l_eqIdxS x x = true := eqL_refl d_Idx (f := l_eqIdx) eq_Idx x
theorem szok_Table {x : DTable} {L : Int} (hw : wf_Table x) (hL : 0 ≤ L ∧ L ≤ 1048576) (h : ¬ l_szTable x L < 0) : ok_Table x ∧ 0 ≤ l_szTable x L ∧ l_szTable x L ≤ 1048576 := by
  unfold l_szTable at h ⊢
  obtain ⟨a0, e0, h⟩ := szc h
  rw [e0]
  have s0 := szS_ok hw.1 hL a0
  obtain ⟨a1, e1, h⟩ := szc h
  rw [e1]
  have s1 := szok_StringS hw.2.1 s0.2 a1
  obtain ⟨a2, e2, h⟩ := szc h
  rw [e2]
  have s2 := szok_IdxS hw.2.2 s1.2 a2
  exact ⟨⟨s0.1, s1.1, s2.1⟩, s2.2⟩
theorem to_Table (x : DTable) : l_toTable x = x := rfl
theorem eq_Table (x : DTable) : l_eqTable x x = true := by unfold l_eqTable; simp only [eq_StringS, eq_IdxS, beq_self_eq_true, cond_true, decide_true]
theorem szok_Write {x : DWrite} {L : Int} (hw : wf_Write x) (hL : 0 ≤ L ∧ L ≤ 1048576) (h : ¬ l_szWrite x L < 0) : ok_Write x ∧ 0 ≤ l_szWrite x L ∧ l_szWrite x L ≤ 1048576 := by
  unfold l_szWrite at h ⊢
  obtain ⟨a0, e0, h⟩ := szc h
  rw [e0]
  have s0 := szS_ok hw.1 hL a0
  obtain ⟨a1, e1, h⟩ := szc h
  rw [e1]
  have s1 := szS_ok hw.2 s0.2 a1
  exact ⟨⟨s0.1, s1.1⟩, s1.2⟩
theorem to_Write (x : DWrite) : l_toWrite x = x := rfl
theorem eq_Write (x : DWrite) : l_eqWrite x x = true := by unfold l_eqWrite; simp only [beq_self_eq_true, cond_true, decide_true]
theorem szok_Row {x : DRow} {L : Int} (hw : wf_Row x) (hL : 0 ≤ L ∧ L ≤ 1048576) (h : ¬ l_szRow x L < 0) : ok_Row x ∧ 0 ≤ l_szRow x L ∧ l_szRow x L ≤ 1048576 := by
  unfold l_szRow at h ⊢
  obtain ⟨a0, e0, h⟩ := szc h
  rw [e0]
  have s0 := szok_StringS hw hL a0
  exact ⟨s0.1, s0.2⟩
theorem to_Row (x : DRow) : l_toRow x = x := rfl
theorem eq_Row (x : DRow) : l_eqRow x x = true := by unfold l_eqRow; simp only [eq_StringS, beq_self_eq_true, cond_true, decide_true]
theorem szok_RowAct {x : DRowAct} {L : Int} (hw : wf_RowAct x) (hL : 0 ≤ L ∧ L ≤ 1048576) (h : ¬ l_szRowAct x L < 0) : ok_RowAct x ∧ 0 ≤ l_szRowAct x L ∧ l_szRowAct x L ≤ 1048576 := by
  unfold l_szRowAct at h ⊢
  obtain ⟨a0, e0, h⟩ := szc h
  rw [e0]
  have s0 := szok_Row hw.2.1 hL a0
  obtain ⟨a1, e1, h⟩ := szc h
  rw [e1]
  have s1 := szok_Row hw.2.2 s0.2 a1
  exact ⟨⟨s0.1, s1.1⟩, s1.2⟩
theorem to_RowAct (x : DRowAct) : l_toRowAct x = x := rfl
theorem eq_RowAct (x : DRowAct) : l_eqRowAct x x = true := by unfold l_eqRowAct; simp only [eq_Row, beq_self_eq_true, cond_true, decide_true]
theorem szok_Stmt {x : DStmt} {L : Int} (hw : wf_Stmt x) (hL : 0 ≤ L ∧ L ≤ 1048576) (h : ¬ l_szStmt x L < 0) : ok_Stmt x ∧ 0 ≤ l_szStmt x L ∧ l_szStmt x L ≤ 1048576 := by
  unfold l_szStmt at h ⊢
  obtain ⟨a0, e0, h⟩ := szc h
  rw [e0]
  have s0 := szok_RowAct hw.2.1 hL a0
  obtain ⟨a1, e1, h⟩ := szc h
  rw [e1]
  have s1 := szS_ok hw.2.2.1 s0.2 a1
  obtain ⟨a2, e2, h⟩ := szc h
  rw [e2]
  have s2 := szS_ok hw.2.2.2.1 s1.2 a2
  obtain ⟨a3, e3, h⟩ := szc h
  rw [e3]
  have s3 := szS_ok hw.2.2.2.2 s2.2 a3
  exact ⟨⟨s0.1, s1.1, s2.1, s3.1⟩, s3.2⟩
theorem to_Stmt (x : DStmt) : l_toStmt x = x := rfl
theorem eq_Stmt (x : DStmt) : l_eqStmt x x = true := by unfold l_eqStmt; simp only [eq_RowAct, beq_self_eq_true, cond_true, decide_true]
theorem szok_WriteS {x : List DWrite} {L : Int} (hw : (wfL wf_Write) x) (hL : 0 ≤ L ∧ L ≤ 1048576) (h : ¬ l_szWriteS x L < 0) : (okL ok_Write) x ∧ 0 ≤ l_szWriteS x L ∧ l_szWriteS x L ≤ 1048576 := szLL_ok d_Write (f := l_szWrite) szok_Write hw hL h
theorem to_WriteS (x : List DWrite) : l_toWriteS x = x := toL_id d_Write (f := fun s => s) (fun _ => rfl) x
theorem eq_WriteS (x : List DWrite) : l_eqWriteS x x = true := eqL_refl d_Write (f := l_eqWrite) eq_Write x
theorem eq_RowS (x : List DRow) : l_eqRowS x x = true := eqL_refl d_Row (f := l_eqRow) eq_Row x
def mk_String (_ : Str) (k : Int) : Int × Str := (IntKind.wrap .i64 (k + 1), l_markText k)
theorem mkc_String (x : Str) (k : Int) (h0 : 0 ≤ k) (h1 : k + ((1 : Nat) : Int) ≤ 4611686018427387904) : (mk_String x k).1 = k + ((1 : Nat) : Int) := by
  unfold mk_String
  simp only [IntKind.wrap_i64]; omega
theorem mark_StringS (a : List Str) (k : Int) : l_markStringS a k = mkL mk_String a k := by
  unfold l_markStringS
  exact markE (d := d_Str) (mk := mk_String) (fun i k xs hi => by unfold B_l_markStringS_0; simp only [List.set_set, getD_set_self hi, mk_String]) a k
theorem held_StringS (a : List Str) (k : Int) (h0 : 0 ≤ k) (h1 : k + (cntL (fun _ => 1) a : Int) ≤ 4611686018427387904) : l_heldStringS (l_markStringS a k).2 k = (l_markStringS a k).1 := by
  rw [mark_StringS]
  unfold l_heldStringS
  exact heldE (d := d_Str) (mk := mk_String) (c := fun _ => 1) a k mkc_String (fun i k x hx _ _ => by unfold B_l_heldStringS_0; simp only [hx, mk_String, eq_self, decide_true, beq_self_eq_true, cond_true]) h0 h1
theorem mh_StringS (a : List Str) (k : Int) (h0 : 0 ≤ k) (h1 : k + (((1 : Nat) * a.length : Nat) : Int) ≤ 4611686018427387904) : l_heldStringS (l_markStringS a k).2 k = (l_markStringS a k).1 ∧ (l_markStringS a k).1 = k + (((1 : Nat) * a.length : Nat) : Int) ∧ (l_markStringS a k).2.length = a.length := by
  rw [← cntL_const] at h1 ⊢
  refine ⟨held_StringS a k h0 h1, ?_, ?_⟩
  · rw [mark_StringS]; exact mkL_cnt mkc_String a k h0 h1
  · rw [mark_StringS]; exact mkL_length _ _ _
theorem rf_markStringS (a : List Str) (k : Int) (h : k ≤ 9223372036854775807) : (l_markStringS a k).1 ≤ 9223372036854775807 := by
  unfold l_markStringS
  refine loopM_val (fun _ (s : Int × List Str) => s.1 ≤ 9223372036854775807) (fun (v : Int × List Str) => v.1 ≤ 9223372036854775807) h (fun s hs => hs) ?_
  rintro j ⟨k, x⟩ _ _ hk
  exact wrap_le _
theorem rf_heldStringS (a : List Str) (k : Int) (h : k ≤ 9223372036854775807) : l_heldStringS a k ≤ 9223372036854775807 := by
  unfold l_heldStringS
  refine loopM_val (fun _ (s : Int) => s ≤ 9223372036854775807) (fun v => v ≤ 9223372036854775807) h (fun s hs => hs) ?_
  intro j k' _ _ hk
  unfold B_l_heldStringS_0
  dsimp only
  cases ((a.getD j d_Str) == l_markText k') <;> first | exact wrap_le _ | exact neg1_le
def c_Row (x : DRow) : Nat := 1 * x.Vals.length
def mk_Row (x : DRow) (k : Int) : Int × DRow := ((l_markStringS x.Vals k).1, ⟨(l_markStringS x.Vals k).2⟩)
theorem mkc_Row (x : DRow) (k : Int) (h0 : 0 ≤ k) (h1 : k + ((c_Row x : Nat) : Int) ≤ 4611686018427387904) : (mk_Row x k).1 = k + ((c_Row x : Nat) : Int) := by
  unfold c_Row at h1 ⊢
  obtain ⟨e0, n0, _⟩ := mh_StringS x.Vals k oM oM
  unfold mk_Row
  simp only [n0] <;> omega
theorem mark_RowS (a : List DRow) (k : Int) : l_markRowS a k = mkL mk_Row a k := by
  unfold l_markRowS
  exact markE (d := d_Row) (mk := mk_Row) (fun i k xs hi => by unfold B_l_markRowS_0; simp only [List.set_set, getD_set_self hi, mk_Row]) a k
theorem held_RowS (a : List DRow) (k : Int) (h0 : 0 ≤ k) (h1 : k + (cntL c_Row a : Int) ≤ 4611686018427387904) : l_heldRowS (l_markRowS a k).2 k = (l_markRowS a k).1 := by
  rw [mark_RowS]
  unfold l_heldRowS
  refine heldE (d := d_Row) (mk := mk_Row) (c := c_Row) a k mkc_Row (fun i k x hx h0 h1 => ?_) h0 h1
  unfold c_Row at h1
  obtain ⟨e0, n0, _⟩ := mh_StringS x.Vals k oM oM
  unfold B_l_heldRowS_0
  simp only [hx, mk_Row]
  simp only [n0, e0, decide_eq_false (show ¬ k + ((1 * x.Vals.length : Nat) : Int) < 0 by omega), eq_self, decide_true, beq_self_eq_true, cond_true, cond_false]
theorem mh_RowS (a : List DRow) (k : Int) (h0 : 0 ≤ k) (h1 : k + ((cntL c_Row a : Nat) : Int) ≤ 4611686018427387904) : l_heldRowS (l_markRowS a k).2 k = (l_markRowS a k).1 ∧ (l_markRowS a k).1 = k + ((cntL c_Row a : Nat) : Int) ∧ (l_markRowS a k).2.length = a.length := by
  refine ⟨held_RowS a k h0 h1, ?_, ?_⟩
  · rw [mark_RowS]; exact mkL_cnt mkc_Row a k h0 h1
  · rw [mark_RowS]; exact mkL_length _ _ _
theorem rf_markRowS (a : List DRow) (k : Int) (h : k ≤ 9223372036854775807) : (l_markRowS a k).1 ≤ 9223372036854775807 := by
  unfold l_markRowS
  refine loopM_val (fun _ (s : Int × List DRow) => s.1 ≤ 9223372036854775807) (fun (v : Int × List DRow) => v.1 ≤ 9223372036854775807) h (fun s hs => hs) ?_
  rintro j ⟨k, x⟩ _ _ hk
  exact (rf_markStringS _ _ hk)
theorem rf_heldRowS (a : List DRow) (k : Int) (h : k ≤ 9223372036854775807) : l_heldRowS a k ≤ 9223372036854775807 := by
  unfold l_heldRowS
  refine loopM_val (fun _ (s : Int) => s ≤ 9223372036854775807) (fun v => v ≤ 9223372036854775807) h (fun s hs => hs) ?_
  intro j k' _ _ hk
  unfold B_l_heldRowS_0
  dsimp only
  cases decide ((l_heldStringS ((a.getD j d_Row).Vals) k') < 0) <;> first | exact neg1_le | exact (rf_heldStringS _ _ hk)
theorem IndexFunc_Idx (xs : List DIdx) (f : DIdx → Bool) : g_slices_IndexFunc_Idx xs f = idxF f d_Idx xs := rfl
theorem IndexFunc_Row (xs : List DRow) (f : DRow → Bool) : g_slices_IndexFunc_Row xs f = idxF f d_Row xs := rfl
theorem ContainsFunc_Write (xs : List DWrite) (f : DWrite → Bool) : g_slices_ContainsFunc_Write xs f = xs.any f := idxF_any f d_Write xs
theorem ContainsFunc_string (xs : List Str) (f : Str → Bool) : g_slices_ContainsFunc_string xs f = xs.any f := idxF_any f d_Str xs
theorem Contains_string (xs : List Str) (y : Str) : g_slices_Contains_string xs y = xs.any (fun x => y == x) := idxF_any _ d_Str xs
def mk_Write (_ : DWrite) (k : Int) : Int × DWrite := (IntKind.wrap .i64 ((IntKind.wrap .i64 ((IntKind.wrap .i64 (k + 1)) + 1)) + 1), ⟨l_markText k, l_markText (IntKind.wrap .i64 (k + 1)), decide (Int.tmod (IntKind.wrap .i64 ((IntKind.wrap .i64 (k + 1)) + 1)) 3 = 0)⟩)
theorem mkc_Write (x : DWrite) (k : Int) (h0 : 0 ≤ k) (h1 : k + ((3 : Nat) : Int) ≤ 4611686018427387904) : (mk_Write x k).1 = k + ((3 : Nat) : Int) := by
  unfold mk_Write
  simp only [IntKind.wrap_i64]; omega
theorem mark_WriteS (a : List DWrite) (k : Int) : l_markWriteS a k = mkL mk_Write a k := by
  unfold l_markWriteS
  exact markE (d := d_Write) (mk := mk_Write) (fun i k xs hi => by unfold B_l_markWriteS_0; simp only [List.set_set, getD_set_self hi, mk_Write]) a k
theorem held_WriteS (a : List DWrite) (k : Int) (h0 : 0 ≤ k) (h1 : k + (cntL (fun _ => 3) a : Int) ≤ 4611686018427387904) : l_heldWriteS (l_markWriteS a k).2 k = (l_markWriteS a k).1 := by
  rw [mark_WriteS]
  unfold l_heldWriteS
  exact heldE (d := d_Write) (mk := mk_Write) (c := fun _ => 3) a k mkc_Write (fun i k x hx _ _ => by unfold B_l_heldWriteS_0; simp only [hx, mk_Write, eq_self, decide_true, beq_self_eq_true, cond_true]) h0 h1
theorem mh_WriteS (a : List DWrite) (k : Int) (h0 : 0 ≤ k) (h1 : k + (((3 : Nat) * a.length : Nat) : Int) ≤ 4611686018427387904) : l_heldWriteS (l_markWriteS a k).2 k = (l_markWriteS a k).1 ∧ (l_markWriteS a k).1 = k + (((3 : Nat) * a.length : Nat) : Int) ∧ (l_markWriteS a k).2.length = a.length := by
  rw [← cntL_const] at h1 ⊢
  refine ⟨held_WriteS a k h0 h1, ?_, ?_⟩
  · rw [mark_WriteS]; exact mkL_cnt mkc_Write a k h0 h1
  · rw [mark_WriteS]; exact mkL_length _ _ _
theorem rf_markWriteS (a : List DWrite) (k : Int) (h : k ≤ 9223372036854775807) : (l_markWriteS a k).1 ≤ 9223372036854775807 := by
  unfold l_markWriteS
  refine loopM_val (fun _ (s : Int × List DWrite) => s.1 ≤ 9223372036854775807) (fun (v : Int × List DWrite) => v.1 ≤ 9223372036854775807) h (fun s hs => hs) ?_
  rintro j ⟨k, x⟩ _ _ hk
  exact wrap_le _
def mk_Idx (_ : DIdx) (k : Int) : Int × DIdx := (IntKind.wrap .i64 ((IntKind.wrap .i64 ((IntKind.wrap .i64 (k + 1)) + 1)) + 1), ⟨l_markText k, IntKind.wrap .i64 (k + 1), IntKind.wrap .i64 ((IntKind.wrap .i64 (k + 1)) + 1)⟩)
theorem mkc_Idx (x : DIdx) (k : Int) (h0 : 0 ≤ k) (h1 : k + ((3 : Nat) : Int) ≤ 4611686018427387904) : (mk_Idx x k).1 = k + ((3 : Nat) : Int) := by
  unfold mk_Idx
  simp only [IntKind.wrap_i64]; omega
theorem mark_IdxS (a : List DIdx) (k : Int) : l_markIdxS a k = mkL mk_Idx a k := by
  unfold l_markIdxS
  exact markE (d := d_Idx) (mk := mk_Idx) (fun i k xs hi => by unfold B_l_markIdxS_0; simp only [List.set_set, getD_set_self hi, mk_Idx]) a k
theorem held_IdxS (a : List DIdx) (k : Int) (h0 : 0 ≤ k) (h1 : k + (cntL (fun _ => 3) a : Int) ≤ 4611686018427387904) : l_heldIdxS (l_markIdxS a k).2 k = (l_markIdxS a k).1 := by
  rw [mark_IdxS]
  unfold l_heldIdxS
  exact heldE (d := d_Idx) (mk := mk_Idx) (c := fun _ => 3) a k mkc_Idx (fun i k x hx _ _ => by unfold B_l_heldIdxS_0; simp only [hx, mk_Idx, eq_self, decide_true, beq_self_eq_true, cond_true]) h0 h1
theorem mh_IdxS (a : List DIdx) (k : Int) (h0 : 0 ≤ k) (h1 : k + (((3 : Nat) * a.length : Nat) : Int) ≤ 4611686018427387904) : l_heldIdxS (l_markIdxS a k).2 k = (l_markIdxS a k).1 ∧ (l_markIdxS a k).1 = k + (((3 : Nat) * a.length : Nat) : Int) ∧ (l_markIdxS a k).2.length = a.length := by
  rw [← cntL_const] at h1 ⊢
  refine ⟨held_IdxS a k h0 h1, ?_, ?_⟩
  · rw [mark_IdxS]; exact mkL_cnt mkc_Idx a k h0 h1
  · rw [mark_IdxS]; exact mkL_length _ _ _
theorem rf_markIdxS (a : List DIdx) (k : Int) (h : k ≤ 9223372036854775807) : (l_markIdxS a k).1 ≤ 9223372036854775807 := by
  unfold l_markIdxS
  refine loopM_val (fun _ (s : Int × List DIdx) => s.1 ≤ 9223372036854775807) (fun (v : Int × List DIdx) => v.1 ≤ 9223372036854775807) h (fun s hs => hs) ?_
  rintro j ⟨k, x⟩ _ _ hk
  exact wrap_le _
theorem mh_Table (a : DTable) (k : Int) (h0 : 0 ≤ k) (h1 : k + ((1 * a.Cols.length + 3 * a.Idxs.length : Nat) : Int) ≤ 4611686018427387904) : l_heldTable (l_markTable a k).2 k = (l_markTable a k).1 ∧ (l_markTable a k).1 = k + ((1 * a.Cols.length + 3 * a.Idxs.length : Nat) : Int) := by
  obtain ⟨e0, n0, _⟩ := mh_StringS a.Cols k oM oM
  obtain ⟨e1, n1, _⟩ := mh_IdxS a.Idxs (k + ((1 * a.Cols.length : Nat) : Int)) oM oM
  have q1 : l_heldTable (l_markTable a k).2 k = (k + ((1 * a.Cols.length : Nat) : Int)) + ((3 * a.Idxs.length : Nat) : Int) := by unfold l_heldTable l_markTable; simp only [e0, n0, e1, n1, decide_eq_false (show ¬ k + ((1 * a.Cols.length : Nat) : Int) < 0 by omega), decide_eq_false (show ¬ (k + ((1 * a.Cols.length : Nat) : Int)) + ((3 * a.Idxs.length : Nat) : Int) < 0 by omega), cond_false]
  have q2 : (l_markTable a k).1 = (k + ((1 * a.Cols.length : Nat) : Int)) + ((3 * a.Idxs.length : Nat) : Int) := by unfold l_markTable; simp only [n0, n1]
  exact ⟨q1.trans q2.symm, q2.trans oM⟩
theorem rf_markTable (a : DTable) (k : Int) (h : k ≤ 9223372036854775807) : (l_markTable a k).1 ≤ 9223372036854775807 := by
  unfold l_markTable
  exact (rf_markIdxS _ _ (rf_markStringS _ _ h))
theorem mh_Row (a : DRow) (k : Int) (h0 : 0 ≤ k) (h1 : k + ((1 * a.Vals.length : Nat) : Int) ≤ 4611686018427387904) : l_heldRow (l_markRow a k).2 k = (l_markRow a k).1 ∧ (l_markRow a k).1 = k + ((1 * a.Vals.length : Nat) : Int) := by
  obtain ⟨e0, n0, _⟩ := mh_StringS a.Vals k oM oM
  have q1 : l_heldRow (l_markRow a k).2 k = k + ((1 * a.Vals.length : Nat) : Int) := by unfold l_heldRow l_markRow; simp only [e0, n0, decide_eq_false (show ¬ k + ((1 * a.Vals.length : Nat) : Int) < 0 by omega), cond_false]
  have q2 : (l_markRow a k).1 = k + ((1 * a.Vals.length : Nat) : Int) := by unfold l_markRow; simp only [n0]
  exact ⟨q1.trans q2.symm, q2.trans oM⟩
theorem rf_markRow (a : DRow) (k : Int) (h : k ≤ 9223372036854775807) : (l_markRow a k).1 ≤ 9223372036854775807 := by
  unfold l_markRow
  exact (rf_markStringS _ _ h)
theorem mh_RowAct (a : DRowAct) (k : Int) (h0 : 0 ≤ k) (h1 : k + ((1 * a.Old.Vals.length + 1 * a.New.Vals.length : Nat) : Int) ≤ 4611686018427387904) : l_heldRowAct (l_markRowAct a k).2 k = (l_markRowAct a k).1 ∧ (l_markRowAct a k).1 = k + ((1 * a.Old.Vals.length + 1 * a.New.Vals.length : Nat) : Int) := by
  obtain ⟨e0, n0⟩ := mh_Row a.Old k oM oM
  obtain ⟨e1, n1⟩ := mh_Row a.New (k + ((1 * a.Old.Vals.length : Nat) : Int)) oM oM
  have z0 : (⟨(l_markRow a.Old k).2.Vals⟩ : DRow) = (l_markRow a.Old k).2 := rfl
  have z1 : (⟨(l_markRow a.New (k + ((1 * a.Old.Vals.length : Nat) : Int))).2.Vals⟩ : DRow) = (l_markRow a.New (k + ((1 * a.Old.Vals.length : Nat) : Int))).2 := rfl
  have q1 : l_heldRowAct (l_markRowAct a k).2 k = (k + ((1 * a.Old.Vals.length : Nat) : Int)) + ((1 * a.New.Vals.length : Nat) : Int) := by unfold l_heldRowAct l_markRowAct; simp only [z0, z1, e0, n0, e1, n1, decide_eq_false (show ¬ k + ((1 * a.Old.Vals.length : Nat) : Int) < 0 by omega), decide_eq_false (show ¬ (k + ((1 * a.Old.Vals.length : Nat) : Int)) + ((1 * a.New.Vals.length : Nat) : Int) < 0 by omega), cond_false]
  have q2 : (l_markRowAct a k).1 = (k + ((1 * a.Old.Vals.length : Nat) : Int)) + ((1 * a.New.Vals.length : Nat) : Int) := by unfold l_markRowAct; simp only [n0, n1]
  exact ⟨q1.trans q2.symm, q2.trans oM⟩
theorem rf_markRowAct (a : DRowAct) (k : Int) (h : k ≤ 9223372036854775807) : (l_markRowAct a k).1 ≤ 9223372036854775807 := by
  unfold l_markRowAct
  exact (rf_markRow _ _ (rf_markRow _ _ h))
theorem mh_Stmt (a : DStmt) (k : Int) (h0 : 0 ≤ k) (h1 : k + ((1 * a.Act.Old.Vals.length + 1 * a.Act.New.Vals.length : Nat) : Int) ≤ 4611686018427387904) : l_heldStmt (l_markStmt a k).2 k = (l_markStmt a k).1 ∧ (l_markStmt a k).1 = k + ((1 * a.Act.Old.Vals.length + 1 * a.Act.New.Vals.length : Nat) : Int) := by
  obtain ⟨e0, n0⟩ := mh_RowAct a.Act k oM oM
  have z0 : (⟨a.Act.Kind, (l_markRowAct a.Act k).2.Old, (l_markRowAct a.Act k).2.New⟩ : DRowAct) = (l_markRowAct a.Act k).2 := rfl
  have q1 : l_heldStmt (l_markStmt a k).2 k = k + ((1 * a.Act.Old.Vals.length + 1 * a.Act.New.Vals.length : Nat) : Int) := by unfold l_heldStmt l_markStmt; simp only [z0, e0, n0, decide_eq_false (show ¬ k + ((1 * a.Act.Old.Vals.length + 1 * a.Act.New.Vals.length : Nat) : Int) < 0 by omega), cond_false]
  have q2 : (l_markStmt a k).1 = k + ((1 * a.Act.Old.Vals.length + 1 * a.Act.New.Vals.length : Nat) : Int) := by unfold l_markStmt; simp only [n0]
  exact ⟨q1.trans q2.symm, q2.trans oM⟩
theorem rf_markStmt (a : DStmt) (k : Int) (h : k ≤ 9223372036854775807) : (l_markStmt a k).1 ≤ 9223372036854775807 := by
  unfold l_markStmt
  exact (rf_markRowAct _ _ h)
theorem within_eq : i_within = s_l1In := rfl
theorem f_l1In {n lo hi : Int} (h : s_l1In n lo hi = true) : lo ≤ n ∧ n ≤ hi := by
  unfold s_l1In at h
  obtain ⟨h1, h2⟩ := of_cond_f h
  exact ⟨of_decide_eq_true h1, of_decide_eq_true h2⟩
theorem f_within {n lo hi : Int} (h : i_within n lo hi = true) : lo ≤ n ∧ n ≤ hi := f_l1In h
theorem indexByte_neg (l : List UInt8) (c : UInt8) : decide (Lib.indexByte l c < 0) = !(l.contains c) := by
  induction l with
  | nil => rfl
  | cons b l ih =>
    have hge := Lib.indexByte_ge l c
    rw [Bool.eq_iff_iff] at ih ⊢
    simp only [decide_eq_true_eq, Bool.not_eq_true', List.contains_cons] at ih ⊢
    unfold Lib.indexByte
    by_cases hb : b = c
    · subst hb; simp
    · have hb1 : (b == c) = false := by simpa using hb
      have hb2 : (c == b) = false := by simpa using fun h => hb h.symm
      rw [hb1, hb2]
      simp only [Bool.false_or, Bool.false_eq_true, if_false]
      split
      · rename_i h
        have : Lib.indexByte l c = -1 := by simpa using h
        rw [← ih]; omega
      · rename_i h
        have : Lib.indexByte l c ≠ -1 := by simpa using h
        constructor
        · intro h; omega
        · intro h; have := ih.2 h; omega
theorem byte_back (b : UInt8) : ((b.toNat : Int)).toNat.toUInt8 = b := by simp
theorem idxB_neg (s : Str) (b : UInt8) : decide (idxB s (b.toNat : Int) < 0) = !(s.contains b) := by
  unfold idxB
  rw [byte_back, indexByte_neg]
def byteOk (more : Str) (b : UInt8) : Bool := i_isLowerOrDigit (b.toNat : Int) || more.contains b
theorem hasBytes_eq (s more : Str) : i_hasBytes s more = s.all (byteOk more) := by
  unfold i_hasBytes
  rw [allE (0 : UInt8) (byteOk more) (r := false) fun k => by
    unfold B_i_hasBytes_0 byteOk g_strings_IndexByte g_internal_stringslite_IndexByte
    rw [idxB_neg]
    cases i_isLowerOrDigit ((s.getD k 0).toNat : Int) <;> cases more.contains (s.getD k 0) <;> rfl]
  cases s.all (byteOk more) <;> rfl
theorem toNat_eq (a b : UInt8) : decide ((a.toNat : Int) = (b.toNat : Int)) = (a == b) := by
  rw [Bool.eq_iff_iff, decide_eq_true_iff, beq_iff_eq]
  constructor
  · intro h; exact UInt8.toNat.inj oM
  · intro h; rw [h]
theorem l3B1 {T : Type} (s more : Str) (k : Nat) (x0 : Bool) (fr : Bool → T) (fd : Bool → T) : loopE (loopM (B_s_l3Bytes_1 s more k) (more.length - 0) 0 x0) fr fd = fd (x0 || more.contains (s.getD k 0)) := by
  rw [orE (0 : UInt8) (fun b => (s.getD k 0) == b) fun j x => by
    unfold B_s_l3Bytes_1
    rw [toNat_eq]
    cases x <;> rfl]
  rw [List.contains_eq_any_beq]
theorem l3Bytes_eq (s more : Str) : s_l3Bytes s more = s.all (byteOk more) := by
  unfold s_l3Bytes
  rw [allE (0 : UInt8) (byteOk more) (r := false) fun k => by
    unfold B_s_l3Bytes_0 byteOk i_isLowerOrDigit
    simp only [l3B1]
    cases decide (97 ≤ ((s.getD k 0).toNat : Int)) <;> cases decide (((s.getD k 0).toNat : Int) ≤ 122) <;> cases decide (48 ≤ ((s.getD k 0).toNat : Int)) <;> cases decide (((s.getD k 0).toNat : Int) ≤ 57) <;> cases more.contains (s.getD k 0) <;> rfl]
  cases s.all (byteOk more) <;> rfl
theorem GoodKey_eq (s : Str) : i_GoodKey s = s_l3Key s := by
  unfold i_GoodKey s_l3Key
  rw [hasBytes_eq, l3Bytes_eq, within_eq]
theorem GoodVal_eq (s : Str) : i_GoodVal s = s_l3Val s := by
  unfold i_GoodVal s_l3Val
  rw [hasBytes_eq, l3Bytes_eq]

theorem writeKeys_eq (l : List DWrite) : i_writeKeys l = l.map (·.Key) := by
  unfold i_writeKeys
  rw [mapE (body := B_i_writeKeys_0 l) (xs := l) d_Write (fun w => w.Key) fun k x _ => rfl]
  rfl
def rising (ks : List Str) (k : Nat) : Bool := bif decide (0 < (k : Int)) then sLt (ks.getD ((IntKind.wrap .i64 ((k : Int) - 1)).toNat) d_Str) (ks.getD k d_Str) else true
theorem areRising_eq (ks : List Str) : i_areRising ks = (List.range ks.length).all fun k => s_l3Key (ks.getD k d_Str) && rising ks k := by
  unfold i_areRising
  rw [loopU (fun k => s_l3Key (ks.getD k d_Str) && rising ks k) (r := false) fun k _ => by
    unfold B_i_areRising_0 rising
    rw [GoodKey_eq, sLe_not]
    cases s_l3Key (ks.getD k d_Str) <;> cases decide (0 < (k : Int)) <;> cases sLt (ks.getD ((IntKind.wrap .i64 ((k : Int) - 1)).toNat) d_Str) (ks.getD k d_Str) <;> rfl]
  cases (List.range ks.length).all fun k => s_l3Key (ks.getD k d_Str) && rising ks k <;> rfl
theorem l3Writes_eq (l : List DWrite) : s_l3Writes l = (((List.range l.length).all fun k => s_l3Write ((l.getD k d_Write).Key) ((l.getD k d_Write).Val) ((l.getD k d_Write).Gone) && rising (l.map (·.Key)) k) && decide ((l.length : Int) ≤ 24)) := by
  have hg : ∀ k, (l.map (·.Key)).getD k d_Str = (l.getD k d_Write).Key := by
    intro k
    simp only [List.getD_eq_getElem?_getD, List.getElem?_map]
    cases l[k]? <;> rfl
  unfold s_l3Writes
  rw [loopU (fun k => s_l3Write ((l.getD k d_Write).Key) ((l.getD k d_Write).Val) ((l.getD k d_Write).Gone) && rising (l.map (·.Key)) k) (r := false) fun k _ => by
    unfold B_s_l3Writes_0 rising
    rw [hg, hg]
    cases s_l3Write ((l.getD k d_Write).Key) ((l.getD k d_Write).Val) ((l.getD k d_Write).Gone) <;> cases decide (0 < (k : Int)) <;> cases sLt (l.getD ((IntKind.wrap .i64 ((k : Int) - 1)).toNat) d_Write).Key (l.getD k d_Write).Key <;> rfl]
  cases ((List.range l.length).all fun k => s_l3Write ((l.getD k d_Write).Key) ((l.getD k d_Write).Val) ((l.getD k d_Write).Gone) && rising (l.map (·.Key)) k) <;> rfl
theorem and_all {α : Type} (l : List α) (p q : α → Bool) : (l.all p && l.all q) = l.all fun x => p x && q x := by
  induction l with
  | nil => rfl
  | cons x l ih =>
    simp only [List.all_cons, ← ih]
    cases p x <;> cases q x <;> cases l.all p <;> rfl
theorem isStored_eq (v : Str) (g : Bool) : i_isStored v g = (s_l3Val v && (!g || v == ([] : Str))) := by
  unfold i_isStored
  rw [GoodVal_eq]
  cases s_l3Val v <;> cases g <;> cases (v == ([] : Str)) <;> rfl
theorem l3Write_eq (k v : Str) (g : Bool) : s_l3Write k v g = (s_l3Key k && i_isStored v g) := by
  rw [isStored_eq]
  unfold s_l3Write
  cases s_l3Key k <;> cases s_l3Val v <;> cases g <;> cases (v == ([] : Str)) <;> rfl
theorem GoodWrites_eq (l : List DWrite) : i_GoodWrites l = s_l3Writes l := by
  have hg : ∀ k, (l.map (·.Key)).getD k d_Str = (l.getD k d_Write).Key := by
    intro k
    simp only [List.getD_eq_getElem?_getD, List.getElem?_map]
    cases l[k]? <;> rfl
  unfold i_GoodWrites
  rw [writeKeys_eq, areRising_eq, l3Writes_eq, ContainsFunc_Write, List.length_map]
  have h1 : (!(l.any fun y => i_GoodWrites_c1 y)) = (List.range l.length).all fun k => i_isStored (l.getD k d_Write).Val (l.getD k d_Write).Gone := by
    rw [List.not_any_eq_all_not, ← range_all d_Write]
    unfold i_GoodWrites_c1
    simp only [Bool.not_not]
  rw [h1]
  have h2 : ((List.range l.length).all fun k => s_l3Write ((l.getD k d_Write).Key) ((l.getD k d_Write).Val) ((l.getD k d_Write).Gone) && rising (l.map (·.Key)) k) = (((List.range l.length).all fun k => s_l3Key ((l.map (·.Key)).getD k d_Str) && rising (l.map (·.Key)) k) && (List.range l.length).all fun k => i_isStored (l.getD k d_Write).Val (l.getD k d_Write).Gone) := by
    rw [and_all]
    congr 1; funext k
    rw [l3Write_eq, hg]
    cases s_l3Key (l.getD k d_Write).Key <;> cases i_isStored (l.getD k d_Write).Val (l.getD k d_Write).Gone <;> cases rising (l.map (·.Key)) k <;> rfl
  rw [h2]
  cases decide ((l.length : Int) ≤ 24) <;> cases ((List.range l.length).all fun k => s_l3Key ((l.map (·.Key)).getD k d_Str) && rising (l.map (·.Key)) k) <;> cases ((List.range l.length).all fun k => i_isStored (l.getD k d_Write).Val (l.getD k d_Write).Gone) <;> rfl
theorem isRows_eq (l : List DWrite) : i_isRows l = (s_l3Writes l && l.all fun w => !w.Gone) := by
  unfold i_isRows
  rw [GoodWrites_eq, ContainsFunc_Write, List.not_any_eq_all_not]
  cases s_l3Writes l <;> rfl
theorem letters_eq : i_areLetters = s_l24Letters := by
  funext s m
  unfold i_areLetters s_l24Letters
  rfl
theorem isField_eq (s : Str) : i_isField s = s_l25Field s := by
  unfold i_isField s_l25Field
  rw [hasBytes_eq, l3Bytes_eq, within_eq]
theorem l25Good_eq (t : DTable) (r : DRow) : s_l25Good t r = (r.Vals.all s_l25Field && decide ((r.Vals.length : Int) = (t.Cols.length : Int))) := by
  unfold s_l25Good
  rw [allE d_Str s_l25Field (r := false) fun k => rfl]
  cases r.Vals.all s_l25Field <;> rfl
theorem isRow_eq (t : DTable) (r : DRow) : i_Table_isRow t r = s_l25Good t r := by
  rw [l25Good_eq]
  unfold i_Table_isRow
  rw [ContainsFunc_string, List.not_any_eq_all_not]
  unfold i_Table_isRow_c1
  simp only [Bool.not_not, isField_eq]
  cases decide ((r.Vals.length : Int) = (t.Cols.length : Int)) <;> cases (r.Vals.all fun x => s_l25Field x) <;> rfl
theorem l24At_neg (l : List Str) (s : Str) : decide (0 ≤ s_l24At l s) = l.any fun x => x == s := by
  have : s_l24At l s = idxF (fun x => x == s) d_Str l := rfl
  rw [this, idxF_any]
def colOk (l : List Str) (k : Nat) : Bool := s_l24Letters (l.getD k d_Str) 3 && !((l.take k).any fun x => x == l.getD k d_Str)
theorem l24Cols_eq (l : List Str) : s_l24Cols l = ((List.range l.length).all (colOk l) && s_l1In (l.length : Int) 2 4) := by
  unfold s_l24Cols
  rw [loopU (colOk l) (r := false) fun k _ => by
    unfold B_s_l24Cols_0 colOk
    rw [l24At_neg]
    cases s_l24Letters (l.getD k d_Str) 3 <;> cases ((l.take k).any fun x => x == l.getD k d_Str) <;> rfl]
  cases (List.range l.length).all (colOk l) <;> rfl
theorem GoodTable_eq (t : DTable) : i_GoodTable t = s_GoodTable t := by
  unfold i_GoodTable s_GoodTable
  rw [l24Cols_eq, letters_eq, within_eq]
  rw [loopU (colOk t.Cols) (r := false) fun k _ => by
    unfold B_i_GoodTable_0 colOk
    rw [Contains_string, letters_eq]
    rw [show ((t.Cols.take k).any fun x => t.Cols.getD k d_Str == x) = ((t.Cols.take k).any fun x => x == t.Cols.getD k d_Str) by congr 1; funext x; rw [Bool.beq_comm]]
    cases s_l24Letters (t.Cols.getD k d_Str) 3 <;> cases ((t.Cols.take k).any fun x => x == t.Cols.getD k d_Str) <;> rfl]
  have hb : B_i_GoodTable_1 t = B_s_GoodTable_0 t := by
    funext k u
    unfold B_i_GoodTable_1 B_s_GoodTable_0 i_isStage
    rw [letters_eq, within_eq, sLe_not]
    cases s_l24Letters ((t.Idxs.getD k d_Idx).Name) 1 <;> cases s_l1In ((t.Idxs.getD k d_Idx).Col) 1 (IntKind.wrap .i64 ((t.Cols.length : Int) - 1)) <;> cases s_l1In ((t.Idxs.getD k d_Idx).Stage) 0 3 <;> cases decide (0 < (k : Int)) <;> cases sLt ((t.Idxs.getD ((IntKind.wrap .i64 ((k : Int) - 1)).toNat) d_Idx).Name) ((t.Idxs.getD k d_Idx).Name) <;> rfl
  rw [hb]
  cases s_l24Letters t.Name 1 <;> cases s_l1In (t.Cols.length : Int) 2 4 <;> cases decide (3 < (t.Idxs.length : Int)) <;> cases (List.range t.Cols.length).all (colOk t.Cols) <;> rfl
theorem f_s_GoodTable {t : DTable} (h : s_GoodTable t = true) : 2 ≤ (t.Cols.length : Int) ∧ (t.Cols.length : Int) ≤ 4 ∧ (t.Idxs.length : Int) ≤ 3 := by
  unfold s_GoodTable at h
  obtain ⟨_, h⟩ := of_cond_f h
  obtain ⟨h1, h⟩ := of_cond_f h
  rw [l24Cols_eq, Bool.and_eq_true] at h1
  have h2 := f_l1In h1.2
  refine ⟨h2.1, h2.2, ?_⟩
  cases h3 : decide (3 < (t.Idxs.length : Int))
  · have := of_decide_eq_false h3; omega
  · rw [h3] at h; cases h
theorem f_i_GoodTable {t : DTable} (h : i_GoodTable t = true) : 2 ≤ (t.Cols.length : Int) ∧ (t.Cols.length : Int) ≤ 4 ∧ (t.Idxs.length : Int) ≤ 3 := f_s_GoodTable (GoodTable_eq t ▸ h)
theorem f_s_l25Good' {t : DTable} {r : DRow} (h : s_l25Good t r = true) : r.Vals.length = t.Cols.length := by
  rw [l25Good_eq, Bool.and_eq_true] at h
  have := of_decide_eq_true h.2
  omega
theorem isRowAct_eq (t : DTable) (a : DRowAct) : i_Table_isRowAct t a = s_l26Good t a := by
  unfold i_Table_isRowAct s_l26Good
  simp only [isRow_eq]
  cases decide (a.Kind = 1) <;> cases decide (a.Kind = 2) <;> cases decide (a.Kind = 3) <;> cases s_l25Good t a.Old <;> cases decide ((a.New.Vals.length : Int) = 0) <;> rfl
theorem findIdx_eq (t : DTable) (s : Str) : i_Table_findIdx t s = s_l24Idx t s := by
  unfold i_Table_findIdx
  rw [IndexFunc_Idx]
  rfl
theorem isBare_eq (a : DRowAct) : i_isBare a = s_l27Empty a := by
  unfold i_isBare s_l27Empty
  cases decide (a.Kind = 0) <;> cases decide ((a.Old.Vals.length : Int) = 0) <;> cases decide ((a.New.Vals.length : Int) = 0) <;> rfl
theorem isStmt_eq (t : DTable) (s : DStmt) : i_Table_isStmt t s = s_l30Good t s := by
  unfold i_Table_isStmt s_l30Good
  simp only [isRowAct_eq, isBare_eq, isField_eq, findIdx_eq]
theorem GoodStmt_eq (t : DTable) (s : DStmt) : i_GoodStmt t s = s_GoodStmt t s := by
  unfold i_GoodStmt s_GoodStmt
  rw [GoodTable_eq, isStmt_eq]
theorem l24Idx_idxF (t : DTable) (n : Str) : s_l24Idx t n = idxF (fun y => i_Table_findIdx_c1 y n) d_Idx t.Idxs := rfl
theorem l24Idx_spec (t : DTable) (n : Str) : (s_l24Idx t n = -1 ∧ ∀ x ∈ t.Idxs, x.Name ≠ n) ∨ ∃ (k : Nat) (_ : k < t.Idxs.length), s_l24Idx t n = (k : Int) ∧ (t.Idxs.getD k d_Idx).Name = n ∧ ∀ j, j < k → (t.Idxs.getD j d_Idx).Name ≠ n := by
  rw [l24Idx_idxF]
  rcases idxF_spec (fun y => i_Table_findIdx_c1 y n) d_Idx t.Idxs with ⟨h1, h2⟩ | ⟨k, hk, h1, h2, h3⟩
  · exact .inl ⟨h1, fun x hx e => by have := h2 x hx; unfold i_Table_findIdx_c1 at this; rw [e, beq_self_eq_true] at this; cases this⟩
  · refine .inr ⟨k, hk, h1, ?_, fun j hj e => ?_⟩
    · rw [getD_eq hk]; unfold i_Table_findIdx_c1 at h2; exact eq_of_beq h2
    · have := h3 j hj; rw [getD_eq oM] at e; unfold i_Table_findIdx_c1 at this; rw [e, beq_self_eq_true] at this; cases this
theorem rf_s_l24Idx (t : DTable) (n : Str) : -1 ≤ s_l24Idx t n ∧ s_l24Idx t n < (t.Idxs.length : Int) := by
  rcases l24Idx_spec t n with ⟨h, _⟩ | ⟨k, hk, h, _⟩ <;> omega
theorem rf_i_findIdx (t : DTable) (n : Str) : -1 ≤ i_Table_findIdx t n ∧ i_Table_findIdx t n < (t.Idxs.length : Int) := by rw [findIdx_eq]; exact rf_s_l24Idx t n
def idxOk (t : DTable) (k : Nat) : Bool := s_l24Letters (t.Idxs.getD k d_Idx).Name 1 && s_l1In (t.Idxs.getD k d_Idx).Col 1 (IntKind.wrap .i64 ((t.Cols.length : Int) - 1)) && s_l1In (t.Idxs.getD k d_Idx).Stage 0 3 && bif decide (0 < (k : Int)) then sLt (t.Idxs.getD ((IntKind.wrap .i64 ((k : Int) - 1)).toNat) d_Idx).Name (t.Idxs.getD k d_Idx).Name else true
theorem s_GoodTable_eq (t : DTable) : s_GoodTable t = (s_l24Letters t.Name 1 && s_l24Cols t.Cols && decide (t.Idxs.length ≤ 3) && (List.range t.Idxs.length).all (idxOk t)) := by
  unfold s_GoodTable
  rw [loopU (idxOk t) (r := false) fun k _ => by
    unfold B_s_GoodTable_0 idxOk
    cases s_l24Letters (t.Idxs.getD k d_Idx).Name 1 <;> cases s_l1In (t.Idxs.getD k d_Idx).Col 1 (IntKind.wrap .i64 ((t.Cols.length : Int) - 1)) <;> cases s_l1In (t.Idxs.getD k d_Idx).Stage 0 3 <;> cases decide (0 < (k : Int)) <;> cases sLt (t.Idxs.getD ((IntKind.wrap .i64 ((k : Int) - 1)).toNat) d_Idx).Name (t.Idxs.getD k d_Idx).Name <;> rfl]
  have e : decide (t.Idxs.length ≤ 3) = !decide (3 < (t.Idxs.length : Int)) := by
    by_cases h : t.Idxs.length ≤ 3
    · rw [decide_eq_true h, decide_eq_false oM]; rfl
    · rw [decide_eq_false h, decide_eq_true oM]; rfl
  rw [e]
  cases s_l24Letters t.Name 1 <;> cases s_l24Cols t.Cols <;> cases decide (3 < (t.Idxs.length : Int)) <;> cases (List.range t.Idxs.length).all (idxOk t) <;> rfl
def letter (b : UInt8) : Bool := !decide ((b.toNat : Int) < 97) && !decide (122 < (b.toNat : Int))
theorem l24Letters_eq (s : Str) (m : Int) : s_l24Letters s m = (s.all letter && decide (1 ≤ (s.length : Int)) && decide ((s.length : Int) ≤ m)) := by
  unfold s_l24Letters
  rw [allE (0 : UInt8) letter (r := false) fun k => by
    unfold B_s_l24Letters_0 letter
    cases decide (((s.getD k 0).toNat : Int) < 97) <;> cases decide (122 < ((s.getD k 0).toNat : Int)) <;> rfl]
  cases s.all letter <;> cases decide (1 ≤ (s.length : Int)) <;> rfl
theorem letters_len {s : Str} {m : Int} (h : s_l24Letters s m = true) : 1 ≤ (s.length : Int) ∧ (s.length : Int) ≤ m := by
  rw [l24Letters_eq] at h
  simp only [Bool.and_eq_true, decide_eq_true_eq] at h
  exact ⟨h.1.2, h.2⟩
structure GoodT (t : DTable) : Prop where
  name : t.Name.length = 1
  cols : 2 ≤ t.Cols.length ∧ t.Cols.length ≤ 4
  idxs : t.Idxs.length ≤ 3
  idx : ∀ k, k < t.Idxs.length → (t.Idxs.getD k d_Idx).Name.length = 1 ∧ 1 ≤ (t.Idxs.getD k d_Idx).Col ∧ (t.Idxs.getD k d_Idx).Col < (t.Cols.length : Int) ∧ 0 ≤ (t.Idxs.getD k d_Idx).Stage ∧ (t.Idxs.getD k d_Idx).Stage ≤ 3
  rise : ∀ k, k + 1 < t.Idxs.length → (t.Idxs.getD k d_Idx).Name < (t.Idxs.getD (k + 1) d_Idx).Name
theorem GoodT.of {t : DTable} (h : s_GoodTable t = true) : GoodT t := by
  have hf := f_s_GoodTable h
  rw [s_GoodTable_eq] at h
  simp only [Bool.and_eq_true, decide_eq_true_eq, List.all_eq_true, List.mem_range] at h
  obtain ⟨⟨⟨h1, h2⟩, h3⟩, h4⟩ := h
  have h5 : ∀ k, k < t.Idxs.length → _ := fun k hk => h4 k hk
  unfold idxOk at h5
  simp only [Bool.and_eq_true] at h5
  refine ⟨by have := letters_len h1; omega, oM, h3, fun k hk => ?_, fun k hk => ?_⟩
  · obtain ⟨⟨⟨a, b⟩, c⟩, d⟩ := h5 k hk
    have a := letters_len a
    have b := f_l1In b
    have c := f_l1In c
    rw [wrap_in oM] at b
    omega
  · have d := (h5 (k + 1) hk).2
    rw [wrap_in oM, decide_eq_true (show 0 < ((k + 1 : Nat) : Int) by omega)] at d
    have e : (((k + 1 : Nat) : Int) - 1).toNat = k := by omega
    rw [e] at d
    exact (sLt_iff _ _).1 d
theorem f_i_hasIdx' {t : DTable} {n : Str} (h : i_hasIdx t n = true) : (2 ≤ (t.Cols.length : Int) ∧ (t.Cols.length : Int) ≤ 4 ∧ (t.Idxs.length : Int) ≤ 3) ∧ (0 ≤ i_Table_findIdx t n ∧ i_Table_findIdx t n < (t.Idxs.length : Int)) ∧ 1 ≤ (i_Table_idx t n).Col ∧ (i_Table_idx t n).Col < (t.Cols.length : Int) := by
  unfold i_hasIdx at h
  obtain ⟨h1, h2⟩ := of_cond_f h
  have h2 := of_decide_eq_true h2
  have h3 := rf_i_findIdx t n
  rw [GoodTable_eq] at h1
  have hg := GoodT.of h1
  refine ⟨f_s_GoodTable h1, ⟨h2, h3.2⟩, ?_⟩
  unfold i_Table_idx
  have := hg.idx (i_Table_findIdx t n).toNat oM
  omega
theorem f_s_IdxAt' {t : DTable} {n : Str} (h : (s_IdxAt t n).2 = true) : (2 ≤ (t.Cols.length : Int) ∧ (t.Cols.length : Int) ≤ 4 ∧ (t.Idxs.length : Int) ≤ 3) ∧ (0 ≤ s_l24Idx t n ∧ s_l24Idx t n < (t.Idxs.length : Int)) ∧ 1 ≤ (s_IdxAt t n).1.Col ∧ (s_IdxAt t n).1.Col < (t.Cols.length : Int) := by
  unfold s_IdxAt at h ⊢
  cases h1 : s_GoodTable t
  · rw [h1] at h; cases h
  · rw [h1] at h
    simp only [cond_true] at h ⊢
    cases h2 : decide (s_l24Idx t n < 0)
    · simp only [cond_false]
      have h2 := of_decide_eq_false h2
      have h3 := rf_s_l24Idx t n
      have := (GoodT.of h1).idx (s_l24Idx t n).toNat oM
      exact ⟨f_s_GoodTable h1, ⟨by omega, h3.2⟩, by omega⟩
    · rw [h2] at h; cases h
theorem hasIdx_eq (t : DTable) (n : Str) : i_hasIdx t n = (s_IdxAt t n).2 := by
  unfold i_hasIdx s_IdxAt
  rw [GoodTable_eq, findIdx_eq]
  cases s_GoodTable t
  · rfl
  · simp only [cond_true]
    by_cases h : s_l24Idx t n < 0
    · rw [decide_eq_true h, decide_eq_false (show ¬ 0 ≤ s_l24Idx t n by omega)]; rfl
    · rw [decide_eq_false h, decide_eq_true (show 0 ≤ s_l24Idx t n by omega)]; rfl
theorem IdxAt_fst {t : DTable} {n : Str} (h : (s_IdxAt t n).2 = true) : (s_IdxAt t n).1 = i_Table_idx t n ∧ (i_Table_idx t n).Name = n := by
  have hf := f_s_IdxAt' h
  unfold s_IdxAt at h ⊢
  unfold i_Table_idx
  cases h1 : s_GoodTable t
  · rw [h1] at h; cases h
  · simp only [cond_true]
    rw [decide_eq_false (show ¬ s_l24Idx t n < 0 by omega), findIdx_eq]
    refine ⟨rfl, ?_⟩
    rcases l24Idx_spec t n with ⟨h, _⟩ | ⟨k, hk, h, h', _⟩
    · omega
    · rw [h]; exact h'
theorem rf_idxHead (t : DTable) (n : Str) : (i_Table_idxHead t n).length = t.Name.length + n.length + 2 := by
  unfold i_Table_idxHead
  simp only [lN]; omega
def rowShort (r : DRow) : Prop := ∀ v ∈ r.Vals, v.length ≤ 3
theorem rowShort.getD {r : DRow} (h : rowShort r) (k : Nat) : (r.Vals.getD k d_Str).length ≤ 3 := by
  rcases Nat.lt_or_ge k r.Vals.length with hk | hk
  · exact h _ (getD_mem hk)
  · rw [List.getD_eq_getElem?_getD, List.getElem?_eq_none hk]; exact Nat.zero_le _
theorem field_len {s : Str} (h : s_l25Field s = true) : 1 ≤ (s.length : Int) ∧ (s.length : Int) ≤ 3 := by
  unfold s_l25Field at h
  exact f_l1In (of_cond_f h).1
theorem f_s_l25Good {t : DTable} {r : DRow} (h : s_l25Good t r = true) : r.Vals.length = t.Cols.length ∧ rowShort r := by
  refine ⟨f_s_l25Good' h, fun v hv => ?_⟩
  rw [l25Good_eq, Bool.and_eq_true] at h
  have := field_len (List.all_eq_true.1 h.1 v hv)
  omega
theorem f_i_isRow {t : DTable} {r : DRow} (h : i_Table_isRow t r = true) : r.Vals.length = t.Cols.length ∧ rowShort r := f_s_l25Good (isRow_eq t r ▸ h)
theorem f_i_hasIdx {t : DTable} {n : Str} (h : i_hasIdx t n = true) : (2 ≤ (t.Cols.length : Int) ∧ (t.Cols.length : Int) ≤ 4 ∧ (t.Idxs.length : Int) ≤ 3) ∧ (0 ≤ i_Table_findIdx t n ∧ i_Table_findIdx t n < (t.Idxs.length : Int)) ∧ 1 ≤ (i_Table_idx t n).Col ∧ (i_Table_idx t n).Col < (t.Cols.length : Int) ∧ 0 ≤ (i_Table_idx t n).Stage ∧ (i_Table_idx t n).Stage ≤ 3 ∧ t.Name.length = 1 ∧ n.length = 1 := by
  have h0 := f_i_hasIdx' h
  unfold i_hasIdx at h
  obtain ⟨h1, h2⟩ := of_cond_f h
  rw [GoodTable_eq] at h1
  have hg := GoodT.of h1
  have h3 := IdxAt_fst (t := t) (n := n) (by unfold s_IdxAt; rw [h1, cond_true, decide_eq_false (by have := of_decide_eq_true h2; rw [findIdx_eq] at this; omega)]; rfl)
  refine ⟨h0.1, h0.2.1, h0.2.2.1, h0.2.2.2, ?_⟩
  have h4 := hg.idx (i_Table_findIdx t n).toNat oM
  have h5 : (t.Idxs.getD (i_Table_findIdx t n).toNat d_Idx).Name = n := h3.2
  rw [h5] at h4
  unfold i_Table_idx
  exact ⟨h4.2.2.2.1, h4.2.2.2.2, hg.name, h4.1⟩
theorem idx_eq (t : DTable) (n : Str) : i_Table_idx t n = t.Idxs.getD (s_l24Idx t n).toNat d_Idx := by unfold i_Table_idx; rw [findIdx_eq]
theorem l5Rows_eq (l : List DWrite) : s_l5Rows l = i_isRows l := by
  rw [isRows_eq]
  unfold s_l5Rows
  rw [allE d_Write (fun w => !w.Gone) (r := false) fun k => by
    unfold B_s_l5Rows_0
    cases (l.getD k d_Write).Gone <;> rfl]
  cases s_l3Writes l <;> cases (l.all fun w => !w.Gone) <;> rfl
theorem hasIdx_iff (t : DTable) (n : Str) : i_hasIdx t n = true ↔ s_GoodTable t = true ∧ 0 ≤ s_l24Idx t n := by
  unfold i_hasIdx
  rw [GoodTable_eq, findIdx_eq]
  constructor
  · intro h
    obtain ⟨h1, h2⟩ := of_cond_f h
    exact ⟨h1, of_decide_eq_true h2⟩
  · rintro ⟨h1, h2⟩
    rw [h1, decide_eq_true h2]; rfl
theorem szTable_len {t : DTable} (hw : wf_Table t) (h : ¬ l_szTable t 1048576 < 0) : t.Cols.length ≤ 2147483648 ∧ t.Idxs.length ≤ 2147483648 := by
  have := (szok_Table hw (by decide) h).1
  exact ⟨this.2.1.1, this.2.2.1⟩
theorem l3Key_len {s : Str} (h : s_l3Key s = true) : s.length ≤ 12 := by
  unfold s_l3Key at h
  have := f_l1In (of_cond_f h).1
  omega
theorem l3Val_len {s : Str} (h : s_l3Val s = true) : s.length ≤ 24 := by
  unfold s_l3Val at h
  have := of_decide_eq_true (of_cond_f h).1
  omega
theorem l3Write_len {k v : Str} {g : Bool} (h : s_l3Write k v g = true) : k.length ≤ 12 ∧ v.length ≤ 24 := by
  rw [l3Write_eq, isStored_eq] at h
  simp only [Bool.and_eq_true] at h
  exact ⟨l3Key_len h.1, l3Val_len h.2.1⟩
theorem f_l3Writes {l : List DWrite} (h : s_l3Writes l = true) : l.length ≤ 24 ∧ ∀ k, k < l.length → (l.getD k d_Write).Key.length ≤ 12 ∧ (l.getD k d_Write).Val.length ≤ 24 := by
  rw [l3Writes_eq, Bool.and_eq_true, decide_eq_true_eq] at h
  refine ⟨by omega, fun k hk => ?_⟩
  have := List.all_eq_true.1 h.1 k (List.mem_range.2 hk)
  rw [Bool.and_eq_true] at this
  exact l3Write_len this.1
theorem Index_one (s : Str) (c : UInt8) : g_internal_stringslite_Index s [c] = Lib.indexByte s c := by
  unfold g_internal_stringslite_Index g_internal_stringslite_IndexByte idxB
  have h : ((([c] : Str).getD 0 0).toNat : Int).toNat.toUInt8 = c := by simp
  rw [h]
  cases hc : ([c] : Str) == s
  · rfl
  · have : s = [c] := (eq_of_beq hc).symm
    subst this
    simp [Lib.indexByte]
theorem rf_Index {s sub : Str} (h : sub.length = 1) : -1 ≤ g_internal_stringslite_Index s sub ∧ g_internal_stringslite_Index s sub ≤ (s.length : Int) - 1 := by
  match sub, h with
  | [c], _ =>
    rw [Index_one]
    rcases indexByte_split c s with ⟨_, h2⟩ | ⟨a, r, h1, _, h3⟩
    · rw [h2]; omega
    · rw [h3, h1]; simp only [List.length_append, List.length_cons]; omega
theorem f_Cut {s sub : Str} (o : okS s) (h : sub.length = 1) (hd : decide (0 ≤ g_internal_stringslite_Index s sub) = true) : 0 ≤ IntKind.wrap .i64 ((g_internal_stringslite_Index s sub) + (sub.length : Int)) ∧ IntKind.wrap .i64 ((g_internal_stringslite_Index s sub) + (sub.length : Int)) ≤ (s.length : Int) := by
  have h1 := of_decide_eq_true hd
  have h2 := rf_Index (s := s) h
  unfold okS at o
  rw [h, wrap_in oM]
  omega
theorem f_HasPrefix {s p : Str} (h : g_internal_stringslite_HasPrefix s p = true) : p.length ≤ s.length := by
  unfold g_internal_stringslite_HasPrefix at h
  have := of_decide_eq_true (of_cond_f h).1
  omega
theorem okS_idxHead {t : DTable} {n : Str} (h : t.Name.length ≤ 1 ∧ n.length ≤ 1) : okS (i_Table_idxHead t n) := by
  have := rf_idxHead t n
  unfold okS; omega
theorem okS_l1Split {s : Str} (h : okS s) (b : Int) (i : Nat) : okS ((s_l1Split s b).getD i d_Str) := by
  have hh : ∀ x ∈ s_l1Split s b, okS x := by
    unfold s_l1Split
    refine loopM_val (fun _ (p : List Str × Int) => ∀ x ∈ p.1, okS x) (fun (v : List Str) => ∀ x ∈ v, okS x) (fun _ h => by cases h) ?_ ?_
    · rintro ⟨x, a⟩ hx y hy
      rcases List.mem_append.1 hy with hy | hy
      · exact hx y hy
      · rw [List.mem_singleton.1 hy]; exact h.drop _
    · rintro j ⟨x, a⟩ _ _ hx
      unfold B_s_l1Split_0
      dsimp only
      cases decide (((s.getD j 0).toNat : Int) = b)
      · exact hx
      · intro y hy
        rcases List.mem_append.1 hy with hy | hy
        · exact hx y hy
        · rw [List.mem_singleton.1 hy]; exact (h.take _).drop _
  rw [List.getD_eq_getElem?_getD]
  cases h1 : (s_l1Split s b)[i]? with
  | none => exact ok_d_Str
  | some x => exact hh x (List.mem_of_getElem? h1)

theorem l1Split_sp (s : Str) (b : UInt8) : s_l1Split s (b.toNat : Int) = sp b s := by
  unfold s_l1Split
  refine loopM_val (fun k (p : List Str × Int) => 0 ≤ p.2 ∧ p.2.toNat ≤ k ∧ b ∉ (s.take k).drop p.2.toNat ∧ p.1 ++ sp b (s.drop p.2.toNat) = sp b s) (fun (v : List Str) => v = sp b s) ⟨by omega, by simp, by simp, by simp⟩ ?_ ?_
  · rintro ⟨x, a⟩ ⟨h1, h2, h3, h4⟩
    dsimp only at h1 h2 h3 h4 ⊢
    rw [show s.take (0 + (s.length - 0)) = s from by rw [List.take_of_length_le oM]] at h3
    rw [sp_none h3] at h4
    exact h4
  · rintro j ⟨x, a⟩ _ hj ⟨h1, h2, h3, h4⟩
    have hj' : j < s.length := by omega
    unfold B_s_l1Split_0
    dsimp only at h1 h2 h3 h4 ⊢
    have ht : (s.take (j + 1)).drop a.toNat = (s.take j).drop a.toNat ++ [s.getD j 0] := by
      rw [getD_eq hj', List.take_succ_eq_append_getElem hj', List.drop_append_of_le_length (by rw [List.length_take]; omega)]
    have hd : s.drop a.toNat = (s.take j).drop a.toNat ++ s.getD j 0 :: s.drop (j + 1) := by
      conv => lhs; rw [← List.take_append_drop j s]
      rw [List.drop_append_of_le_length (by rw [List.length_take]; omega), getD_eq hj', List.drop_eq_getElem_cons hj']
    rw [toNat_eq]
    cases hc : s.getD j 0 == b
    · refine ⟨h1, oM, ?_, h4⟩
      rw [ht]
      intro hm
      rcases List.mem_append.1 hm with hm | hm
      · exact h3 hm
      · rw [← List.mem_singleton.1 hm] at hc; simp at hc
    · have hb : s.getD j 0 = b := eq_of_beq hc
      refine ⟨by omega, by simp, by simp, ?_⟩
      rw [hd, hb, sp_some h3] at h4
      rw [← h4, List.append_assoc]
      show x ++ ([_] ++ sp b (s.drop _)) = _
      rw [show (((j + 1 : Nat) : Int)).toNat = j + 1 from by simp]
      rfl
theorem Cut_none {s : Str} {c : UInt8} (h : c ∉ s) : (g_strings_Cut s [c]).2.2 = false := by
  have h1 : g_internal_stringslite_Index s [c] = -1 := by
    rw [Index_one]
    rcases indexByte_split c s with ⟨_, h2⟩ | ⟨a, r, h2, _, _⟩
    · exact h2
    · rw [h2] at h; simp at h
  unfold g_strings_Cut g_internal_stringslite_Cut
  rw [h1]; rfl
theorem Cut_some {a r : Str} {c : UInt8} (h : c ∉ a) (hl : a.length ≤ 1073741824) : g_strings_Cut (a ++ c :: r) [c] = (a, r, true) := by
  have h1 : g_internal_stringslite_Index (a ++ c :: r) [c] = (a.length : Int) := by
    rw [Index_one]
    rcases indexByte_split c (a ++ c :: r) with ⟨h2, _⟩ | ⟨a', r', h2, h3, h4⟩
    · simp at h2
    · have : a' :: sp c r' = a :: sp c r := by rw [← sp_some h3, ← sp_some h, h2]
      rw [h4, (List.cons.inj this).1]
  unfold g_strings_Cut g_internal_stringslite_Cut
  rw [h1, decide_eq_true oM]
  simp only [cond_true]
  rw [wrap_in (by simp only [List.length_cons, List.length_nil]; omega)]
  have h2 : ((a.length : Int)).toNat = a.length := by simp
  have h3 : ((a.length : Int) + (([c] : Str).length : Int)).toNat = a.length + 1 := by simp only [List.length_cons, List.length_nil]; omega
  rw [h2, h3]
  simp
theorem slash_field {s : Str} (h : s_l25Field s = true) : (47 : UInt8) ∉ s := by
  unfold s_l25Field at h
  obtain ⟨_, h2⟩ := of_cond_f h
  rw [l3Bytes_eq, List.all_eq_true] at h2
  intro hm
  exact absurd (h2 _ hm) (by decide)
theorem CutPrefix_iff (k p : Str) : (g_strings_CutPrefix k p).2 = p.isPrefixOf k ∧ ((g_strings_CutPrefix k p).2 = true → (g_strings_CutPrefix k p).1 = k.drop p.length) := by
  have h : g_internal_stringslite_HasPrefix k p = p.isPrefixOf k := by
    unfold g_internal_stringslite_HasPrefix
    by_cases hp : p <+: k
    · obtain ⟨r, rfl⟩ := hp
      rw [decide_eq_true (by rw [List.length_append]; omega), cond_true, List.take_left]
      simp
    · rw [show p.isPrefixOf k = false from by rw [Bool.eq_false_iff]; intro e; exact hp (List.isPrefixOf_iff_prefix.1 e)]
      cases hd : decide ((p.length : Int) ≤ (k.length : Int))
      · rfl
      · rw [cond_true, beq_eq_false_iff_ne]
        intro e
        exact hp (e ▸ List.take_prefix ..)
  unfold g_strings_CutPrefix g_internal_stringslite_CutPrefix
  rw [h]
  cases p.isPrefixOf k <;> simp
theorem getD0 {α : Type} (x d : α) (xs : List α) : (x :: xs).getD 0 d = x := rfl
theorem getD1 {α : Type} (x y d : α) (xs : List α) : (x :: y :: xs).getD 1 d = y := rfl
theorem getD2 {α : Type} (x y z d : α) (xs : List α) : (x :: y :: z :: xs).getD 2 d = z := rfl
theorem len_ne {α : Type} {x y z : α} {xs : List α} (h : 0 < xs.length) : decide (((x :: y :: z :: xs).length : Int) = 3) = false := decide_eq_false (by simp only [List.length_cons]; omega)
theorem read_eq {t : DTable} {n k : Str} (hh : (47 : UInt8) ∉ (t.Name ++ ([46] : Str)) ++ n) (hk : k.length ≤ 1073741824) : i_Table_readIdxKey t n k = s_l25ReadEntry t n k := by
  have hsp : s_l1Split k 47 = sp 47 k := l1Split_sp k 47
  have hd : i_Table_idxHead t n = ((t.Name ++ ([46] : Str)) ++ n) ++ ([47] : Str) := rfl
  unfold i_Table_readIdxKey s_l25ReadEntry
  rw [hsp, hd]
  generalize (t.Name ++ ([46] : Str)) ++ n = hd at hh
  obtain ⟨hc1, hc2⟩ := CutPrefix_iff k (hd ++ ([47] : Str))
  rcases cut_dec 47 k with h47 | ⟨a, r, rfl, ha⟩
  · have hp : (g_strings_CutPrefix k (hd ++ ([47] : Str))).2 = false := by
      rw [hc1, Bool.eq_false_iff]; intro e
      obtain ⟨r, rfl⟩ := List.isPrefixOf_iff_prefix.1 e
      simp at h47
    rw [hp, sp_none h47]; rfl
  · rw [sp_some ha]
    by_cases e : a = hd
    · subst e
      have hp : (a ++ ([47] : Str)).isPrefixOf (a ++ 47 :: r) = true := List.isPrefixOf_iff_prefix.2 ⟨r, by simp⟩
      have hr : (g_strings_CutPrefix (a ++ 47 :: r) (a ++ ([47] : Str))).1 = r := by
        rw [hc2 (hc1.trans hp)]
        rw [show a ++ 47 :: r = (a ++ ([47] : Str)) ++ r from by simp, List.drop_left]
      rw [hc1.trans hp, hr, cond_true, getD0, beq_self_eq_true, cond_true]
      rcases cut_dec 47 r with h47 | ⟨b, u, rfl, hb⟩
      · rw [Cut_none h47, sp_none h47]; rfl
      · rw [Cut_some hb (by simp only [List.length_append, List.length_cons] at hk; omega), sp_some hb]
        rw [getD1]
        dsimp only
        rw [isField_eq, isField_eq, cond_true]
        rcases cut_dec 47 u with h47 | ⟨d, v, rfl, hdd⟩
        · rw [sp_none h47, getD2]; rfl
        · have hf : s_l25Field (d ++ 47 :: v) = false := by
            rw [Bool.eq_false_iff]; intro e; exact slash_field e (by simp)
          rw [sp_some hdd, len_ne (sp_ne 47 v), hf]
          cases s_l25Field b <;> rfl
    · have hp : (g_strings_CutPrefix (a ++ 47 :: r) (hd ++ ([47] : Str))).2 = false := by
        rw [hc1, Bool.eq_false_iff]; intro h
        obtain ⟨r', h'⟩ := List.isPrefixOf_iff_prefix.1 h
        rw [List.append_assoc] at h'
        have : hd :: sp 47 r' = a :: sp 47 r := by rw [← sp_some hh, ← sp_some ha, ← h']; rfl
        exact e (List.cons.inj this).1.symm
      have hg : ((a :: sp 47 r).getD 0 d_Str == hd) = false := by rw [getD0, beq_eq_false_iff_ne]; exact e
      rw [hp, hg]
      cases decide (((a :: sp 47 r).length : Int) = 3) <;> rfl
theorem slash_letters {s : Str} {m : Int} (h : s_l24Letters s m = true) : (47 : UInt8) ∉ s := by
  rw [l24Letters_eq, Bool.and_eq_true, Bool.and_eq_true, List.all_eq_true] at h
  intro hm
  exact absurd (h.1.1 _ hm) (by decide)
theorem slash_head {t : DTable} {n : Str} (h : i_hasIdx t n = true) : (47 : UInt8) ∉ (t.Name ++ ([46] : Str)) ++ n := by
  have h2 := IdxAt_fst (hasIdx_eq t n ▸ h)
  obtain ⟨h3, h4⟩ := (hasIdx_iff t n).1 h
  have h5 := rf_s_l24Idx t n
  rw [idx_eq] at h2
  rw [s_GoodTable_eq] at h3
  simp only [Bool.and_eq_true, List.all_eq_true, List.mem_range] at h3
  have h6 := h3.2 (s_l24Idx t n).toNat oM
  unfold idxOk at h6
  simp only [Bool.and_eq_true] at h6
  have h7 := slash_letters h6.1.1.1
  rw [h2.2] at h7
  have h8 := slash_letters h3.1.1.1
  intro hm
  rcases List.mem_append.1 hm with hm | hm
  · rcases List.mem_append.1 hm with hm | hm
    · exact h8 hm
    · exact absurd (List.mem_singleton.1 hm) (by decide)
  · exact h7 hm
theorem loopM_congr {ρ σ : Type} {b b' : Nat → σ → Out ρ σ} : ∀ (n k : Nat) (s : σ), (∀ j s, k ≤ j → j < k + n → b j s = b' j s) → loopM b n k s = loopM b' n k s
  | 0, _, _, _ => rfl
  | n + 1, k, s, h => by
    have h1 := h k s (Nat.le_refl _) oM
    have ih := fun s => loopM_congr n (k + 1) s fun j s h2 h3 => h j s oM oM
    simp only [loopM]
    rw [h1]
    cases b' k s with
    | ret r => rfl
    | brk s => rfl
    | cont s => exact ih s
theorem entries_eq {t : DTable} {n : Str} {l : List DWrite} (h : i_hasIdx t n = true) (hl : s_l3Writes l = true) : i_Table_entriesIn t n l = s_l25Entries t n l := by
  have hk := (f_l3Writes hl).2
  unfold i_Table_entriesIn s_l25Entries
  rw [loopM_congr (b := B_i_Table_entriesIn_0 t n l) (b' := B_s_l25Entries_0 t n l) _ _ _ fun j x _ hj => by
    unfold B_i_Table_entriesIn_0 B_s_l25Entries_0
    have := (hk j oM).1
    rw [read_eq (slash_head h) oM]]
theorem entries_len (t : DTable) (n : Str) (l : List DWrite) : (i_Table_entriesIn t n l).length ≤ l.length := by
  unfold i_Table_entriesIn
  refine loopM_val (fun k (x : List Str) => x.length ≤ k) (fun (v : List Str) => v.length ≤ l.length) (Nat.le_refl _) (fun s h => by omega) ?_
  intro j x _ _ hx
  unfold B_i_Table_entriesIn_0
  cases (i_Table_readIdxKey t n ((l.getD j d_Write).Key)).2.2
  · show x.length ≤ j + 1; omega
  · show (x ++ _).length ≤ j + 1
    rw [List.length_append]; simp only [List.length_cons, List.length_nil]; omega
theorem isRows_w {l : List DWrite} (h : i_isRows l = true) : s_l3Writes l = true := by
  rw [isRows_eq, Bool.and_eq_true] at h
  exact h.1
theorem inter_cons (sep x y : Str) (zs : List Str) : sep.intercalate (x :: y :: zs) = x ++ (sep ++ sep.intercalate (y :: zs)) := by
  simp [List.intercalate, List.intersperse]
theorem inter_one (sep x : Str) : sep.intercalate [x] = x := by simp [List.intercalate]
theorem inter_concat (sep x : Str) : ∀ xs : List Str, 0 < xs.length → sep.intercalate (xs ++ [x]) = (sep.intercalate xs ++ sep) ++ x
  | [], h => by simp at h
  | [y], _ => by show sep.intercalate (y :: x :: []) = _; rw [inter_cons, inter_one, inter_one, List.append_assoc]
  | y :: z :: zs, _ => by
    show sep.intercalate (y :: z :: (zs ++ [x])) = _
    rw [inter_cons, show z :: (zs ++ [x]) = (z :: zs) ++ [x] from rfl, inter_concat sep x (z :: zs) (Nat.succ_pos _), inter_cons]
    simp only [List.append_assoc]
theorem inter_len : ∀ xs : List Str, (∀ x ∈ xs, x.length ≤ 3) → (([44] : Str).intercalate xs).length ≤ 4 * xs.length
  | [], _ => Nat.zero_le _
  | [x], h => by have := h x (by simp); rw [inter_one, List.length_singleton]; omega
  | x :: y :: zs, h => by
    have h1 := h x (by simp)
    have h2 := inter_len (y :: zs) fun z hz => h z (List.mem_cons_of_mem _ hz)
    rw [inter_cons, List.length_append, List.length_append, List.length_cons (as := y :: zs)]
    simp only [List.length_cons, List.length_nil] at h2 ⊢
    omega
theorem join_drop {r : DRow} (h : r.Vals.length ≤ 4) (hr : rowShort r) : (g_strings_Join (r.Vals.drop 1) ([44] : Str)).length ≤ 1073741824 := by
  have := inter_len (r.Vals.drop 1) fun x hx => hr x (List.mem_of_mem_drop hx)
  rw [List.length_drop] at this
  unfold g_strings_Join; omega
theorem Join_eq (xs : List Str) (sep : Str) : s_l24Join xs sep = g_strings_Join xs sep := by
  unfold s_l24Join g_strings_Join
  refine loopM_val (fun k (s : Str) => s = sep.intercalate (xs.take k)) (fun (v : Str) => v = sep.intercalate xs) rfl (fun s h => by rw [h, List.take_of_length_le oM]) ?_
  intro j s _ hj hs
  have hj' : j < xs.length := by omega
  unfold B_s_l24Join_0
  dsimp only
  rw [List.take_succ_eq_append_getElem hj', getD_eq hj']
  by_cases h0 : 0 < j
  · rw [decide_eq_true oM, hs, inter_concat _ _ _ (by rw [List.length_take]; omega)]; rfl
  · have : j = 0 := by omega
    subst this
    rw [decide_eq_false oM, hs]
    show [] ++ _ = _
    simp [List.intercalate]
theorem rowWrite_eq (t : DTable) (r : DRow) : i_Table_rowWrite t r = s_l25Write t r := by
  unfold i_Table_rowWrite s_l25Write
  rw [Join_eq]
theorem f_i_isStage {s : Int} (h : i_isStage s = true) : 0 ≤ s ∧ s ≤ 3 := f_within h
theorem cntL_le {α : Type} {c : α → Nat} {m : Nat} : ∀ {xs : List α}, (∀ x ∈ xs, c x ≤ m) → cntL c xs ≤ m * xs.length
  | [], _ => Nat.zero_le _
  | x :: xs, h => by
    have h1 := h x (List.mem_cons_self ..)
    have h2 := cntL_le (xs := xs) fun y hy => h y (List.mem_cons_of_mem _ hy)
    unfold cntL
    rw [List.length_cons, Nat.mul_succ]; omega
theorem rf_l1Split (s : Str) (b : Int) : 1 ≤ (s_l1Split s b).length ∧ (s_l1Split s b).length ≤ s.length + 1 := by
  unfold s_l1Split
  refine loopM_val (fun k (p : List Str × Int) => p.1.length ≤ k) (fun (v : List Str) => 1 ≤ v.length ∧ v.length ≤ s.length + 1) (Nat.zero_le _) ?_ ?_
  · rintro ⟨x, a⟩ h1
    dsimp only at h1 ⊢
    rw [List.length_append, List.length_singleton]; omega
  · rintro j ⟨x, a⟩ _ hj h1
    dsimp only at h1
    unfold B_s_l1Split_0
    dsimp only
    cases decide (((s.getD j 0).toNat : Int) = b)
    · exact Nat.le_succ_of_le h1
    · show (x ++ _).length ≤ _
      rw [List.length_append, List.length_singleton]; omega
theorem rf_Split (s sep : Str) : 1 ≤ (g_strings_Split s sep).length ∧ (g_strings_Split s sep).length ≤ s.length + 1 := ⟨sp_ne _ _, sp_length _ _⟩
theorem comma_split (s : Str) : s_l1Split s 44 = sp 44 s := l1Split_sp s 44
theorem gt_name {t : DTable} (h : s_GoodTable t = true) : t.Name.length ≤ 1 := Nat.le_of_eq (GoodT.of h).name
theorem okS_nm {t : DTable} (h : t.Name.length ≤ 1) : okS (t.Name ++ ([47] : Str)) := by unfold okS; rw [List.length_append]; show t.Name.length + 1 ≤ _; omega

theorem good_one {t : DTable} {r : DRow} (h : s_l25Good t r = true) {v : Str} (hv : v ∈ r.Vals) : 1 ≤ v.length ∧ v.length ≤ 3 := by
  rw [l25Good_eq, Bool.and_eq_true] at h
  have := field_len (List.all_eq_true.1 h.1 v hv)
  omega
def rowIn (w : DWrite) : DRow := ⟨[w.Key.drop 2] ++ s_l1Split w.Val 44⟩
theorem Split_comma (s : Str) : g_strings_Split s ([44] : Str) = s_l1Split s 44 := (comma_split s).symm
theorem drop_pre {p s k : Str} (h : s = p ++ k) : p.isPrefixOf s = true := by subst h; simp
theorem l25Read_eq (t : DTable) (w : DWrite) : s_l25Read t w = bif decide ((w.Key.length : Int) < 3) then (⟨[]⟩, false) else (rowIn w, s_l25Good t (rowIn w) && (((t.Name ++ ([47] : Str)) ++ w.Key.drop 2 == w.Key) && (((s_l25Write t (rowIn w)).Val == w.Val) && (false == w.Gone)))) := by
  unfold s_l25Read
  cases decide ((w.Key.length : Int) < 3)
  · show (bif s_l25Good t (rowIn w) then _ else _) = _
    cases s_l25Good t (rowIn w) <;> rfl
  · rfl
theorem read_row {t : DTable} (hg : s_GoodTable t = true) (w : DWrite) : i_Table_readRow t w = bif (s_l25Read t w).2 then ((s_l25Read t w).1, true) else (⟨[]⟩, false) := by
  have hn := (GoodT.of hg).name
  have hpl : (t.Name ++ ([47] : Str)).length = 2 := by rw [List.length_append, hn]; rfl
  obtain ⟨c1, c2⟩ := CutPrefix_iff w.Key (t.Name ++ ([47] : Str))
  rw [hpl] at c2
  rw [l25Read_eq]
  unfold i_Table_readRow
  rw [c1]
  cases hp : (t.Name ++ ([47] : Str)).isPrefixOf w.Key
  · rw [cond_false]
    have hne : ((t.Name ++ ([47] : Str)) ++ w.Key.drop 2 == w.Key) = false := by
      cases hh : ((t.Name ++ ([47] : Str)) ++ w.Key.drop 2 == w.Key)
      · rfl
      · rw [drop_pre (eq_of_beq hh).symm] at hp; cases hp
    cases decide ((w.Key.length : Int) < 3)
    · rw [cond_false, hne, Bool.false_and, Bool.and_false]; rfl
    · rfl
  · rw [c1] at c2
    rw [cond_true, c2 hp, Split_comma]
    show (bif i_Table_isRow t (rowIn w) then _ else _) = _
    rw [isRow_eq]
    cases hgd : s_l25Good t (rowIn w)
    · cases decide ((w.Key.length : Int) < 3) <;> rfl
    · have h1 := good_one hgd (v := w.Key.drop 2) (List.mem_cons_self ..)
      rw [List.length_drop] at h1
      rw [decide_eq_false oM, cond_false, cond_true, Bool.true_and, rowWrite_eq]
      show (bif (w.Key == (t.Name ++ ([47] : Str)) ++ w.Key.drop 2) && ((w.Val == (s_l25Write t (rowIn w)).Val) && (w.Gone == false)) then _ else _) = _
      rw [BEq.comm (a := w.Key), BEq.comm (a := w.Val), BEq.comm (a := w.Gone)]
      rfl
theorem read_good {t : DTable} {w : DWrite} (h : (s_l25Read t w).2 = true) : s_l25Good t (s_l25Read t w).1 = true := by
  rw [l25Read_eq] at h ⊢
  cases hd : decide ((w.Key.length : Int) < 3) <;> rw [hd] at h
  · exact (Bool.and_eq_true _ _ ▸ h).1
  · cases h
theorem rowsIn_eq {t : DTable} (hg : s_GoodTable t = true) (l : List DWrite) : i_Table_rowsIn t l = s_l25Rows t l := by
  unfold i_Table_rowsIn s_l25Rows
  have : B_i_Table_rowsIn_0 t l = B_s_l25Rows_0 t l := by
    funext k x
    unfold B_i_Table_rowsIn_0 B_s_l25Rows_0
    rw [read_row hg]
    cases (s_l25Read t (l.getD k d_Write)).2 <;> rfl
  rw [this]
theorem rows_good (t : DTable) (l : List DWrite) : (s_l25Rows t l).length ≤ l.length ∧ ∀ y ∈ s_l25Rows t l, s_l25Good t y = true := by
  unfold s_l25Rows
  refine loopM_val (fun k (p : List DRow) => p.length ≤ k ∧ ∀ y ∈ p, s_l25Good t y = true) (fun (v : List DRow) => v.length ≤ l.length ∧ ∀ y ∈ v, s_l25Good t y = true) ⟨Nat.le_refl _, fun _ h => by cases h⟩ (fun s hs => ⟨by have := hs.1; omega, hs.2⟩) ?_
  intro j x _ _ ⟨h1, h2⟩
  unfold B_s_l25Rows_0
  dsimp only
  cases h : (s_l25Read t (l.getD j d_Write)).2
  · exact ⟨Nat.le_succ_of_le h1, h2⟩
  · refine ⟨by rw [List.length_append, List.length_singleton]; omega, fun y hy => ?_⟩
    rcases List.mem_append.1 hy with hy | hy
    · exact h2 y hy
    · rw [List.mem_singleton.1 hy]; exact read_good h
theorem rows_at (t : DTable) (l : List DWrite) {k : Nat} (hk : k < (s_l25Rows t l).length) : s_l25Good t ((s_l25Rows t l).getD k d_Row) = true := (rows_good t l).2 _ (by rw [getD_eq hk]; exact List.getElem_mem hk)
theorem rowsIn_mem {t : DTable} (hg : s_GoodTable t = true) {l : List DWrite} {y : DRow} (h : y ∈ i_Table_rowsIn t l) : s_l25Good t y = true := (rows_good t l).2 y (rowsIn_eq hg l ▸ h)
theorem gt_idx {t : DTable} (h : s_GoodTable t = true) {k : Nat} (hk : k < t.Idxs.length) : 0 ≤ (t.Idxs.getD k d_Idx).Col ∧ (t.Idxs.getD k d_Idx).Col < (t.Cols.length : Int) ∧ 0 ≤ (t.Idxs.getD k d_Idx).Stage ∧ (t.Idxs.getD k d_Idx).Stage ≤ 3 ∧ (t.Idxs.getD k d_Idx).Name.length = 1 := by
  obtain ⟨a, b, c, d, e⟩ := (GoodT.of h).idx k hk
  exact ⟨by omega, c, d, e, a⟩
theorem rows_at' (t : DTable) (l : List DWrite) {k : Nat} (hk : k < (s_l25Rows t l).length) : ((s_l25Rows t l).getD k d_Row).Vals.length = t.Cols.length ∧ rowShort ((s_l25Rows t l).getD k d_Row) := f_s_l25Good (rows_at t l hk)
theorem readRow_write {t : DTable} {w : DWrite} (h : (i_ReadRow t w).2 = true) : i_RowWrite t (i_ReadRow t w).1 = (w, true) := by
  unfold i_ReadRow at h ⊢
  cases hg : i_GoodTable t
  · rw [hg] at h; cases h
  · rw [hg] at h
    dsimp only [cond_true] at h ⊢
    unfold i_Table_readRow at h ⊢
    revert h
    generalize (⟨(([(g_strings_CutPrefix w.Key (t.Name ++ ([47] : Str))).1] : List Str) ++ (g_strings_Split w.Val ([44] : Str)))⟩ : DRow) = r
    intro h
    cases hc : (g_strings_CutPrefix w.Key (t.Name ++ ([47] : Str))).2
    · rw [hc] at h; cases h
    · rw [hc] at h
      dsimp only [cond_true] at h ⊢
      cases hr : i_Table_isRow t r
      · rw [hr] at h; cases h
      · rw [hr] at h
        dsimp only [cond_true] at h ⊢
        cases he : (w.Key == (i_Table_rowWrite t r).Key && (w.Val == (i_Table_rowWrite t r).Val && w.Gone == (i_Table_rowWrite t r).Gone))
        · rw [he] at h; cases h
        · dsimp only [cond_true]
          simp only [Bool.and_eq_true, beq_iff_eq] at he
          unfold i_RowWrite i_GoodRow
          rw [hg, cond_true, hr, cond_true]
          have : i_Table_rowWrite t r = w := by
            cases w; cases hq : i_Table_rowWrite t r
            rw [hq] at he
            simp only [DWrite.mk.injEq]
            exact ⟨he.1.symm, he.2.1.symm, he.2.2.symm⟩
          rw [this]
theorem entriesIn_map (t : DTable) (n : Str) (l : List DWrite) : i_Table_entriesIn t n l = (l.filter fun w => (i_Table_readIdxKey t n w.Key).2.2).map (·.Key) := by
  unfold i_Table_entriesIn
  refine loopM_val (fun k (p : List Str) => p = ((l.take k).filter fun w => (i_Table_readIdxKey t n w.Key).2.2).map (·.Key)) (fun (v : List Str) => v = (l.filter fun w => (i_Table_readIdxKey t n w.Key).2.2).map (·.Key)) rfl (fun s h => by rw [h, List.take_of_length_le oM]) ?_
  intro j s _ hj hs
  have hj' : j < l.length := by omega
  unfold B_i_Table_entriesIn_0
  dsimp only
  rw [List.take_succ_eq_append_getElem hj', List.filter_append, List.map_append, ← hs, ← getD_eq (d := d_Write) hj', List.filter_cons]
  cases (i_Table_readIdxKey t n ((l.getD j d_Write).Key)).2.2 <;> simp
theorem rowsIn_map (t : DTable) (l : List DWrite) : i_Table_rowsIn t l = (l.filter fun w => (i_Table_readRow t w).2).map fun w => (i_Table_readRow t w).1 := by
  unfold i_Table_rowsIn
  refine loopM_val (fun k (p : List DRow) => p = ((l.take k).filter fun w => (i_Table_readRow t w).2).map fun w => (i_Table_readRow t w).1) (fun (v : List DRow) => v = (l.filter fun w => (i_Table_readRow t w).2).map fun w => (i_Table_readRow t w).1) rfl (fun s h => by rw [h, List.take_of_length_le oM]) ?_
  intro j s _ hj hs
  have hj' : j < l.length := by omega
  unfold B_i_Table_rowsIn_0
  dsimp only
  rw [List.take_succ_eq_append_getElem hj', List.filter_append, List.map_append, ← hs, ← getD_eq (d := d_Write) hj', List.filter_cons]
  cases (i_Table_readRow t (l.getD j d_Write)).2 <;> simp
theorem sLt_trans {a b c : Str} (h1 : sLt a b = true) (h2 : sLt b c = true) : sLt a c = true := by
  unfold sLt at *
  rw [bytesLess_lt, decide_eq_true_eq] at *
  exact List.lt_trans h1 h2
theorem sLt_irrefl (a : Str) : ¬ sLt a a = true := by
  unfold sLt
  rw [bytesLess_lt, decide_eq_true_eq]
  exact List.lt_irrefl a
theorem keys_apart {l : List DWrite} (h : i_isRows l = true) : l.Pairwise fun a b => a.Key ≠ b.Key := by
  have h1 := isRows_w h
  rw [l3Writes_eq, Bool.and_eq_true, List.all_eq_true] at h1
  have h2 : ∀ d i : Nat, i + d + 1 < l.length → sLt ((l.map (·.Key)).getD i d_Str) ((l.map (·.Key)).getD (i + d + 1) d_Str) = true := by
    have step : ∀ i : Nat, i + 1 < l.length → sLt ((l.map (·.Key)).getD i d_Str) ((l.map (·.Key)).getD (i + 1) d_Str) = true := fun i hi => by
      have h3 := h1.1 (i + 1) (List.mem_range.2 hi)
      rw [Bool.and_eq_true] at h3
      have h4 := h3.2
      have h24 : l.length ≤ 24 := by have := of_decide_eq_true h1.2; omega
      unfold rising at h4
      rw [decide_eq_true oM, cond_true, wrap_in oM, show (((i + 1 : Nat) : Int) - 1).toNat = i by omega] at h4
      exact h4
    intro d
    induction d with
    | zero => exact step
    | succ d ih => exact fun i hi => sLt_trans (ih i oM) (step (i + d + 1) oM)
  rw [List.pairwise_iff_getElem]
  intro i j hi hj hij e
  obtain ⟨d, rfl⟩ : ∃ d, j = i + d + 1 := ⟨j - i - 1, by omega⟩
  have h3 := h2 d i hj
  rw [getD_eq (by rw [List.length_map]; exact hi), getD_eq (by rw [List.length_map]; exact hj), List.getElem_map, List.getElem_map, e] at h3
  exact sLt_irrefl _ h3
theorem read_wrote {t : DTable} {w : DWrite} (hg : i_GoodTable t = true) (h : (i_Table_readRow t w).2 = true) : i_GoodRow t (i_Table_readRow t w).1 = true ∧ i_Table_rowWrite t (i_Table_readRow t w).1 = w := by
  have e : i_ReadRow t w = i_Table_readRow t w := by unfold i_ReadRow; rw [hg, cond_true]
  have h1 := readRow_write (t := t) (w := w) (by rw [e]; exact h)
  rw [e] at h1
  unfold i_RowWrite at h1
  cases hr : i_GoodRow t (i_Table_readRow t w).1
  · rw [hr] at h1; cases h1
  · rw [hr] at h1
    exact ⟨rfl, (Prod.mk.inj h1).1⟩
theorem row_key (t : DTable) (r : DRow) : (i_Table_rowWrite t r).Key = (t.Name ++ ([47] : Str)) ++ r.Vals.getD 0 d_Str := rfl
theorem l5Rows_len {l : List DWrite} (h : s_l5Rows l = true) : l.length ≤ 24 := by
  rw [l5Rows_eq] at h
  exact (f_l3Writes (isRows_w h)).1
def is2 (l : List DRow) : Prop := ∀ y ∈ l, y.Vals.length = 2
theorem is2.nil : is2 [] := fun _ h => by cases h
theorem is2.app {l : List DRow} {r : DRow} (h : is2 l) (hr : r.Vals.length = 2) : is2 (l ++ [r]) := fun y hy => by
  rcases List.mem_append.1 hy with hy | hy
  · exact h y hy
  · rw [List.mem_singleton.1 hy]; exact hr
theorem is2.set {l : List DRow} {r : DRow} (h : is2 l) (hr : r.Vals.length = 2) (i : Nat) : is2 (l.set i r) := fun y hy => by
  rcases List.mem_or_eq_of_mem_set hy with hy | hy
  · exact h y hy
  · rw [hy]; exact hr
theorem is2.at {l : List DRow} (h : is2 l) {i : Nat} (hi : i < l.length) : (l.getD i d_Row).Vals.length = 2 := h _ (by rw [getD_eq hi]; exact List.getElem_mem hi)
theorem less_pre {l : List DRow} {a : DRow} {i : Nat} (ha : a.Vals.length = 2) (h : is2 l) (hi : i < l.length) : 0 ≤ (1 : Int) ∧ (1 : Int) < (a.Vals.length : Int) ∧ (1 : Int) < ((l.getD i d_Row).Vals.length : Int) := by
  have := h.at hi
  omega
theorem rf_IndexFunc_Row (xs : List DRow) (f : DRow → Bool) : g_slices_IndexFunc_Row xs f < (xs.length : Int) := by
  rw [IndexFunc_Row]
  rcases idxF_spec f d_Row xs with ⟨h, _⟩ | ⟨k, hk, h, _⟩ <;> rw [h] <;> omega
theorem okL_sortE {l : List DEntry} (h : okL ok_Entry l) : okL ok_Entry (g_slices_SortFunc_entry l) := by
  unfold g_slices_SortFunc_entry
  exact ⟨by rw [List.length_mergeSort]; exact h.1, fun x hx => h.2 x (List.mem_mergeSort.1 hx)⟩
theorem len_sortE (l : List DEntry) : (g_slices_SortFunc_entry l).length = l.length := List.length_mergeSort _
theorem ask_idx {t : DTable} {s : DStmt} (h : s_GoodStmt t s = true) : s.Kind = 3 → 0 ≤ s_l24Idx t s.Idx ∧ s_l24Idx t s.Idx < (t.Idxs.length : Int) := fun hk => by
  unfold s_GoodStmt at h
  obtain ⟨_, h2⟩ := of_cond_f h
  unfold s_l30Good at h2
  rw [decide_eq_false oM, cond_false, decide_eq_false oM, cond_false, decide_eq_true hk, cond_true] at h2
  obtain ⟨_, h2⟩ := of_cond_f h2
  obtain ⟨h3, _⟩ := of_cond_f h2
  exact ⟨of_decide_eq_true h3, (rf_s_l24Idx t s.Idx).2⟩
theorem ask_has {t : DTable} {s : DStmt} (h : s_GoodStmt t s = true) (hk : s.Kind = 3) : i_hasIdx t s.Idx = true := by
  rw [hasIdx_iff]
  refine ⟨?_, (ask_idx h hk).1⟩
  unfold s_GoodStmt at h
  exact (of_cond_f h).1
theorem ask_idx' {t : DTable} {s : DStmt} (h : i_GoodStmt t s = true) : s.Kind = 3 → (0 ≤ i_Table_findIdx t s.Idx ∧ i_Table_findIdx t s.Idx < (t.Idxs.length : Int)) ∧ t.Name.length ≤ 1 ∧ s.Idx.length ≤ 1 := fun hk => by
  have h1 := f_i_hasIdx (ask_has (GoodStmt_eq t s ▸ h) hk)
  have h2 := ask_idx (GoodStmt_eq t s ▸ h) hk
  rw [findIdx_eq]
  omega
theorem rows24 {l : List DWrite} (h : s_l5Rows l = true) : l.length ≤ 24 := by
  have h1 := isRows_w (l5Rows_eq l ▸ h)
  rw [l3Writes_eq, Bool.and_eq_true] at h1
  have := of_decide_eq_true h1.2; omega
theorem entries_le (t : DTable) (n : Str) (l : List DWrite) : (s_l25Entries t n l).length ≤ l.length := by
  unfold s_l25Entries
  refine loopM_val (fun k (p : List Str) => p.length ≤ k) (fun (v : List Str) => v.length ≤ l.length) (Nat.le_refl _) (fun s hs => by omega) ?_
  intro j x _ _ h1
  unfold B_s_l25Entries_0
  dsimp only
  cases (s_l25ReadEntry t n (l.getD j d_Write).Key).2.2
  · exact Nat.le_succ_of_le h1
  · show List.length (_ ++ _) ≤ _
    rw [List.length_append, List.length_singleton]; omega
theorem keyed_le (t : DTable) (l : List DWrite) (k : Str) : (s_l30Keyed t l k).length ≤ l.length := by
  refine Nat.le_trans ?_ (rows_good t l).1
  unfold s_l30Keyed
  refine loopM_val (fun k (p : List DRow) => p.length ≤ k) (fun (v : List DRow) => v.length ≤ (s_l25Rows t l).length) (Nat.le_refl _) (fun s hs => by omega) ?_
  intro j x _ _ h1
  unfold B_s_l30Keyed_0
  dsimp only
  cases (((s_l25Rows t l).getD j d_Row).Vals.getD 0 d_Str) == k
  · exact Nat.le_succ_of_le h1
  · show List.length (_ ++ _) ≤ _
    rw [List.length_append, List.length_singleton]; omega
theorem keyed_mem {t : DTable} {l : List DWrite} {k : Str} {y : DRow} (h : y ∈ s_l30Keyed t l k) : y ∈ s_l25Rows t l := by
  revert h
  suffices h : ∀ y ∈ s_l30Keyed t l k, y ∈ s_l25Rows t l from h y
  unfold s_l30Keyed
  refine loopM_val (fun k (p : List DRow) => ∀ y ∈ p, y ∈ s_l25Rows t l) (fun (v : List DRow) => ∀ y ∈ v, y ∈ s_l25Rows t l) (fun _ h => by cases h) (fun s hs => hs) ?_
  intro j x _ hj h1
  unfold B_s_l30Keyed_0
  dsimp only
  cases (((s_l25Rows t l).getD j d_Row).Vals.getD 0 d_Str) == k
  · exact h1
  · intro y hy
    rcases List.mem_append.1 hy with hy | hy
    · exact h1 y hy
    · rw [List.mem_singleton.1 hy, getD_eq oM]; exact List.getElem_mem _
theorem rows_pos {t : DTable} (hg : s_GoodTable t = true) {l : List DWrite} {k : Nat} (hk : k < (s_l25Rows t l).length) : 2 ≤ ((s_l25Rows t l).getD k d_Row).Vals.length := by
  have h1 := rows_at' t l hk
  have h2 := (GoodT.of hg).cols
  omega
theorem rowsIn_pos {t : DTable} (hg : s_GoodTable t = true) {l : List DWrite} {y : DRow} (h : y ∈ i_Table_rowsIn t l) : 0 < y.Vals.length := by
  have h1 := (f_s_l25Good (rowsIn_mem hg h)).1
  have h2 := (GoodT.of hg).cols
  omega
theorem good_stmt {t : DTable} {s : DStmt} (h : s_GoodStmt t s = true) : s_GoodTable t = true := by
  unfold s_GoodStmt at h
  exact (of_cond_f h).1
theorem good_stmt' {t : DTable} {s : DStmt} (h : i_GoodStmt t s = true) : s_GoodTable t = true := good_stmt (GoodStmt_eq t s ▸ h)

def eR (y : DRow) : DEntry := ⟨y.Vals.getD 1 d_Str, y.Vals.getD 0 d_Str⟩
def rowE (t : DTable) (n : Str) (e : Str) : DRow := ⟨([(s_l25ReadEntry t n e).2.1, (s_l25ReadEntry t n e).1] : List Str)⟩
theorem set_mid {α : Type} (l m : List α) (q r : α) {k : Nat} (hk : k = l.length) : (l ++ q :: m).set k r = l ++ r :: m := by
  subst hk
  rw [List.set_append_right _ _ (Nat.le_refl _), Nat.sub_self]; rfl
theorem pairs_round (t : DTable) (n : Str) (st : List DWrite) (k : Nat) (l : List DRow) (hl : l.length ≤ 1000000) : ∃ i, i ≤ l.length ∧ B_s_l30Pairs_0 t n st k l = .cont (l.take i ++ rowE t n ((s_l25Entries t n st).getD k d_Str) :: l.drop i) ∧ (∀ y ∈ l.drop i, s_l30Less (rowE t n ((s_l25Entries t n st).getD k d_Str)) y 1 = true) ∧ (0 < i → s_l30Less (rowE t n ((s_l25Entries t n st).getD k d_Str)) (l.getD (i - 1) d_Row) 1 = false) := by
  unfold B_s_l30Pairs_0
  refine loopW_val (body := B_s_l30Pairs_1 t n st k l) (fd := fun p => Out.cont (p.2.set p.1.toNat (rowE t n ((s_l25Entries t n st).getD k d_Str)))) (fun (p : Int × List DRow) => 0 ≤ p.1 ∧ p.1 ≤ (l.length : Int) ∧ (∃ q, p.2 = l.take p.1.toNat ++ q :: l.drop p.1.toNat) ∧ ∀ y ∈ l.drop p.1.toNat, s_l30Less (rowE t n ((s_l25Entries t n st).getD k d_Str)) y 1 = true) (fun p => p.1.toNat) (fun v => ∃ i, i ≤ l.length ∧ v = .cont (l.take i ++ (rowE t n ((s_l25Entries t n st).getD k d_Str)) :: l.drop i) ∧ (∀ y ∈ l.drop i, s_l30Less (rowE t n ((s_l25Entries t n st).getD k d_Str)) y 1 = true) ∧ (0 < i → s_l30Less (rowE t n ((s_l25Entries t n st).getD k d_Str)) (l.getD (i - 1) d_Row) 1 = false)) ?_ ((l.length : Int).toNat + 1) ((l.length : Int), l ++ [(rowE t n ((s_l25Entries t n st).getD k d_Str))]) ⟨(by show 0 ≤ (l.length : Int); omega), (by show (l.length : Int) ≤ (l.length : Int); omega), ⟨(rowE t n ((s_l25Entries t n st).getD k d_Str)), ?_⟩, ?_⟩ (by show (l.length : Int).toNat < (l.length : Int).toNat + 1; omega)
  · rintro ⟨a, x⟩ ⟨h0, h1, ⟨q, hq⟩, h3⟩
    dsimp only at h0 h1 hq h3
    have stop : s_l30Less (rowE t n ((s_l25Entries t n st).getD k d_Str)) (l.getD (a.toNat - 1) d_Row) 1 = false ∨ a = 0 → ∃ i, i ≤ l.length ∧ (Out.cont (x.set a.toNat (rowE t n ((s_l25Entries t n st).getD k d_Str))) : Out (List DRow) (List DRow)) = .cont (l.take i ++ (rowE t n ((s_l25Entries t n st).getD k d_Str)) :: l.drop i) ∧ (∀ y ∈ l.drop i, s_l30Less (rowE t n ((s_l25Entries t n st).getD k d_Str)) y 1 = true) ∧ (0 < i → s_l30Less (rowE t n ((s_l25Entries t n st).getD k d_Str)) (l.getD (i - 1) d_Row) 1 = false) := fun h => by
      refine ⟨a.toNat, oM, ?_, h3, fun hp => h.resolve_right oM⟩
      rw [hq, set_mid _ _ _ _ (by rw [List.length_take]; omega)]
    unfold B_s_l30Pairs_1
    dsimp only
    cases hp : decide (0 < a)
    · exact stop (.inr (by have := of_decide_eq_false hp; omega))
    · have hp := of_decide_eq_true hp
      have hlt : a.toNat - 1 < l.length := by omega
      have hg : x.getD (IntKind.wrap .i64 (a - 1)).toNat d_Row = l.getD (a.toNat - 1) d_Row := by
        rw [wrap_in oM, show (a - 1).toNat = a.toNat - 1 by omega, hq, List.getD_eq_getElem?_getD, List.getElem?_append_left (by rw [List.length_take]; omega), List.getElem?_take_of_lt oM, ← List.getD_eq_getElem?_getD]
      rw [hg]
      simp only [cond_true]
      show Out.sat _ _ _ (bif s_l30Less (rowE t n ((s_l25Entries t n st).getD k d_Str)) (l.getD (a.toNat - 1) d_Row) 1 then _ else _)
      cases hs : s_l30Less (rowE t n ((s_l25Entries t n st).getD k d_Str)) (l.getD (a.toNat - 1) d_Row) 1
      · exact stop (.inl hs)
      · have e1 : (IntKind.wrap .i64 (a - 1)).toNat = a.toNat - 1 := by rw [wrap_in oM]; omega
        have e2 : IntKind.wrap .i64 (a - 1) = a - 1 := wrap_in oM
        have e3 : l.drop (a.toNat - 1) = l.getD (a.toNat - 1) d_Row :: l.drop a.toNat := by
          rw [getD_eq hlt, List.drop_eq_getElem_cons hlt, show a.toNat - 1 + 1 = a.toNat by omega]
        refine ⟨⟨?_, ?_, ⟨l.getD (a.toNat - 1) d_Row, ?_⟩, ?_⟩, ?_⟩
        · dsimp only; rw [e2]; omega
        · dsimp only; rw [e2]; omega
        · dsimp only
          rw [e1, e3, hq, set_mid _ _ _ _ (by rw [List.length_take]; omega)]
          have e4 : l.take a.toNat = l.take (a.toNat - 1) ++ [l.getD (a.toNat - 1) d_Row] := by
            rw [getD_eq hlt, ← List.take_succ_eq_append_getElem hlt, show a.toNat - 1 + 1 = a.toNat by omega]
          rw [e4, List.append_assoc]; rfl
        · dsimp only
          rw [e1, e3]
          intro y hy
          rcases List.mem_cons.1 hy with rfl | hy
          · exact hs
          · exact h3 y hy
        · dsimp only; rw [e1]; omega
  · dsimp only
    rw [show (l.length : Int).toNat = l.length by omega, List.take_length, List.drop_length]
  · intro y hy
    dsimp only at hy
    rw [show (l.length : Int).toNat = l.length by omega, List.drop_length] at hy
    cases hy
theorem pairs_inv (t : DTable) (n : Str) (st : List DWrite) (P : Nat → List DRow → Prop) (h0 : P 0 []) (hs : ∀ k l i, k < (s_l25Entries t n st).length → l.length = k → P k l → i ≤ l.length → (∀ y ∈ l.drop i, s_l30Less (rowE t n ((s_l25Entries t n st).getD k d_Str)) y 1 = true) → (0 < i → s_l30Less (rowE t n ((s_l25Entries t n st).getD k d_Str)) (l.getD (i - 1) d_Row) 1 = false) → P (k + 1) (l.take i ++ rowE t n ((s_l25Entries t n st).getD k d_Str) :: l.drop i)) (hl : (s_l25Entries t n st).length ≤ 1000000) : P (s_l25Entries t n st).length (s_l30Pairs t n st) ∧ (s_l30Pairs t n st).length = (s_l25Entries t n st).length := by
  unfold s_l30Pairs
  refine loopM_val (fun k (p : List DRow) => P k p ∧ p.length = k) (fun (v : List DRow) => P (s_l25Entries t n st).length v ∧ v.length = (s_l25Entries t n st).length) ⟨h0, rfl⟩ (fun s hs => by
    have e : 0 + ((s_l25Entries t n st).length - 0) = (s_l25Entries t n st).length := by omega
    rw [e] at hs; exact hs) ?_
  intro j x _ hj ⟨h1, h2⟩
  obtain ⟨i, hi, he, hd, hg⟩ := pairs_round t n st j x oM
  rw [he]
  exact ⟨hs j x i oM h2 h1 hi hd hg, by rw [List.length_append, List.length_cons, List.length_take, List.length_drop]; omega⟩
theorem ents24 (t : DTable) (n : Str) {l : List DWrite} (h : l.length ≤ 24) : (s_l25Entries t n l).length ≤ 1000000 := by
  have := entries_le t n l; omega
theorem pairs_is2 (t : DTable) (n : Str) {l : List DWrite} (h : l.length ≤ 24) : is2 (s_l30Pairs t n l) := by
  refine (pairs_inv t n l (fun _ x => is2 x) is2.nil (fun k x i _ _ hx _ _ _ y hy => ?_) (ents24 t n h)).1
  rcases List.mem_append.1 hy with hy | hy
  · exact hx y (List.mem_of_mem_take hy)
  · rcases List.mem_cons.1 hy with rfl | hy
    · rfl
    · exact hx y (List.mem_of_mem_drop hy)
theorem pairs_le (t : DTable) (n : Str) (l : List DWrite) (h : l.length ≤ 24) : (s_l30Pairs t n l).length ≤ l.length := by
  have h1 := (pairs_inv t n l (fun _ _ => True) trivial (fun _ _ _ _ _ _ _ _ _ => trivial) (ents24 t n h)).2
  have := entries_le t n l; omega

def ltE (a b : DEntry) : Bool := if a.val = b.val then sLt a.primary b.primary else sLt a.val b.val
theorem sLt_tot {a b : Str} (h1 : sLt a b = false) (h2 : sLt b a = false) : a = b := by
  have h3 : sLe a b = true := by rw [sLe_not, h2]; rfl
  unfold sLe at h3
  rw [h1, Bool.false_or] at h3
  exact eq_of_beq h3
theorem cS_neg (x y : Str) : decide (cS x y < 0) = sLt x y := by
  unfold cS
  cases sLt x y
  · cases sLe x y <;> rfl
  · rfl
theorem cS_zero (x y : Str) : decide (cS x y = 0) = decide (x = y) := by
  by_cases h : x = y
  · subst h
    rw [decide_eq_true rfl]
    unfold cS
    have h1 : sLt x x = false := by cases h : sLt x x; rfl; exact absurd h (sLt_irrefl x)
    have h2 : sLe x x = true := by unfold sLe; rw [beq_self_eq_true, Bool.or_true]
    rw [h1, h2]; rfl
  · rw [decide_eq_false h]
    unfold cS
    cases h1 : sLt x y
    · cases h2 : sLe x y
      · rfl
      · unfold sLe at h2
        rw [h1, Bool.false_or] at h2
        exact absurd (eq_of_beq h2) h
    · rfl
theorem cE_neg (x y : DEntry) : decide (cE x y < 0) = ltE x y := by
  unfold cE ltE
  rw [cS_zero]
  by_cases h : x.val = y.val
  · rw [decide_eq_true h, cond_true, if_pos h, cS_neg]
  · rw [decide_eq_false h, cond_false, if_neg h, cS_neg]
theorem sLt_irr (a : Str) : sLt a a = false := by cases h : sLt a a; rfl; exact absurd h (sLt_irrefl a)
theorem ltE_irr (a : DEntry) : ltE a a = false := by unfold ltE; rw [if_pos rfl]; exact sLt_irr _
theorem ltE_tr {a b c : DEntry} (h1 : ltE a b = true) (h2 : ltE b c = true) : ltE a c = true := by
  unfold ltE at *
  by_cases e1 : a.val = b.val
  · by_cases e2 : b.val = c.val
    · rw [if_pos e1] at h1; rw [if_pos e2] at h2; rw [if_pos (e1.trans e2)]; exact sLt_trans h1 h2
    · rw [if_neg e2] at h2; rw [if_neg (fun e => e2 (e1.symm.trans e)), e1]; exact h2
  · by_cases e2 : b.val = c.val
    · rw [if_neg e1] at h1; rw [if_neg (fun e => e1 (e.trans e2.symm)), ← e2]; exact h1
    · rw [if_neg e1] at h1; rw [if_neg e2] at h2
      have h3 := sLt_trans h1 h2
      rw [if_neg (fun e => by rw [e] at h3; exact sLt_irrefl _ h3)]; exact h3
theorem ltE_tot {a b : DEntry} (h1 : ltE a b = false) (h2 : ltE b a = false) : a = b := by
  unfold ltE at *
  have hv : a.val = b.val := by
    by_cases e : a.val = b.val
    · exact e
    · rw [if_neg e] at h1; rw [if_neg (Ne.symm e)] at h2; exact sLt_tot h1 h2
  rw [if_pos hv] at h1
  rw [if_pos hv.symm] at h2
  have hp := sLt_tot h1 h2
  cases a; cases b
  simp only at hv hp
  subst hv; subst hp; rfl
theorem ltE_asym {a b : DEntry} (h : ltE a b = true) : ltE b a = false := by
  cases h2 : ltE b a
  · rfl
  · have := ltE_tr h h2; rw [ltE_irr] at this; cases this
theorem ltE_ntr {a b c : DEntry} (h1 : ltE a b = false) (h2 : ltE b c = false) : ltE a c = false := by
  cases h3 : ltE a c
  · rfl
  · cases h4 : ltE b a
    · have := ltE_tot h1 h4; subst this; rw [h3] at h2; cases h2
    · have := ltE_tr h4 h3; rw [h2] at this; cases this
theorem less_ltE (a b : DRow) : s_l30Less a b 1 = ltE (eR a) (eR b) := by
  unfold s_l30Less ltE eR
  show (bif a.Vals.getD 1 d_Str == b.Vals.getD 1 d_Str then sLt (a.Vals.getD 0 d_Str) (b.Vals.getD 0 d_Str) else sLt (a.Vals.getD 1 d_Str) (b.Vals.getD 1 d_Str)) = _
  dsimp only
  by_cases h : a.Vals.getD 1 d_Str = b.Vals.getD 1 d_Str
  · rw [if_pos h, h, beq_self_eq_true, cond_true]
  · rw [if_neg h, show (a.Vals.getD 1 d_Str == b.Vals.getD 1 d_Str) = false from beq_eq_false_iff_ne.2 h, cond_false]
def Srt (l : List DEntry) : Prop := l.Pairwise fun a b => ltE b a = false
theorem srt_insert {l : List DEntry} {r : DEntry} {i : Nat} (h : Srt l) (hi : i ≤ l.length) (hd : ∀ y ∈ l.drop i, ltE r y = true) (hg : 0 < i → ∀ y, l[i - 1]? = some y → ltE r y = false) : Srt (l.take i ++ r :: l.drop i) := by
  have h0 := h
  unfold Srt at h ⊢
  rw [← List.take_append_drop i l, List.pairwise_append] at h
  obtain ⟨h1, h2, h3⟩ := h
  rw [List.pairwise_append, List.pairwise_cons]
  refine ⟨h1, ⟨fun y hy => ltE_asym (hd y hy), h2⟩, fun a ha b hb => ?_⟩
  rcases List.mem_cons.1 hb with rfl | hb
  · obtain ⟨j, hj, rfl⟩ := List.mem_iff_getElem.1 ha
    rw [List.length_take] at hj
    rw [List.getElem_take]
    have hl : i - 1 < l.length := by omega
    have hlast := hg oM l[i - 1] (List.getElem?_eq_getElem hl)
    rcases Nat.lt_or_ge j (i - 1) with hlt | hge
    · exact ltE_ntr hlast (List.pairwise_iff_getElem.1 h0 j (i - 1) oM hl hlt)
    · obtain rfl : j = i - 1 := by omega
      exact hlast
  · exact h3 a ha b hb
def toE (t : DTable) (n : Str) (e : Str) : DEntry := ⟨(s_l25ReadEntry t n e).1, (s_l25ReadEntry t n e).2.1⟩
theorem pairs_sorted (t : DTable) (n : Str) {l : List DWrite} (h : l.length ≤ 24) : ((s_l30Pairs t n l).map eR).Perm ((s_l25Entries t n l).map (toE t n)) ∧ Srt ((s_l30Pairs t n l).map eR) := by
  have h1 := (pairs_inv t n l (fun k x => (x.map eR).Perm (((s_l25Entries t n l).take k).map (toE t n)) ∧ Srt (x.map eR)) ⟨List.Perm.refl _, List.Pairwise.nil⟩ (fun k x i hk hxl ⟨hp, hs⟩ hi hd hg => ?_) (ents24 t n h)).1
  · rw [List.take_length] at h1; exact h1
  have er : eR (rowE t n ((s_l25Entries t n l).getD k d_Str)) = toE t n ((s_l25Entries t n l).getD k d_Str) := rfl
  have e : (x.take i ++ rowE t n ((s_l25Entries t n l).getD k d_Str) :: x.drop i).map eR = (x.map eR).take i ++ toE t n ((s_l25Entries t n l).getD k d_Str) :: (x.map eR).drop i := by
    rw [List.map_append, List.map_cons, er, List.map_take, List.map_drop]
  rw [e]
  refine ⟨?_, srt_insert hs (by rw [List.length_map]; exact hi) (fun y hy => ?_) (fun h0 y hy => ?_)⟩
  · rw [List.take_succ_eq_append_getElem hk, List.map_append, ← getD_eq (d := d_Str) hk]
    refine List.perm_middle.trans ?_
    rw [List.take_append_drop]
    exact (List.perm_append_singleton _ _).symm.trans (List.Perm.append_right _ hp) |> fun q => q
  · rw [← List.map_drop] at hy
    obtain ⟨z, hz, rfl⟩ := List.mem_map.1 hy
    have := hd z hz
    rw [less_ltE, er] at this
    exact this
  · have hl : i - 1 < x.length := by omega
    rw [List.getElem?_map, List.getElem?_eq_getElem hl, Option.map_some, Option.some.injEq] at hy
    subst hy
    have := hg h0
    rw [less_ltE, er, getD_eq hl] at this
    exact this
theorem srt_unique {a b : List DEntry} (hp : a.Perm b) (ha : Srt a) (hb : Srt b) : a = b :=
  hp.eq_of_pairwise (le := fun x y => ltE y x = false) (fun x y _ _ h1 h2 => (ltE_tot h1 h2).symm) ha hb
theorem sortE_srt (l : List DEntry) : Srt (g_slices_SortFunc_entry l) := by
  unfold Srt g_slices_SortFunc_entry
  have h := List.pairwise_mergeSort (le := fun x y => !decide (cE y x < 0)) (fun a b c h1 h2 => by
    rw [cE_neg, Bool.not_eq_true'] at *
    exact ltE_ntr h2 h1) (fun a b => by
    rw [cE_neg, cE_neg]
    cases h1 : ltE b a
    · rfl
    · rw [ltE_asym h1]; rfl) l
  refine h.imp fun {a b} h => ?_
  rw [cE_neg, Bool.not_eq_true'] at h
  exact h
theorem sortE_perm (l : List DEntry) : (g_slices_SortFunc_entry l).Perm l := List.mergeSort_perm _ _
def inE (s : DStmt) (e : DEntry) : Bool := !(sLt e.val s.Low) && sLe e.val s.High
theorem sorted_filter (t : DTable) (n : Str) (s : DStmt) {l : List DWrite} (h : l.length ≤ 24) : g_slices_SortFunc_entry (((s_l25Entries t n l).map (toE t n)).filter (inE s)) = ((s_l30Pairs t n l).map eR).filter (inE s) := by
  obtain ⟨h1, h2⟩ := pairs_sorted t n h
  exact srt_unique ((sortE_perm _).trans (h1.symm.filter _)) (sortE_srt _) (List.Pairwise.filter _ h2)
theorem filter_one {α : Type} {q : α → Bool} : ∀ {xs : List α} {i : Nat} (hi : i < xs.length), q xs[i] = true → (∀ j (hj : j < xs.length), j ≠ i → q xs[j] = false) → xs.filter q = [xs[i]]
  | x :: xs, 0, hi, h, ho => by
    have h2 : xs.filter q = [] := List.filter_eq_nil_iff.2 fun y hy => by
      obtain ⟨j, hj, rfl⟩ := List.mem_iff_getElem.1 hy
      have := ho (j + 1) (by rw [List.length_cons]; omega) oM
      rw [List.getElem_cons_succ] at this
      rw [this]; exact Bool.false_ne_true
    rw [List.getElem_cons_zero] at h ⊢
    rw [List.filter_cons, if_pos h, h2]
  | x :: xs, i + 1, hi, h, ho => by
    have h1 := ho 0 (by rw [List.length_cons]; omega) oM
    rw [List.getElem_cons_zero] at h1
    rw [List.filter_cons, h1, if_neg Bool.false_ne_true]
    rw [List.getElem_cons_succ] at h ⊢
    exact filter_one (by rw [List.length_cons] at hi; omega) h fun j hj hne => by
      have := ho (j + 1) (by rw [List.length_cons]; omega) oM
      rw [List.getElem_cons_succ] at this; exact this
theorem keyed_filter (t : DTable) (l : List DWrite) (k : Str) : s_l30Keyed t l k = (s_l25Rows t l).filter fun r => r.Vals.getD 0 d_Str == k := by
  unfold s_l30Keyed
  refine loopM_val (fun j (p : List DRow) => p = ((s_l25Rows t l).take j).filter fun r => r.Vals.getD 0 d_Str == k) (fun (v : List DRow) => v = (s_l25Rows t l).filter fun r => r.Vals.getD 0 d_Str == k) rfl (fun s h => by rw [h, List.take_of_length_le oM]) ?_
  intro j s _ hj hs
  have hj' : j < (s_l25Rows t l).length := by omega
  unfold B_s_l30Keyed_0
  dsimp only
  rw [List.take_succ_eq_append_getElem hj', List.filter_append, ← hs, ← getD_eq (d := d_Row) hj', List.filter_cons]
  cases (((s_l25Rows t l).getD j d_Row).Vals.getD 0 d_Str == k) <;> simp
theorem rows_apart {t : DTable} {l : List DWrite} (hg : s_GoodTable t = true) (hr : i_isRows l = true) : (s_l25Rows t l).Pairwise fun a b => a.Vals.getD 0 d_Str ≠ b.Vals.getD 0 d_Str := by
  have hg' : i_GoodTable t = true := by rw [GoodTable_eq]; exact hg
  rw [← rowsIn_eq hg, rowsIn_map, List.pairwise_map, List.pairwise_filter]
  refine (keys_apart hr).imp fun {a b} hab ha hb e => hab ?_
  obtain ⟨a1, a2⟩ := read_wrote hg' ha
  obtain ⟨b1, b2⟩ := read_wrote hg' hb
  rw [← a2, ← b2, row_key, row_key, e]
theorem rowAt_keyed {t : DTable} {l : List DWrite} (hg : s_GoodTable t = true) (hr : i_isRows l = true) (k : Str) : s_l30Keyed t l k = bif (i_Table_rowAt t l k).2 then [(i_Table_rowAt t l k).1] else [] := by
  rw [keyed_filter]
  unfold i_Table_rowAt
  rw [rowsIn_eq hg, IndexFunc_Row]
  have hq : (fun y0 => i_Table_rowAt_c1 y0 k) = fun r : DRow => r.Vals.getD 0 d_Str == k := rfl
  rw [hq]
  have hp := rows_apart hg hr
  generalize s_l25Rows t l = xs at *
  rcases idxF_spec (fun r : DRow => r.Vals.getD 0 d_Str == k) d_Row xs with ⟨h, h2⟩ | ⟨i, hi, h, h2, _⟩
  · rw [h]
    show _ = []
    exact List.filter_eq_nil_iff.2 fun y hy => by rw [h2 y hy]; exact Bool.false_ne_true
  · rw [h, decide_eq_false oM]
    show _ = [xs.getD ((i : Int).toNat) d_Row]
    rw [show ((i : Int).toNat) = i from rfl, getD_eq hi]
    refine filter_one hi h2 fun j hj hne => ?_
    rw [List.pairwise_iff_getElem] at hp
    have hi2 := eq_of_beq h2
    refine beq_eq_false_iff_ne.2 fun e => ?_
    rcases Nat.lt_or_ge j i with hlt | hge
    · exact hp j i hj hi hlt (e.trans hi2.symm)
    · exact hp i j hi hj oM (hi2.trans e.symm)
theorem ask_loop0 {t : DTable} {l : List DWrite} {s : DStmt} (h : i_hasIdx t s.Idx = true) (hr : i_isRows l = true) {T : Type} (fr : List DRow × Bool → T) (fd : List DEntry → T) : loopE (loopM (B_i_Table_askStore_0 t l s) ((i_Table_entriesIn t s.Idx l).length - 0) 0 ([] : List DEntry)) fr fd = fd (((s_l25Entries t s.Idx l).map (toE t s.Idx)).filter (inE s)) := by
  have he := entries_eq h (isRows_w hr)
  have hw := (f_l3Writes (isRows_w hr)).2
  have hk : ∀ e ∈ i_Table_entriesIn t s.Idx l, i_Table_readIdxKey t s.Idx e = s_l25ReadEntry t s.Idx e := fun e hm => by
    rw [entriesIn_map] at hm
    obtain ⟨w, hw1, rfl⟩ := List.mem_map.1 hm
    obtain ⟨j, hj, rfl⟩ := List.mem_iff_getElem.1 (List.mem_filter.1 hw1).1
    have := (hw j hj).1
    rw [getD_eq hj] at this
    exact read_eq (slash_head h) oM
  rw [← he]
  refine loopM_val (fun k (p : List DEntry) => p = (((i_Table_entriesIn t s.Idx l).take k).map (toE t s.Idx)).filter (inE s)) (fun (v : T) => v = fd (((i_Table_entriesIn t s.Idx l).map (toE t s.Idx)).filter (inE s))) rfl (fun x hx => by rw [hx, List.take_of_length_le oM]) ?_
  intro j x _ hj hx
  have hj' : j < (i_Table_entriesIn t s.Idx l).length := by omega
  unfold B_i_Table_askStore_0
  dsimp only
  rw [hk _ (getD_mem hj'), List.take_succ_eq_append_getElem hj', List.map_append, List.filter_append, ← hx, ← getD_eq (d := d_Str) hj', List.map_cons, List.map_nil, List.filter_cons]
  unfold inE
  have e3 : (⟨(s_l25ReadEntry t s.Idx ((i_Table_entriesIn t s.Idx l).getD j d_Str)).1, (s_l25ReadEntry t s.Idx ((i_Table_entriesIn t s.Idx l).getD j d_Str)).2.1⟩ : DEntry) = toE t s.Idx ((i_Table_entriesIn t s.Idx l).getD j d_Str) := rfl
  have e1 : (s_l25ReadEntry t s.Idx ((i_Table_entriesIn t s.Idx l).getD j d_Str)).1 = (toE t s.Idx ((i_Table_entriesIn t s.Idx l).getD j d_Str)).val := rfl
  rw [e3, e1]
  generalize toE t s.Idx ((i_Table_entriesIn t s.Idx l).getD j d_Str) = e
  cases sLt e.val s.Low <;> cases sLe e.val s.High <;> simp
theorem ask_loop1 {t : DTable} {l : List DWrite} (hg : s_GoodTable t = true) (hr : i_isRows l = true) (s : DStmt) (x : List DEntry) {T : Type} (fr : List DRow × Bool → T) (fd : List DRow → T) : loopE (loopM (B_i_Table_askStore_1 t l s x) (x.length - 0) 0 ([] : List DRow)) fr fd = fd ((g_slices_SortFunc_entry x).flatMap fun e => s_l30Keyed t l e.primary) := by
  have hl := len_sortE x
  refine loopM_val (fun k (p : List DRow) => p = ((g_slices_SortFunc_entry x).take k).flatMap fun e => s_l30Keyed t l e.primary) (fun (v : T) => v = fd ((g_slices_SortFunc_entry x).flatMap fun e => s_l30Keyed t l e.primary)) rfl (fun p hp => by rw [hp, List.take_of_length_le oM]) ?_
  intro j p _ hj hp
  have hj' : j < (g_slices_SortFunc_entry x).length := by omega
  unfold B_i_Table_askStore_1
  dsimp only
  rw [List.take_succ_eq_append_getElem hj', List.flatMap_append, ← hp, ← getD_eq (d := d_Entry) hj', List.flatMap_cons, List.flatMap_nil, List.append_nil, rowAt_keyed hg hr]
  cases (i_Table_rowAt t l ((g_slices_SortFunc_entry x).getD j d_Entry).primary).2
  · exact (List.append_nil _).symm
  · rfl
theorem ask_loop2 (t : DTable) (l : List DWrite) (s : DStmt) {T : Type} (fr : List DRow × Bool → T) (fd : List DRow → T) : loopE (loopM (B_s_l30Ask_0 t l s) ((s_l30Pairs t s.Idx l).length - 0) 0 ([] : List DRow)) fr fd = fd ((((s_l30Pairs t s.Idx l).map eR).filter (inE s)).flatMap fun e => s_l30Keyed t l e.primary) := by
  refine loopM_val (fun k (p : List DRow) => p = ((((s_l30Pairs t s.Idx l).take k).map eR).filter (inE s)).flatMap fun e => s_l30Keyed t l e.primary) (fun (v : T) => v = fd ((((s_l30Pairs t s.Idx l).map eR).filter (inE s)).flatMap fun e => s_l30Keyed t l e.primary)) rfl (fun p hp => by rw [hp, List.take_of_length_le oM]) ?_
  intro j p _ hj hp
  have hj' : j < (s_l30Pairs t s.Idx l).length := by omega
  unfold B_s_l30Ask_0
  dsimp only
  rw [List.take_succ_eq_append_getElem hj', List.map_append, List.filter_append, List.flatMap_append, ← hp, ← getD_eq (d := d_Row) hj', List.map_cons, List.map_nil, List.filter_cons]
  unfold inE
  have e1 : ((s_l30Pairs t s.Idx l).getD j d_Row).Vals.getD 1 d_Str = (eR ((s_l30Pairs t s.Idx l).getD j d_Row)).val := rfl
  have e2 : ((s_l30Pairs t s.Idx l).getD j d_Row).Vals.getD 0 d_Str = (eR ((s_l30Pairs t s.Idx l).getD j d_Row)).primary := rfl
  rw [e1, e2]
  generalize eR ((s_l30Pairs t s.Idx l).getD j d_Row) = e
  cases sLt e.val s.Low <;> cases sLe e.val s.High <;> simp
theorem askStore_eq {t : DTable} {s : DStmt} {l : List DWrite} (h : s_GoodStmt t s = true) (hr : i_isRows l = true) : i_Table_askStore t l s = s_l30Ask t l s := by
  have hg := good_stmt h
  unfold i_Table_askStore s_l30Ask
  rw [rowAt_keyed hg hr]
  cases h1 : decide (s.Kind = 2)
  · cases h2 : decide (s.Kind = 3)
    · rfl
    · have hk := of_decide_eq_true h2
      have hi := ask_has h hk
      have h24 := rows24 (l := l) (by rw [l5Rows_eq]; exact hr)
      have hst := gt_idx hg (k := (s_l24Idx t s.Idx).toNat) (by have := ask_idx h hk; omega)
      simp only [cond_true, cond_false]
      rw [idx_eq, ask_loop0 hi hr, ask_loop1 hg hr, ask_loop2, sorted_filter t s.Idx s h24]
      by_cases h3 : (t.Idxs.getD (s_l24Idx t s.Idx).toNat d_Idx).Stage = 3
      · rw [decide_eq_true h3, decide_eq_false oM]; rfl
      · rw [decide_eq_false h3, decide_eq_true oM]; rfl
  · simp only [cond_true]
    cases (i_Table_rowAt t l s.Low).2 <;> rfl
theorem AskStore_eq (t : DTable) (l : List DWrite) (s : DStmt) : i_AskStore t l s = s_AskStore t l s := by
  unfold i_AskStore s_AskStore
  rw [GoodStmt_eq, l5Rows_eq]
  cases h : s_GoodStmt t s
  · rfl
  · cases hr : i_isRows l
    · rfl
    · rw [askStore_eq h hr]
theorem flat_keyed {t : DTable} {l : List DWrite} (hg : s_GoodTable t = true) (hr : i_isRows l = true) (x : List DEntry) : (x.flatMap fun e => s_l30Keyed t l e.primary).length ≤ x.length ∧ ∀ y ∈ x.flatMap fun e => s_l30Keyed t l e.primary, y ∈ s_l25Rows t l := by
  refine ⟨?_, fun y hy => ?_⟩
  · induction x with
    | nil => exact Nat.le_refl _
    | cons e x ih =>
      rw [List.flatMap_cons, List.length_append, List.length_cons, rowAt_keyed hg hr]
      cases (i_Table_rowAt t l e.primary).2
      · show 0 + _ ≤ _; omega
      · show 1 + _ ≤ _; omega
  · obtain ⟨e, _, he⟩ := List.mem_flatMap.1 hy
    exact keyed_mem he
theorem ask_rows {t : DTable} {s : DStmt} {l : List DWrite} (h : s_GoodStmt t s = true) (hr : i_isRows l = true) : (s_l30Ask t l s).1.length ≤ l.length ∧ ∀ y ∈ (s_l30Ask t l s).1, y ∈ s_l25Rows t l := by
  have hg := good_stmt h
  have h24 := rows24 (l := l) (by rw [l5Rows_eq]; exact hr)
  unfold s_l30Ask
  rw [ask_loop2]
  cases decide (s.Kind = 2)
  · cases decide (s.Kind = 3)
    · exact ⟨Nat.zero_le _, fun _ h => by cases h⟩
    · cases decide ((t.Idxs.getD (s_l24Idx t s.Idx).toNat d_Idx).Stage < 3)
      · obtain ⟨h1, h2⟩ := flat_keyed hg hr (((s_l30Pairs t s.Idx l).map eR).filter (inE s))
        refine ⟨Nat.le_trans h1 (Nat.le_trans (List.length_filter_le _ _) ?_), h2⟩
        rw [List.length_map]
        exact pairs_le t s.Idx l h24
      · exact ⟨Nat.zero_le _, fun _ h => by cases h⟩
  · exact ⟨keyed_le t l s.Low, fun y hy => keyed_mem hy⟩
theorem ask_cnt (t : DTable) (l : List DWrite) (s : DStmt) : cntL c_Row (i_AskStore t l s).1 ≤ 4 * l.length := by
  rw [AskStore_eq]
  unfold s_AskStore
  cases h : s_GoodStmt t s
  · exact Nat.zero_le _
  · cases hr : s_l5Rows l
    · exact Nat.zero_le _
    · obtain ⟨h1, h2⟩ := ask_rows h (l := l) (by rw [← l5Rows_eq]; exact hr)
      show cntL c_Row (s_l30Ask t l s).1 ≤ _
      have hc := (GoodT.of (good_stmt h)).cols
      have := cntL_le (c := c_Row) (m := 4) (xs := (s_l30Ask t l s).1) fun x hx => by
        have := (f_s_l25Good ((rows_good t l).2 x (h2 x hx))).1
        unfold c_Row; omega
      omega
theorem true_AskStore (t : DTable) (l : List DWrite) (s : DStmt) (hw : wf_Table t) (hw2 : (wfL wf_Write) l) (hw3 : wf_Stmt s) : l_FnExactAskStore t l s = true := by
  unfold l_FnExactAskStore
  cases h1 : decide (l_szTable t 1048576 < 0)
  case true => rfl
  cases h2 : decide (l_szWriteS l (l_szTable t 1048576) < 0)
  case true => rfl
  cases h3 : decide (l_szStmt s (l_szWriteS l (l_szTable t 1048576)) < 0)
  case true => rfl
  have hl := szTable_len hw (of_decide_eq_false h1)
  have hz := szok_Table hw (by decide) (of_decide_eq_false h1)
  have hz2 := szok_WriteS hw2 hz.2 (of_decide_eq_false h2)
  have ho : l.length ≤ 2147483648 := hz2.1.1
  have hal := (szok_Stmt hw3 hz2.2 (of_decide_eq_false h3)).1
  have hl1 := hal.1.1.1
  have hl2 := hal.1.2.1
  have hc := ask_cnt t l s
  obtain ⟨_, m1⟩ := mh_Table t 1 (by decide) oM
  obtain ⟨_, m2, _⟩ := mh_WriteS l (l_markTable t 1).1 oM oM
  obtain ⟨_, m3⟩ := mh_Stmt s (l_markWriteS l (l_markTable t 1).1).1 oM oM
  obtain ⟨m4, m5, _⟩ := mh_RowS (i_AskStore t l s).1 1 (by decide) oM
  simp only [cond_false, ← AskStore_eq, eq_Table, eq_WriteS, eq_Stmt, eq_RowS, beq_self_eq_true, cond_true, m4]
  rw [m3, decide_eq_false oM, cond_false, m5, decide_eq_false oM, cond_false, decide_true]; rfl

end Go.Proofs.YtgehpfmdnkmiaaaGreatDoor
