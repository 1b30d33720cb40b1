/- Stmt Ops: plain laws of the models. -/
import Derived.Test.YtjeafbkejeallaaStmtOpsT
set_option linter.unusedVariables false
set_option linter.unusedSimpArgs false
namespace Go.Proofs.Ytjeafbkejeallaa
open Go.RowKit Go.X
theorem szok_Idx {x : DIdx} {L : Int} (hw : wf_Idx x) (hL : 0 ≤ L ∧ L ≤ 1048576) (h : ¬ l_szIdx x L < 0) : ok_Idx x ∧ 0 ≤ l_szIdx x L ∧ l_szIdx x L ≤ 1048576 := by
  unfold l_szIdx at h ⊢
  obtain ⟨a0, e0, h⟩ := szc h
  rw [e0]
  have s0 := szS_ok hw.1 hL a0
  exact ⟨s0.1, s0.2⟩
theorem to_Idx (x : DIdx) : l_toIdx x = x := rfl
theorem eq_Idx (x : DIdx) : l_eqIdx x x = true := by unfold l_eqIdx; simp only [beq_self_eq_true, cond_true, decide_true]
theorem sze_StringS (x : List Str) (L : Int) : l_szStringS x L = szLL (fun s L => IntKind.wrap .i64 (L - (s.length : Int))) d_Str x L := by
  unfold l_szStringS szLL szL
  have : B_l_szStringS_0 x L = fun k y => bif decide (IntKind.wrap .i64 (y - ((x.getD k d_Str).length : Int)) < 0) then .ret (-1) else .cont (IntKind.wrap .i64 (y - ((x.getD k d_Str).length : Int))) := by
    funext k y; rfl
  rw [this]
theorem szok_StringS {x : List Str} {L : Int} (hw : (wfL wfS) x) (hL : 0 ≤ L ∧ L ≤ 1048576) (h : ¬ l_szStringS x L < 0) : (okL okS) x ∧ 0 ≤ l_szStringS x L ∧ l_szStringS x L ≤ 1048576 := by
  rw [sze_StringS] at h ⊢
  exact szLL_ok d_Str szS_ok hw hL h
theorem to_StringS (x : List Str) : l_toStringS x = x := toL_id d_Str (f := fun s => s) (fun _ => rfl) x
theorem eq_StringS (x : List Str) : l_eqStringS x x = true := eqL_refl d_Str (f := fun a b => a == b) (fun _ => beq_self_eq_true _) x
theorem szok_IdxS {x : List DIdx} {L : Int} (hw : (wfL wf_Idx) x) (hL : 0 ≤ L ∧ L ≤ 1048576) (h : ¬ l_szIdxS x L < 0) : (okL ok_Idx) x ∧ 0 ≤ l_szIdxS x L ∧ l_szIdxS x L ≤ 1048576 := szLL_ok d_Idx (f := l_szIdx) szok_Idx hw hL h
theorem to_IdxS (x : List DIdx) : l_toIdxS x = x := toL_id d_Idx (f := fun s => s) (fun _ => rfl) x
theorem eq_IdxS (x : List DIdx) : l_eqIdxS x x = true := eqL_refl d_Idx (f := l_eqIdx) eq_Idx x
theorem szok_Table {x : DTable} {L : Int} (hw : wf_Table x) (hL : 0 ≤ L ∧ L ≤ 1048576) (h : ¬ l_szTable x L < 0) : ok_Table x ∧ 0 ≤ l_szTable x L ∧ l_szTable x L ≤ 1048576 := by
  unfold l_szTable at h ⊢
  obtain ⟨a0, e0, h⟩ := szc h
  rw [e0]
  have s0 := szS_ok hw.1 hL a0
  obtain ⟨a1, e1, h⟩ := szc h
  rw [e1]
  have s1 := szok_StringS hw.2.1 s0.2 a1
  obtain ⟨a2, e2, h⟩ := szc h
  rw [e2]
  have s2 := szok_IdxS hw.2.2 s1.2 a2
  exact ⟨⟨s0.1, s1.1, s2.1⟩, s2.2⟩
theorem to_Table (x : DTable) : l_toTable x = x := rfl
theorem eq_Table (x : DTable) : l_eqTable x x = true := by unfold l_eqTable; simp only [eq_StringS, eq_IdxS, beq_self_eq_true, cond_true, decide_true]
theorem eq_Op (x : DOp) : l_eqOp x x = true := by unfold l_eqOp; simp only [beq_self_eq_true, cond_true, decide_true]
theorem szok_Row {x : DRow} {L : Int} (hw : wf_Row x) (hL : 0 ≤ L ∧ L ≤ 1048576) (h : ¬ l_szRow x L < 0) : ok_Row x ∧ 0 ≤ l_szRow x L ∧ l_szRow x L ≤ 1048576 := by
  unfold l_szRow at h ⊢
  obtain ⟨a0, e0, h⟩ := szc h
  rw [e0]
  have s0 := szok_StringS hw hL a0
  exact ⟨s0.1, s0.2⟩
theorem to_Row (x : DRow) : l_toRow x = x := rfl
theorem eq_Row (x : DRow) : l_eqRow x x = true := by unfold l_eqRow; simp only [eq_StringS, beq_self_eq_true, cond_true, decide_true]
theorem szok_RowAct {x : DRowAct} {L : Int} (hw : wf_RowAct x) (hL : 0 ≤ L ∧ L ≤ 1048576) (h : ¬ l_szRowAct x L < 0) : ok_RowAct x ∧ 0 ≤ l_szRowAct x L ∧ l_szRowAct x L ≤ 1048576 := by
  unfold l_szRowAct at h ⊢
  obtain ⟨a0, e0, h⟩ := szc h
  rw [e0]
  have s0 := szok_Row hw.2.1 hL a0
  obtain ⟨a1, e1, h⟩ := szc h
  rw [e1]
  have s1 := szok_Row hw.2.2 s0.2 a1
  exact ⟨⟨s0.1, s1.1⟩, s1.2⟩
theorem to_RowAct (x : DRowAct) : l_toRowAct x = x := rfl
theorem eq_RowAct (x : DRowAct) : l_eqRowAct x x = true := by unfold l_eqRowAct; simp only [eq_Row, beq_self_eq_true, cond_true, decide_true]
theorem szok_Stmt {x : DStmt} {L : Int} (hw : wf_Stmt x) (hL : 0 ≤ L ∧ L ≤ 1048576) (h : ¬ l_szStmt x L < 0) : ok_Stmt x ∧ 0 ≤ l_szStmt x L ∧ l_szStmt x L ≤ 1048576 := by
  unfold l_szStmt at h ⊢
  obtain ⟨a0, e0, h⟩ := szc h
  rw [e0]
  have s0 := szok_RowAct hw.2.1 hL a0
  obtain ⟨a1, e1, h⟩ := szc h
  rw [e1]
  have s1 := szS_ok hw.2.2.1 s0.2 a1
  obtain ⟨a2, e2, h⟩ := szc h
  rw [e2]
  have s2 := szS_ok hw.2.2.2.1 s1.2 a2
  obtain ⟨a3, e3, h⟩ := szc h
  rw [e3]
  have s3 := szS_ok hw.2.2.2.2 s2.2 a3
  exact ⟨⟨s0.1, s1.1, s2.1, s3.1⟩, s3.2⟩
theorem to_Stmt (x : DStmt) : l_toStmt x = x := rfl
theorem eq_Stmt (x : DStmt) : l_eqStmt x x = true := by unfold l_eqStmt; simp only [eq_RowAct, beq_self_eq_true, cond_true, decide_true]
theorem eq_OpS (x : List DOp) : l_eqOpS x x = true := eqL_refl d_Op (f := l_eqOp) eq_Op x
def mk_Op (_ : DOp) (k : Int) : Int × DOp := (IntKind.wrap .i64 ((IntKind.wrap .i64 ((IntKind.wrap .i64 ((IntKind.wrap .i64 (k + 1)) + 1)) + 1)) + 1), ⟨k, l_markText (IntKind.wrap .i64 (k + 1)), l_markText (IntKind.wrap .i64 ((IntKind.wrap .i64 (k + 1)) + 1)), IntKind.wrap .i64 ((IntKind.wrap .i64 ((IntKind.wrap .i64 (k + 1)) + 1)) + 1)⟩)
theorem mkc_Op (x : DOp) (k : Int) (h0 : 0 ≤ k) (h1 : k + ((4 : Nat) : Int) ≤ 4611686018427387904) : (mk_Op x k).1 = k + ((4 : Nat) : Int) := by
  unfold mk_Op
  simp only [IntKind.wrap_i64]; omega
theorem mark_OpS (a : List DOp) (k : Int) : l_markOpS a k = mkL mk_Op a k := by
  unfold l_markOpS
  exact markE (d := d_Op) (mk := mk_Op) (fun i k xs hi => by unfold B_l_markOpS_0; simp only [List.set_set, getD_set_self hi, mk_Op]) a k
theorem held_OpS (a : List DOp) (k : Int) (h0 : 0 ≤ k) (h1 : k + (cntL (fun _ => 4) a : Int) ≤ 4611686018427387904) : l_heldOpS (l_markOpS a k).2 k = (l_markOpS a k).1 := by
  rw [mark_OpS]
  unfold l_heldOpS
  exact heldE (d := d_Op) (mk := mk_Op) (c := fun _ => 4) a k mkc_Op (fun i k x hx _ _ => by unfold B_l_heldOpS_0; simp only [hx, mk_Op, eq_self, decide_true, beq_self_eq_true, cond_true]) h0 h1
theorem mh_OpS (a : List DOp) (k : Int) (h0 : 0 ≤ k) (h1 : k + (((4 : Nat) * a.length : Nat) : Int) ≤ 4611686018427387904) : l_heldOpS (l_markOpS a k).2 k = (l_markOpS a k).1 ∧ (l_markOpS a k).1 = k + (((4 : Nat) * a.length : Nat) : Int) ∧ (l_markOpS a k).2.length = a.length := by
  rw [← cntL_const] at h1 ⊢
  refine ⟨held_OpS a k h0 h1, ?_, ?_⟩
  · rw [mark_OpS]; exact mkL_cnt mkc_Op a k h0 h1
  · rw [mark_OpS]; exact mkL_length _ _ _
theorem rf_markOpS (a : List DOp) (k : Int) (h : k ≤ 9223372036854775807) : (l_markOpS a k).1 ≤ 9223372036854775807 := by
  unfold l_markOpS
  refine loopM_val (fun _ (s : Int × List DOp) => s.1 ≤ 9223372036854775807) (fun (v : Int × List DOp) => v.1 ≤ 9223372036854775807) h (fun s hs => hs) ?_
  rintro j ⟨k, x⟩ _ _ hk
  exact wrap_le _
theorem rf_heldOpS (a : List DOp) (k : Int) (h : k ≤ 9223372036854775807) : l_heldOpS a k ≤ 9223372036854775807 := by
  unfold l_heldOpS
  refine loopM_val (fun _ (s : Int) => s ≤ 9223372036854775807) (fun v => v ≤ 9223372036854775807) h (fun s hs => hs) ?_
  intro j k' _ _ hk
  unfold B_l_heldOpS_0
  dsimp only
  cases decide (((a.getD j d_Op).Kind) = k') <;> cases (((a.getD j d_Op).Key) == l_markText (IntKind.wrap .i64 (k' + 1))) <;> cases (((a.getD j d_Op).Val) == l_markText (IntKind.wrap .i64 ((IntKind.wrap .i64 (k' + 1)) + 1))) <;> cases decide (((a.getD j d_Op).By) = IntKind.wrap .i64 ((IntKind.wrap .i64 ((IntKind.wrap .i64 (k' + 1)) + 1)) + 1)) <;> first | exact wrap_le _ | exact neg1_le
theorem IndexFunc_Idx (xs : List DIdx) (f : DIdx → Bool) : g_slices_IndexFunc_Idx xs f = idxF f d_Idx xs := rfl
theorem ContainsFunc_string (xs : List Str) (f : Str → Bool) : g_slices_ContainsFunc_string xs f = xs.any f := idxF_any f d_Str xs
theorem Contains_string (xs : List Str) (y : Str) : g_slices_Contains_string xs y = xs.any (fun x => y == x) := idxF_any _ d_Str xs
def mk_String (_ : Str) (k : Int) : Int × Str := (IntKind.wrap .i64 (k + 1), l_markText k)
theorem mkc_String (x : Str) (k : Int) (h0 : 0 ≤ k) (h1 : k + ((1 : Nat) : Int) ≤ 4611686018427387904) : (mk_String x k).1 = k + ((1 : Nat) : Int) := by
  unfold mk_String
  simp only [IntKind.wrap_i64]; omega
theorem mark_StringS (a : List Str) (k : Int) : l_markStringS a k = mkL mk_String a k := by
  unfold l_markStringS
  exact markE (d := d_Str) (mk := mk_String) (fun i k xs hi => by unfold B_l_markStringS_0; simp only [List.set_set, getD_set_self hi, mk_String]) a k
theorem held_StringS (a : List Str) (k : Int) (h0 : 0 ≤ k) (h1 : k + (cntL (fun _ => 1) a : Int) ≤ 4611686018427387904) : l_heldStringS (l_markStringS a k).2 k = (l_markStringS a k).1 := by
  rw [mark_StringS]
  unfold l_heldStringS
  exact heldE (d := d_Str) (mk := mk_String) (c := fun _ => 1) a k mkc_String (fun i k x hx _ _ => by unfold B_l_heldStringS_0; simp only [hx, mk_String, eq_self, decide_true, beq_self_eq_true, cond_true]) h0 h1
theorem mh_StringS (a : List Str) (k : Int) (h0 : 0 ≤ k) (h1 : k + (((1 : Nat) * a.length : Nat) : Int) ≤ 4611686018427387904) : l_heldStringS (l_markStringS a k).2 k = (l_markStringS a k).1 ∧ (l_markStringS a k).1 = k + (((1 : Nat) * a.length : Nat) : Int) ∧ (l_markStringS a k).2.length = a.length := by
  rw [← cntL_const] at h1 ⊢
  refine ⟨held_StringS a k h0 h1, ?_, ?_⟩
  · rw [mark_StringS]; exact mkL_cnt mkc_String a k h0 h1
  · rw [mark_StringS]; exact mkL_length _ _ _
theorem rf_markStringS (a : List Str) (k : Int) (h : k ≤ 9223372036854775807) : (l_markStringS a k).1 ≤ 9223372036854775807 := by
  unfold l_markStringS
  refine loopM_val (fun _ (s : Int × List Str) => s.1 ≤ 9223372036854775807) (fun (v : Int × List Str) => v.1 ≤ 9223372036854775807) h (fun s hs => hs) ?_
  rintro j ⟨k, x⟩ _ _ hk
  exact wrap_le _
def mk_Idx (_ : DIdx) (k : Int) : Int × DIdx := (IntKind.wrap .i64 ((IntKind.wrap .i64 ((IntKind.wrap .i64 (k + 1)) + 1)) + 1), ⟨l_markText k, IntKind.wrap .i64 (k + 1), IntKind.wrap .i64 ((IntKind.wrap .i64 (k + 1)) + 1)⟩)
theorem mkc_Idx (x : DIdx) (k : Int) (h0 : 0 ≤ k) (h1 : k + ((3 : Nat) : Int) ≤ 4611686018427387904) : (mk_Idx x k).1 = k + ((3 : Nat) : Int) := by
  unfold mk_Idx
  simp only [IntKind.wrap_i64]; omega
theorem mark_IdxS (a : List DIdx) (k : Int) : l_markIdxS a k = mkL mk_Idx a k := by
  unfold l_markIdxS
  exact markE (d := d_Idx) (mk := mk_Idx) (fun i k xs hi => by unfold B_l_markIdxS_0; simp only [List.set_set, getD_set_self hi, mk_Idx]) a k
theorem held_IdxS (a : List DIdx) (k : Int) (h0 : 0 ≤ k) (h1 : k + (cntL (fun _ => 3) a : Int) ≤ 4611686018427387904) : l_heldIdxS (l_markIdxS a k).2 k = (l_markIdxS a k).1 := by
  rw [mark_IdxS]
  unfold l_heldIdxS
  exact heldE (d := d_Idx) (mk := mk_Idx) (c := fun _ => 3) a k mkc_Idx (fun i k x hx _ _ => by unfold B_l_heldIdxS_0; simp only [hx, mk_Idx, eq_self, decide_true, beq_self_eq_true, cond_true]) h0 h1
theorem mh_IdxS (a : List DIdx) (k : Int) (h0 : 0 ≤ k) (h1 : k + (((3 : Nat) * a.length : Nat) : Int) ≤ 4611686018427387904) : l_heldIdxS (l_markIdxS a k).2 k = (l_markIdxS a k).1 ∧ (l_markIdxS a k).1 = k + (((3 : Nat) * a.length : Nat) : Int) ∧ (l_markIdxS a k).2.length = a.length := by
  rw [← cntL_const] at h1 ⊢
  refine ⟨held_IdxS a k h0 h1, ?_, ?_⟩
  · rw [mark_IdxS]; exact mkL_cnt mkc_Idx a k h0 h1
  · rw [mark_IdxS]; exact mkL_length _ _ _
theorem rf_markIdxS (a : List DIdx) (k : Int) (h : k ≤ 9223372036854775807) : (l_markIdxS a k).1 ≤ 9223372036854775807 := by
  unfold l_markIdxS
  refine loopM_val (fun _ (s : Int × List DIdx) => s.1 ≤ 9223372036854775807) (fun (v : Int × List DIdx) => v.1 ≤ 9223372036854775807) h (fun s hs => hs) ?_
  rintro j ⟨k, x⟩ _ _ hk
  exact wrap_le _
theorem mh_Table (a : DTable) (k : Int) (h0 : 0 ≤ k) (h1 : k + ((1 * a.Cols.length + 3 * a.Idxs.length : Nat) : Int) ≤ 4611686018427387904) : l_heldTable (l_markTable a k).2 k = (l_markTable a k).1 ∧ (l_markTable a k).1 = k + ((1 * a.Cols.length + 3 * a.Idxs.length : Nat) : Int) := by
  obtain ⟨e0, n0, _⟩ := mh_StringS a.Cols k (by omega) (by omega)
  obtain ⟨e1, n1, _⟩ := mh_IdxS a.Idxs (k + ((1 * a.Cols.length : Nat) : Int)) (by omega) (by omega)
  have q1 : l_heldTable (l_markTable a k).2 k = (k + ((1 * a.Cols.length : Nat) : Int)) + ((3 * a.Idxs.length : Nat) : Int) := by unfold l_heldTable l_markTable; simp only [e0, n0, e1, n1, decide_eq_false (show ¬ k + ((1 * a.Cols.length : Nat) : Int) < 0 by omega), decide_eq_false (show ¬ (k + ((1 * a.Cols.length : Nat) : Int)) + ((3 * a.Idxs.length : Nat) : Int) < 0 by omega), cond_false]
  have q2 : (l_markTable a k).1 = (k + ((1 * a.Cols.length : Nat) : Int)) + ((3 * a.Idxs.length : Nat) : Int) := by unfold l_markTable; simp only [n0, n1]
  exact ⟨q1.trans q2.symm, q2.trans (by omega)⟩
theorem rf_markTable (a : DTable) (k : Int) (h : k ≤ 9223372036854775807) : (l_markTable a k).1 ≤ 9223372036854775807 := by
  unfold l_markTable
  exact (rf_markIdxS _ _ (rf_markStringS _ _ h))
theorem mh_Row (a : DRow) (k : Int) (h0 : 0 ≤ k) (h1 : k + ((1 * a.Vals.length : Nat) : Int) ≤ 4611686018427387904) : l_heldRow (l_markRow a k).2 k = (l_markRow a k).1 ∧ (l_markRow a k).1 = k + ((1 * a.Vals.length : Nat) : Int) := by
  obtain ⟨e0, n0, _⟩ := mh_StringS a.Vals k (by omega) (by omega)
  have q1 : l_heldRow (l_markRow a k).2 k = k + ((1 * a.Vals.length : Nat) : Int) := by unfold l_heldRow l_markRow; simp only [e0, n0, decide_eq_false (show ¬ k + ((1 * a.Vals.length : Nat) : Int) < 0 by omega), cond_false]
  have q2 : (l_markRow a k).1 = k + ((1 * a.Vals.length : Nat) : Int) := by unfold l_markRow; simp only [n0]
  exact ⟨q1.trans q2.symm, q2.trans (by omega)⟩
theorem rf_markRow (a : DRow) (k : Int) (h : k ≤ 9223372036854775807) : (l_markRow a k).1 ≤ 9223372036854775807 := by
  unfold l_markRow
  exact (rf_markStringS _ _ h)
theorem mh_RowAct (a : DRowAct) (k : Int) (h0 : 0 ≤ k) (h1 : k + ((1 * a.Old.Vals.length + 1 * a.New.Vals.length : Nat) : Int) ≤ 4611686018427387904) : l_heldRowAct (l_markRowAct a k).2 k = (l_markRowAct a k).1 ∧ (l_markRowAct a k).1 = k + ((1 * a.Old.Vals.length + 1 * a.New.Vals.length : Nat) : Int) := by
  obtain ⟨e0, n0⟩ := mh_Row a.Old k (by omega) (by omega)
  obtain ⟨e1, n1⟩ := mh_Row a.New (k + ((1 * a.Old.Vals.length : Nat) : Int)) (by omega) (by omega)
  have z0 : (⟨(l_markRow a.Old k).2.Vals⟩ : DRow) = (l_markRow a.Old k).2 := rfl
  have z1 : (⟨(l_markRow a.New (k + ((1 * a.Old.Vals.length : Nat) : Int))).2.Vals⟩ : DRow) = (l_markRow a.New (k + ((1 * a.Old.Vals.length : Nat) : Int))).2 := rfl
  have q1 : l_heldRowAct (l_markRowAct a k).2 k = (k + ((1 * a.Old.Vals.length : Nat) : Int)) + ((1 * a.New.Vals.length : Nat) : Int) := by unfold l_heldRowAct l_markRowAct; simp only [z0, z1, e0, n0, e1, n1, decide_eq_false (show ¬ k + ((1 * a.Old.Vals.length : Nat) : Int) < 0 by omega), decide_eq_false (show ¬ (k + ((1 * a.Old.Vals.length : Nat) : Int)) + ((1 * a.New.Vals.length : Nat) : Int) < 0 by omega), cond_false]
  have q2 : (l_markRowAct a k).1 = (k + ((1 * a.Old.Vals.length : Nat) : Int)) + ((1 * a.New.Vals.length : Nat) : Int) := by unfold l_markRowAct; simp only [n0, n1]
  exact ⟨q1.trans q2.symm, q2.trans (by omega)⟩
theorem rf_markRowAct (a : DRowAct) (k : Int) (h : k ≤ 9223372036854775807) : (l_markRowAct a k).1 ≤ 9223372036854775807 := by
  unfold l_markRowAct
  exact (rf_markRow _ _ (rf_markRow _ _ h))
theorem mh_Stmt (a : DStmt) (k : Int) (h0 : 0 ≤ k) (h1 : k + ((1 * a.Act.Old.Vals.length + 1 * a.Act.New.Vals.length : Nat) : Int) ≤ 4611686018427387904) : l_heldStmt (l_markStmt a k).2 k = (l_markStmt a k).1 ∧ (l_markStmt a k).1 = k + ((1 * a.Act.Old.Vals.length + 1 * a.Act.New.Vals.length : Nat) : Int) := by
  obtain ⟨e0, n0⟩ := mh_RowAct a.Act k (by omega) (by omega)
  have z0 : (⟨a.Act.Kind, (l_markRowAct a.Act k).2.Old, (l_markRowAct a.Act k).2.New⟩ : DRowAct) = (l_markRowAct a.Act k).2 := rfl
  have q1 : l_heldStmt (l_markStmt a k).2 k = k + ((1 * a.Act.Old.Vals.length + 1 * a.Act.New.Vals.length : Nat) : Int) := by unfold l_heldStmt l_markStmt; simp only [z0, e0, n0, decide_eq_false (show ¬ k + ((1 * a.Act.Old.Vals.length + 1 * a.Act.New.Vals.length : Nat) : Int) < 0 by omega), cond_false]
  have q2 : (l_markStmt a k).1 = k + ((1 * a.Act.Old.Vals.length + 1 * a.Act.New.Vals.length : Nat) : Int) := by unfold l_markStmt; simp only [n0]
  exact ⟨q1.trans q2.symm, q2.trans (by omega)⟩
theorem rf_markStmt (a : DStmt) (k : Int) (h : k ≤ 9223372036854775807) : (l_markStmt a k).1 ≤ 9223372036854775807 := by
  unfold l_markStmt
  exact (rf_markRowAct _ _ h)
theorem within_eq : i_within = s_l1In := rfl
theorem f_l1In {n lo hi : Int} (h : s_l1In n lo hi = true) : lo ≤ n ∧ n ≤ hi := by
  unfold s_l1In at h
  obtain ⟨h1, h2⟩ := of_cond_f h
  exact ⟨of_decide_eq_true h1, of_decide_eq_true h2⟩
theorem f_within {n lo hi : Int} (h : i_within n lo hi = true) : lo ≤ n ∧ n ≤ hi := f_l1In h
theorem indexByte_neg (l : List UInt8) (c : UInt8) : decide (Lib.indexByte l c < 0) = !(l.contains c) := by
  induction l with
  | nil => rfl
  | cons b l ih =>
    have hge := Lib.indexByte_ge l c
    rw [Bool.eq_iff_iff] at ih ⊢
    simp only [decide_eq_true_eq, Bool.not_eq_true', List.contains_cons] at ih ⊢
    unfold Lib.indexByte
    by_cases hb : b = c
    · subst hb; simp
    · have hb1 : (b == c) = false := by simpa using hb
      have hb2 : (c == b) = false := by simpa using fun h => hb h.symm
      rw [hb1, hb2]
      simp only [Bool.false_or, Bool.false_eq_true, if_false]
      split
      · rename_i h
        have : Lib.indexByte l c = -1 := by simpa using h
        rw [← ih]; omega
      · rename_i h
        have : Lib.indexByte l c ≠ -1 := by simpa using h
        constructor
        · intro h; omega
        · intro h; have := ih.2 h; omega
theorem byte_back (b : UInt8) : ((b.toNat : Int)).toNat.toUInt8 = b := by simp
theorem idxB_neg (s : Str) (b : UInt8) : decide (idxB s (b.toNat : Int) < 0) = !(s.contains b) := by
  unfold idxB
  rw [byte_back, indexByte_neg]
def byteOk (more : Str) (b : UInt8) : Bool := i_isLowerOrDigit (b.toNat : Int) || more.contains b
theorem hasBytes_eq (s more : Str) : i_hasBytes s more = s.all (byteOk more) := by
  unfold i_hasBytes
  rw [allE (0 : UInt8) (byteOk more) (r := false) fun k => by
    unfold B_i_hasBytes_0 byteOk g_strings_IndexByte g_internal_stringslite_IndexByte
    rw [idxB_neg]
    cases i_isLowerOrDigit ((s.getD k 0).toNat : Int) <;> cases more.contains (s.getD k 0) <;> rfl]
  cases s.all (byteOk more) <;> rfl
theorem toNat_eq (a b : UInt8) : decide ((a.toNat : Int) = (b.toNat : Int)) = (a == b) := by
  rw [Bool.eq_iff_iff, decide_eq_true_iff, beq_iff_eq]
  constructor
  · intro h; exact UInt8.toNat.inj (by omega)
  · intro h; rw [h]
theorem l3B1 {T : Type} (s more : Str) (k : Nat) (x0 : Bool) (fr : Bool → T) (fd : Bool → T) : loopE (loopM (B_s_l3Bytes_1 s more k) (more.length - 0) 0 x0) fr fd = fd (x0 || more.contains (s.getD k 0)) := by
  rw [orE (0 : UInt8) (fun b => (s.getD k 0) == b) fun j x => by
    unfold B_s_l3Bytes_1
    rw [toNat_eq]
    cases x <;> rfl]
  rw [List.contains_eq_any_beq]
theorem l3Bytes_eq (s more : Str) : s_l3Bytes s more = s.all (byteOk more) := by
  unfold s_l3Bytes
  rw [allE (0 : UInt8) (byteOk more) (r := false) fun k => by
    unfold B_s_l3Bytes_0 byteOk i_isLowerOrDigit
    simp only [l3B1]
    cases decide (97 ≤ ((s.getD k 0).toNat : Int)) <;> cases decide (((s.getD k 0).toNat : Int) ≤ 122) <;> cases decide (48 ≤ ((s.getD k 0).toNat : Int)) <;> cases decide (((s.getD k 0).toNat : Int) ≤ 57) <;> cases more.contains (s.getD k 0) <;> rfl]
  cases s.all (byteOk more) <;> rfl
theorem letters_eq : i_areLetters = s_l24Letters := by
  funext s m
  unfold i_areLetters s_l24Letters
  rfl
theorem isField_eq (s : Str) : i_isField s = s_l25Field s := by
  unfold i_isField s_l25Field
  rw [hasBytes_eq, l3Bytes_eq, within_eq]
theorem l25Good_eq (t : DTable) (r : DRow) : s_l25Good t r = (r.Vals.all s_l25Field && decide ((r.Vals.length : Int) = (t.Cols.length : Int))) := by
  unfold s_l25Good
  rw [allE d_Str s_l25Field (r := false) fun k => rfl]
  cases r.Vals.all s_l25Field <;> rfl
theorem isRow_eq (t : DTable) (r : DRow) : i_Table_isRow t r = s_l25Good t r := by
  rw [l25Good_eq]
  unfold i_Table_isRow
  rw [ContainsFunc_string, List.not_any_eq_all_not]
  unfold i_Table_isRow_c1
  simp only [Bool.not_not, isField_eq]
  cases decide ((r.Vals.length : Int) = (t.Cols.length : Int)) <;> cases (r.Vals.all fun x => s_l25Field x) <;> rfl
theorem l24At_neg (l : List Str) (s : Str) : decide (0 ≤ s_l24At l s) = l.any fun x => x == s := by
  have : s_l24At l s = idxF (fun x => x == s) d_Str l := rfl
  rw [this, idxF_any]
def colOk (l : List Str) (k : Nat) : Bool := s_l24Letters (l.getD k d_Str) 3 && !((l.take k).any fun x => x == l.getD k d_Str)
theorem l24Cols_eq (l : List Str) : s_l24Cols l = ((List.range l.length).all (colOk l) && s_l1In (l.length : Int) 2 4) := by
  unfold s_l24Cols
  rw [loopU (colOk l) (r := false) fun k _ => by
    unfold B_s_l24Cols_0 colOk
    rw [l24At_neg]
    cases s_l24Letters (l.getD k d_Str) 3 <;> cases ((l.take k).any fun x => x == l.getD k d_Str) <;> rfl]
  cases (List.range l.length).all (colOk l) <;> rfl
theorem GoodTable_eq (t : DTable) : i_GoodTable t = s_GoodTable t := by
  unfold i_GoodTable s_GoodTable
  rw [l24Cols_eq, letters_eq, within_eq]
  rw [loopU (colOk t.Cols) (r := false) fun k _ => by
    unfold B_i_GoodTable_0 colOk
    rw [Contains_string, letters_eq]
    rw [show ((t.Cols.take k).any fun x => t.Cols.getD k d_Str == x) = ((t.Cols.take k).any fun x => x == t.Cols.getD k d_Str) by congr 1; funext x; rw [Bool.beq_comm]]
    cases s_l24Letters (t.Cols.getD k d_Str) 3 <;> cases ((t.Cols.take k).any fun x => x == t.Cols.getD k d_Str) <;> rfl]
  have hb : B_i_GoodTable_1 t = B_s_GoodTable_0 t := by
    funext k u
    unfold B_i_GoodTable_1 B_s_GoodTable_0 i_isStage
    rw [letters_eq, within_eq, sLe_not]
    cases s_l24Letters ((t.Idxs.getD k d_Idx).Name) 1 <;> cases s_l1In ((t.Idxs.getD k d_Idx).Col) 1 (IntKind.wrap .i64 ((t.Cols.length : Int) - 1)) <;> cases s_l1In ((t.Idxs.getD k d_Idx).Stage) 0 3 <;> cases decide (0 < (k : Int)) <;> cases sLt ((t.Idxs.getD ((IntKind.wrap .i64 ((k : Int) - 1)).toNat) d_Idx).Name) ((t.Idxs.getD k d_Idx).Name) <;> rfl
  rw [hb]
  cases s_l24Letters t.Name 1 <;> cases s_l1In (t.Cols.length : Int) 2 4 <;> cases decide (3 < (t.Idxs.length : Int)) <;> cases (List.range t.Cols.length).all (colOk t.Cols) <;> rfl
theorem f_s_GoodTable {t : DTable} (h : s_GoodTable t = true) : 2 ≤ (t.Cols.length : Int) ∧ (t.Cols.length : Int) ≤ 4 ∧ (t.Idxs.length : Int) ≤ 3 := by
  unfold s_GoodTable at h
  obtain ⟨_, h⟩ := of_cond_f h
  obtain ⟨h1, h⟩ := of_cond_f h
  rw [l24Cols_eq, Bool.and_eq_true] at h1
  have h2 := f_l1In h1.2
  refine ⟨h2.1, h2.2, ?_⟩
  cases h3 : decide (3 < (t.Idxs.length : Int))
  · have := of_decide_eq_false h3; omega
  · rw [h3] at h; cases h
theorem f_i_GoodTable {t : DTable} (h : i_GoodTable t = true) : 2 ≤ (t.Cols.length : Int) ∧ (t.Cols.length : Int) ≤ 4 ∧ (t.Idxs.length : Int) ≤ 3 := f_s_GoodTable (GoodTable_eq t ▸ h)
theorem f_s_l25Good' {t : DTable} {r : DRow} (h : s_l25Good t r = true) : r.Vals.length = t.Cols.length := by
  rw [l25Good_eq, Bool.and_eq_true] at h
  have := of_decide_eq_true h.2
  omega
theorem isRowAct_eq (t : DTable) (a : DRowAct) : i_Table_isRowAct t a = s_l26Good t a := by
  unfold i_Table_isRowAct s_l26Good
  simp only [isRow_eq]
  cases decide (a.Kind = 1) <;> cases decide (a.Kind = 2) <;> cases decide (a.Kind = 3) <;> cases s_l25Good t a.Old <;> cases decide ((a.New.Vals.length : Int) = 0) <;> rfl
theorem findIdx_eq (t : DTable) (s : Str) : i_Table_findIdx t s = s_l24Idx t s := by
  unfold i_Table_findIdx
  rw [IndexFunc_Idx]
  rfl
theorem isBare_eq (a : DRowAct) : i_isBare a = s_l27Empty a := by
  unfold i_isBare s_l27Empty
  cases decide (a.Kind = 0) <;> cases decide ((a.Old.Vals.length : Int) = 0) <;> cases decide ((a.New.Vals.length : Int) = 0) <;> rfl
theorem isStmt_eq (t : DTable) (s : DStmt) : i_Table_isStmt t s = s_l30Good t s := by
  unfold i_Table_isStmt s_l30Good
  simp only [isRowAct_eq, isBare_eq, isField_eq, findIdx_eq]
theorem GoodStmt_eq (t : DTable) (s : DStmt) : i_GoodStmt t s = s_GoodStmt t s := by
  unfold i_GoodStmt s_GoodStmt
  rw [GoodTable_eq, isStmt_eq]
theorem l24Idx_idxF (t : DTable) (n : Str) : s_l24Idx t n = idxF (fun y => i_Table_findIdx_c1 y n) d_Idx t.Idxs := rfl
theorem l24Idx_spec (t : DTable) (n : Str) : (s_l24Idx t n = -1 ∧ ∀ x ∈ t.Idxs, x.Name ≠ n) ∨ ∃ (k : Nat) (_ : k < t.Idxs.length), s_l24Idx t n = (k : Int) ∧ (t.Idxs.getD k d_Idx).Name = n ∧ ∀ j, j < k → (t.Idxs.getD j d_Idx).Name ≠ n := by
  rw [l24Idx_idxF]
  rcases idxF_spec (fun y => i_Table_findIdx_c1 y n) d_Idx t.Idxs with ⟨h1, h2⟩ | ⟨k, hk, h1, h2, h3⟩
  · exact .inl ⟨h1, fun x hx e => by have := h2 x hx; unfold i_Table_findIdx_c1 at this; rw [e, beq_self_eq_true] at this; cases this⟩
  · refine .inr ⟨k, hk, h1, ?_, fun j hj e => ?_⟩
    · rw [getD_eq hk]; unfold i_Table_findIdx_c1 at h2; exact eq_of_beq h2
    · have := h3 j hj; rw [getD_eq (by omega)] at e; unfold i_Table_findIdx_c1 at this; rw [e, beq_self_eq_true] at this; cases this
theorem rf_s_l24Idx (t : DTable) (n : Str) : -1 ≤ s_l24Idx t n ∧ s_l24Idx t n < (t.Idxs.length : Int) := by
  rcases l24Idx_spec t n with ⟨h, _⟩ | ⟨k, hk, h, _⟩ <;> omega
theorem rf_i_findIdx (t : DTable) (n : Str) : -1 ≤ i_Table_findIdx t n ∧ i_Table_findIdx t n < (t.Idxs.length : Int) := by rw [findIdx_eq]; exact rf_s_l24Idx t n
def idxOk (t : DTable) (k : Nat) : Bool := s_l24Letters (t.Idxs.getD k d_Idx).Name 1 && s_l1In (t.Idxs.getD k d_Idx).Col 1 (IntKind.wrap .i64 ((t.Cols.length : Int) - 1)) && s_l1In (t.Idxs.getD k d_Idx).Stage 0 3 && bif decide (0 < (k : Int)) then sLt (t.Idxs.getD ((IntKind.wrap .i64 ((k : Int) - 1)).toNat) d_Idx).Name (t.Idxs.getD k d_Idx).Name else true
theorem s_GoodTable_eq (t : DTable) : s_GoodTable t = (s_l24Letters t.Name 1 && s_l24Cols t.Cols && decide (t.Idxs.length ≤ 3) && (List.range t.Idxs.length).all (idxOk t)) := by
  unfold s_GoodTable
  rw [loopU (idxOk t) (r := false) fun k _ => by
    unfold B_s_GoodTable_0 idxOk
    cases s_l24Letters (t.Idxs.getD k d_Idx).Name 1 <;> cases s_l1In (t.Idxs.getD k d_Idx).Col 1 (IntKind.wrap .i64 ((t.Cols.length : Int) - 1)) <;> cases s_l1In (t.Idxs.getD k d_Idx).Stage 0 3 <;> cases decide (0 < (k : Int)) <;> cases sLt (t.Idxs.getD ((IntKind.wrap .i64 ((k : Int) - 1)).toNat) d_Idx).Name (t.Idxs.getD k d_Idx).Name <;> rfl]
  have e : decide (t.Idxs.length ≤ 3) = !decide (3 < (t.Idxs.length : Int)) := by
    by_cases h : t.Idxs.length ≤ 3
    · rw [decide_eq_true h, decide_eq_false (by omega)]; rfl
    · rw [decide_eq_false h, decide_eq_true (by omega)]; rfl
  rw [e]
  cases s_l24Letters t.Name 1 <;> cases s_l24Cols t.Cols <;> cases decide (3 < (t.Idxs.length : Int)) <;> cases (List.range t.Idxs.length).all (idxOk t) <;> rfl
def letter (b : UInt8) : Bool := !decide ((b.toNat : Int) < 97) && !decide (122 < (b.toNat : Int))
theorem l24Letters_eq (s : Str) (m : Int) : s_l24Letters s m = (s.all letter && decide (1 ≤ (s.length : Int)) && decide ((s.length : Int) ≤ m)) := by
  unfold s_l24Letters
  rw [allE (0 : UInt8) letter (r := false) fun k => by
    unfold B_s_l24Letters_0 letter
    cases decide (((s.getD k 0).toNat : Int) < 97) <;> cases decide (122 < ((s.getD k 0).toNat : Int)) <;> rfl]
  cases s.all letter <;> cases decide (1 ≤ (s.length : Int)) <;> rfl
theorem letters_len {s : Str} {m : Int} (h : s_l24Letters s m = true) : 1 ≤ (s.length : Int) ∧ (s.length : Int) ≤ m := by
  rw [l24Letters_eq] at h
  simp only [Bool.and_eq_true, decide_eq_true_eq] at h
  exact ⟨h.1.2, h.2⟩
structure GoodT (t : DTable) : Prop where
  name : t.Name.length = 1
  cols : 2 ≤ t.Cols.length ∧ t.Cols.length ≤ 4
  idxs : t.Idxs.length ≤ 3
  idx : ∀ k, k < t.Idxs.length → (t.Idxs.getD k d_Idx).Name.length = 1 ∧ 1 ≤ (t.Idxs.getD k d_Idx).Col ∧ (t.Idxs.getD k d_Idx).Col < (t.Cols.length : Int) ∧ 0 ≤ (t.Idxs.getD k d_Idx).Stage ∧ (t.Idxs.getD k d_Idx).Stage ≤ 3
  rise : ∀ k, k + 1 < t.Idxs.length → (t.Idxs.getD k d_Idx).Name < (t.Idxs.getD (k + 1) d_Idx).Name
theorem GoodT.of {t : DTable} (h : s_GoodTable t = true) : GoodT t := by
  have hf := f_s_GoodTable h
  rw [s_GoodTable_eq] at h
  simp only [Bool.and_eq_true, decide_eq_true_eq, List.all_eq_true, List.mem_range] at h
  obtain ⟨⟨⟨h1, h2⟩, h3⟩, h4⟩ := h
  have h5 : ∀ k, k < t.Idxs.length → _ := fun k hk => h4 k hk
  unfold idxOk at h5
  simp only [Bool.and_eq_true] at h5
  refine ⟨by have := letters_len h1; omega, by omega, h3, fun k hk => ?_, fun k hk => ?_⟩
  · obtain ⟨⟨⟨a, b⟩, c⟩, d⟩ := h5 k hk
    have a := letters_len a
    have b := f_l1In b
    have c := f_l1In c
    rw [wrap_in (by omega)] at b
    omega
  · have d := (h5 (k + 1) hk).2
    rw [wrap_in (by omega), decide_eq_true (show 0 < ((k + 1 : Nat) : Int) by omega)] at d
    have e : (((k + 1 : Nat) : Int) - 1).toNat = k := by omega
    rw [e] at d
    exact (sLt_iff _ _).1 d
theorem rf_idxHead (t : DTable) (n : Str) : (i_Table_idxHead t n).length = t.Name.length + n.length + 2 := by
  unfold i_Table_idxHead
  simp only [List.length_append, List.length_cons, List.length_nil]; omega
def rowShort (r : DRow) : Prop := ∀ v ∈ r.Vals, v.length ≤ 3
theorem rowShort.getD {r : DRow} (h : rowShort r) (k : Nat) : (r.Vals.getD k d_Str).length ≤ 3 := by
  rcases Nat.lt_or_ge k r.Vals.length with hk | hk
  · exact h _ (getD_mem hk)
  · rw [List.getD_eq_getElem?_getD, List.getElem?_eq_none hk]; exact Nat.zero_le _
theorem okS_idxKey {t : DTable} {n : Str} {r : DRow} (h : t.Name.length ≤ 1 ∧ n.length ≤ 1) (hr : rowShort r) {a b : Nat} : okS ((((i_Table_idxHead t n) ++ (r.Vals.getD a d_Str)) ++ ([47] : Str)) ++ (r.Vals.getD b d_Str)) := by
  have h1 := rf_idxHead t n
  have h2 := hr.getD a
  have h3 := hr.getD b
  unfold okS
  simp only [List.length_append, List.length_cons, List.length_nil]; omega
theorem okS_l25Entry {t : DTable} {x : DIdx} {r : DRow} (h : t.Name.length ≤ 1 ∧ x.Name.length ≤ 1) (hr : rowShort r) {a b : Nat} : okS ((((((t.Name ++ ([46] : Str)) ++ x.Name) ++ ([47] : Str)) ++ (r.Vals.getD a d_Str)) ++ ([47] : Str)) ++ (r.Vals.getD b d_Str)) := by
  have h2 := hr.getD a
  have h3 := hr.getD b
  unfold okS
  simp only [List.length_append, List.length_cons, List.length_nil]; omega
theorem field_len {s : Str} (h : s_l25Field s = true) : 1 ≤ (s.length : Int) ∧ (s.length : Int) ≤ 3 := by
  unfold s_l25Field at h
  exact f_l1In (of_cond_f h).1
theorem f_s_l25Good {t : DTable} {r : DRow} (h : s_l25Good t r = true) : r.Vals.length = t.Cols.length ∧ rowShort r := by
  refine ⟨f_s_l25Good' h, fun v hv => ?_⟩
  rw [l25Good_eq, Bool.and_eq_true] at h
  have := field_len (List.all_eq_true.1 h.1 v hv)
  omega
theorem f_i_isRow {t : DTable} {r : DRow} (h : i_Table_isRow t r = true) : r.Vals.length = t.Cols.length ∧ rowShort r := f_s_l25Good (isRow_eq t r ▸ h)
theorem rise_lt {t : DTable} (h : GoodT t) : ∀ (j i : Nat), i < j → j < t.Idxs.length → (t.Idxs.getD i d_Idx).Name < (t.Idxs.getD j d_Idx).Name
  | 0, i, hi, _ => by omega
  | j + 1, i, hi, hj => by
    have h1 := h.rise j hj
    rcases Nat.lt_or_ge i j with h2 | h2
    · exact str_trans (rise_lt h j i h2 (by omega)) h1
    · obtain rfl : i = j := by omega
      exact h1
theorem own_l24Idx {t : DTable} (h : GoodT t) {k : Nat} (hk : k < t.Idxs.length) : s_l24Idx t (t.Idxs.getD k d_Idx).Name = (k : Int) := by
  rcases l24Idx_spec t (t.Idxs.getD k d_Idx).Name with ⟨_, h2⟩ | ⟨j, hj, h1, h2, h3⟩
  · exact absurd rfl (h2 _ (getD_mem hk))
  · rcases Nat.lt_or_ge j k with h4 | h4
    · have := rise_lt h k j h4 hk
      rw [h2] at this; exact absurd this (str_irr _)
    · rcases Nat.lt_or_ge k j with h5 | h5
      · exact absurd rfl (h3 k h5)
      · rw [h1]; omega
theorem own_findIdx {t : DTable} {k : Nat} (hk : k < t.Idxs.length) : 0 ≤ i_Table_findIdx t (t.Idxs.getD k d_Idx).Name ∧ i_Table_findIdx t (t.Idxs.getD k d_Idx).Name < (t.Idxs.length : Int) := by
  refine ⟨?_, (rf_i_findIdx _ _).2⟩
  rw [findIdx_eq]
  rcases l24Idx_spec t (t.Idxs.getD k d_Idx).Name with ⟨_, h2⟩ | ⟨j, hj, h1, _⟩
  · exact absurd rfl (h2 _ (getD_mem hk))
  · omega
theorem idx_eq (t : DTable) (n : Str) : i_Table_idx t n = t.Idxs.getD (s_l24Idx t n).toNat d_Idx := by unfold i_Table_idx; rw [findIdx_eq]
theorem szTable_len {t : DTable} (hw : wf_Table t) (h : ¬ l_szTable t 1048576 < 0) : t.Cols.length ≤ 1073741824 ∧ t.Idxs.length ≤ 1073741824 := by
  have := (szok_Table hw (by decide) h).1
  exact ⟨this.2.1.1, this.2.2.1⟩
theorem loopM_congr {ρ σ : Type} {b b' : Nat → σ → Out ρ σ} : ∀ (n k : Nat) (s : σ), (∀ j s, k ≤ j → j < k + n → b j s = b' j s) → loopM b n k s = loopM b' n k s
  | 0, _, _, _ => rfl
  | n + 1, k, s, h => by
    have h1 := h k s (Nat.le_refl _) (by omega)
    have ih := fun s => loopM_congr n (k + 1) s fun j s h2 h3 => h j s (by omega) (by omega)
    simp only [loopM]
    rw [h1]
    cases b' k s with
    | ret r => rfl
    | brk s => rfl
    | cont s => exact ih s
theorem inter_cons (sep x y : Str) (zs : List Str) : sep.intercalate (x :: y :: zs) = x ++ (sep ++ sep.intercalate (y :: zs)) := by
  simp [List.intercalate, List.intersperse]
theorem inter_one (sep x : Str) : sep.intercalate [x] = x := by simp [List.intercalate]
theorem inter_concat (sep x : Str) : ∀ xs : List Str, 0 < xs.length → sep.intercalate (xs ++ [x]) = (sep.intercalate xs ++ sep) ++ x
  | [], h => by simp at h
  | [y], _ => by show sep.intercalate (y :: x :: []) = _; rw [inter_cons, inter_one, inter_one, List.append_assoc]
  | y :: z :: zs, _ => by
    show sep.intercalate (y :: z :: (zs ++ [x])) = _
    rw [inter_cons, show z :: (zs ++ [x]) = (z :: zs) ++ [x] from rfl, inter_concat sep x (z :: zs) (Nat.succ_pos _), inter_cons]
    simp only [List.append_assoc]
theorem inter_len : ∀ xs : List Str, (∀ x ∈ xs, x.length ≤ 3) → (([44] : Str).intercalate xs).length ≤ 4 * xs.length
  | [], _ => Nat.zero_le _
  | [x], h => by have := h x (by simp); rw [inter_one, List.length_singleton]; omega
  | x :: y :: zs, h => by
    have h1 := h x (by simp)
    have h2 := inter_len (y :: zs) fun z hz => h z (List.mem_cons_of_mem _ hz)
    rw [inter_cons, List.length_append, List.length_append, List.length_cons (as := y :: zs)]
    simp only [List.length_cons, List.length_nil] at h2 ⊢
    omega
theorem join_drop {r : DRow} (h : r.Vals.length ≤ 4) (hr : rowShort r) : (g_strings_Join (r.Vals.drop 1) ([44] : Str)).length ≤ 1073741824 := by
  have := inter_len (r.Vals.drop 1) fun x hx => hr x (List.mem_of_mem_drop hx)
  rw [List.length_drop] at this
  unfold g_strings_Join; omega
theorem Join_eq (xs : List Str) (sep : Str) : s_l24Join xs sep = g_strings_Join xs sep := by
  unfold s_l24Join g_strings_Join
  refine loopM_val (fun k (s : Str) => s = sep.intercalate (xs.take k)) (fun (v : Str) => v = sep.intercalate xs) rfl (fun s h => by rw [h, List.take_of_length_le (by omega)]) ?_
  intro j s _ hj hs
  have hj' : j < xs.length := by omega
  unfold B_s_l24Join_0
  dsimp only
  rw [List.take_succ_eq_append_getElem hj', getD_eq hj']
  by_cases h0 : 0 < j
  · rw [decide_eq_true (by omega), hs, inter_concat _ _ _ (by rw [List.length_take]; omega)]; rfl
  · have : j = 0 := by omega
    subst this
    rw [decide_eq_false (by omega), hs]
    show [] ++ _ = _
    simp [List.intercalate]
theorem rowWrite_eq (t : DTable) (r : DRow) : i_Table_rowWrite t r = s_l25Write t r := by
  unfold i_Table_rowWrite s_l25Write
  rw [Join_eq]
theorem cond_len {α : Type} {b : Bool} {x y : List α} {n : Nat} (h : x.length ≤ n) (k : y.length ≤ n) : (bif b then x else y).length ≤ n := by cases b <;> assumption
theorem rf_l26Idx (t : DTable) (x : DIdx) (a : DRowAct) : (s_l26Idx t x a).length ≤ 2 := by
  unfold s_l26Idx
  repeat' first | exact Nat.le_of_ble_eq_true rfl | apply cond_len
theorem rf_l26Head (t : DTable) (a : DRowAct) : (s_l26Head t a).length ≤ 2 := by
  unfold s_l26Head
  repeat' first | exact Nat.le_of_ble_eq_true rfl | apply cond_len
def actOf (t : DTable) (a : DRowAct) : Prop := (a.Kind ≠ 2 → a.New.Vals.length = t.Cols.length ∧ rowShort a.New) ∧ (a.Kind ≠ 1 → a.Old.Vals.length = t.Cols.length ∧ rowShort a.Old)
theorem actOf_of {t : DTable} {a : DRowAct} (h : i_Table_isRowAct t a = true) : actOf t a := by
  unfold i_Table_isRowAct at h
  by_cases h1 : a.Kind = 1
  · rw [decide_eq_true h1, cond_true] at h
    exact ⟨fun _ => f_i_isRow (of_cond_f h).2, fun h2 => absurd h1 h2⟩
  · rw [decide_eq_false h1, cond_false] at h
    by_cases h2 : a.Kind = 2
    · rw [decide_eq_true h2, cond_true] at h
      exact ⟨fun h3 => absurd h2 h3, fun _ => f_i_isRow (of_cond_f h).1⟩
    · rw [decide_eq_false h2, cond_false] at h
      by_cases h3 : a.Kind = 3
      · rw [decide_eq_true h3, cond_true] at h
        obtain ⟨h4, h5⟩ := of_cond_f h
        exact ⟨fun _ => f_i_isRow (of_cond_f h5).1, fun _ => f_i_isRow h4⟩
      · rw [decide_eq_false h3] at h; cases h
theorem actOf_lin {t : DTable} {a : DRowAct} (h : actOf t a) : (a.Kind ≠ 2 → a.New.Vals.length = t.Cols.length) ∧ (a.Kind ≠ 1 → a.Old.Vals.length = t.Cols.length) := ⟨fun k => (h.1 k).1, fun k => (h.2 k).1⟩
theorem actOf_len {t : DTable} {a : DRowAct} (ht : s_GoodTable t = true) (h : actOf t a) : (2 ≤ (t.Cols.length : Int) ∧ (t.Cols.length : Int) ≤ 4 ∧ (t.Idxs.length : Int) ≤ 3) ∧ t.Name.length ≤ 1 ∧ (a.Kind ≠ 2 → a.New.Vals.length = t.Cols.length) ∧ (a.Kind ≠ 1 → a.Old.Vals.length = t.Cols.length) :=
  ⟨f_s_GoodTable ht, by have := (GoodT.of ht).name; omega, actOf_lin h⟩
theorem idx_own {t : DTable} (h : GoodT t) {k : Nat} (hk : k < t.Idxs.length) : i_Table_idx t (t.Idxs.getD k d_Idx).Name = t.Idxs.getD k d_Idx := by
  rw [idx_eq, own_l24Idx h hk]; rfl
theorem actOf_round {t : DTable} {a : DRowAct} (ht : s_GoodTable t = true) (_ : actOf t a) {k : Nat} (hk : k < t.Idxs.length) : (0 ≤ i_Table_findIdx t (t.Idxs.getD k d_Idx).Name ∧ i_Table_findIdx t (t.Idxs.getD k d_Idx).Name < (t.Idxs.length : Int)) ∧ (0 ≤ (i_Table_idx t (t.Idxs.getD k d_Idx).Name).Col ∧ (i_Table_idx t (t.Idxs.getD k d_Idx).Name).Col < (t.Cols.length : Int)) ∧ (t.Idxs.getD k d_Idx).Name.length ≤ 1 ∧ (0 ≤ (t.Idxs.getD k d_Idx).Col ∧ (t.Idxs.getD k d_Idx).Col < (t.Cols.length : Int)) := by
  have hg := GoodT.of ht
  have h1 := hg.idx k hk
  have h2 := own_findIdx (t := t) hk
  rw [idx_own hg hk]
  exact ⟨h2, ⟨by omega, h1.2.2.1⟩, by omega, by omega, h1.2.2.1⟩
def stmtOf (t : DTable) (s : DStmt) : Prop := s_GoodTable t = true ∧ t.Name.length ≤ 1 ∧ (s.Kind = 2 → s.Low.length ≤ 3) ∧ (s.Kind ≠ 2 → s.Kind ≠ 3 → actOf t s.Act)
theorem f2_i_GoodStmt {t : DTable} {s : DStmt} (h : i_GoodStmt t s = true) : stmtOf t s := by
  unfold i_GoodStmt at h
  obtain ⟨h1, h2⟩ := of_cond_f h
  have hg : s_GoodTable t = true := GoodTable_eq t ▸ h1
  unfold i_Table_isStmt at h2
  refine ⟨hg, by have := (GoodT.of hg).name; omega, fun k => ?_, fun k2 k3 => ?_⟩
  · rw [decide_eq_false (show ¬ s.Kind = 1 by omega), decide_eq_true k] at h2
    have h3 := (of_cond_f (of_cond_f (of_cond_f h2).2).2).1
    rw [isField_eq] at h3
    have := field_len h3
    omega
  · rw [decide_eq_false k2, decide_eq_false k3] at h2
    by_cases k1 : s.Kind = 1
    · rw [decide_eq_true k1, cond_true] at h2
      exact actOf_of (of_cond_f h2).1
    · rw [decide_eq_false k1] at h2; cases h2
theorem f2_s_GoodStmt {t : DTable} {s : DStmt} (h : s_GoodStmt t s = true) : stmtOf t s := f2_i_GoodStmt (GoodStmt_eq t s ▸ h)
theorem kind_row {t : DTable} {a : DRowAct} (h : i_Table_isRowAct t a = true) : 1 ≤ a.Kind ∧ a.Kind ≤ 3 := by
  unfold i_Table_isRowAct at h
  by_cases h1 : a.Kind = 1
  · omega
  · by_cases h2 : a.Kind = 2
    · omega
    · by_cases h3 : a.Kind = 3
      · omega
      · rw [decide_eq_false h1, decide_eq_false h2, decide_eq_false h3] at h; cases h
theorem kind_GoodStmt {t : DTable} {s : DStmt} (h : i_GoodStmt t s = true) (k2 : s.Kind ≠ 2) (k3 : s.Kind ≠ 3) : 1 ≤ s.Act.Kind ∧ s.Act.Kind ≤ 3 := by
  unfold i_GoodStmt at h
  have h2 := (of_cond_f h).2
  unfold i_Table_isStmt at h2
  rw [decide_eq_false k2, decide_eq_false k3] at h2
  by_cases k1 : s.Kind = 1
  · rw [decide_eq_true k1, cond_true] at h2
    exact kind_row (of_cond_f h2).1
  · rw [decide_eq_false k1] at h2; cases h2
theorem stmt_lin {t : DTable} {s : DStmt} (h : stmtOf t s) : t.Name.length ≤ 1 ∧ (s.Kind = 2 → s.Low.length ≤ 3) := ⟨h.2.1, h.2.2.1⟩

theorem key_own {t : DTable} (h : GoodT t) {k : Nat} (hk : k < t.Idxs.length) (r : DRow) : i_Table_idxKey t (t.Idxs.getD k d_Idx).Name r = s_l25Entry t (t.Idxs.getD k d_Idx) r := by
  unfold i_Table_idxKey s_l25Entry i_Table_idxHead
  rw [idx_own h hk]
theorem round_eq {t : DTable} (h : GoodT t) (a : DRowAct) {k : Nat} (hk : k < t.Idxs.length) (x : List DOp) : B_i_Table_opsFor_0 t a k x = .cont (x ++ s_l26Idx t (t.Idxs.getD k d_Idx) a) := by
  unfold B_i_Table_opsFor_0 s_l26Idx i_deletes i_inserts
  dsimp only
  rw [key_own h hk, key_own h hk]
  generalize s_l25Entry t (t.Idxs.getD k d_Idx) a.New = eN
  generalize s_l25Entry t (t.Idxs.getD k d_Idx) a.Old = eO
  generalize (t.Idxs.getD k d_Idx).Stage = st
  rw [show (([] : Str) == ([] : Str)) = true from rfl]
  cases h1 : decide (a.Kind = 1)
  · simp only [cond_false, cond_true]
    cases decide (a.Kind = 2) <;> simp only [cond_true, cond_false]
    · cases eO == [] <;> cases eN == [] <;> cases eO == eN <;> cases decide (1 ≤ st) <;> cases decide (2 ≤ st) <;> simp
    · cases eO == [] <;> cases decide (1 ≤ st) <;> simp
  · rw [decide_eq_false (show ¬ a.Kind = 2 by have := of_decide_eq_true h1; omega)]
    simp only [cond_false, cond_true]
    cases eN == [] <;> cases decide (2 ≤ st) <;> simp
theorem opsFor_eq {t : DTable} {a : DRowAct} (hg : s_GoodTable t = true) (h : i_Table_isRowAct t a = true) : i_Table_opsFor t a = s_l26Ops t a := by
  have hb : ∀ x, loopM (B_i_Table_opsFor_0 t a) (t.Idxs.length - 0) 0 x = loopM (B_s_l26Ops_0 t a) (t.Idxs.length - 0) 0 x := fun x =>
    loopM_congr _ _ _ fun j s _ hj => round_eq (GoodT.of hg) a (by omega) s
  unfold i_Table_opsFor s_l26Ops s_l26Head
  simp only [hb, rowWrite_eq]
  unfold i_Table_isRowAct at h
  by_cases h1 : a.Kind = 1
  · rw [decide_eq_true h1]; rfl
  · rw [decide_eq_false h1, cond_false] at h
    by_cases h2 : a.Kind = 2
    · rw [decide_eq_false h1, decide_eq_true h2]; rfl
    · rw [decide_eq_false h2, cond_false] at h
      by_cases h3 : a.Kind = 3
      · rw [decide_eq_true h3, cond_true] at h
        have h6 : a.Old.Vals.getD 0 d_Str = a.New.Vals.getD 0 d_Str := eq_of_beq (of_cond_f (of_cond_f h).2).2
        have h7 : (s_l25Write t a.New).Key = (s_l25Write t a.Old).Key := by unfold s_l25Write; dsimp only; rw [h6]
        rw [decide_eq_false h1, decide_eq_false h2, h7]; rfl
      · rw [decide_eq_false h3] at h; cases h
theorem l26Ops_len (t : DTable) (a : DRowAct) : (s_l26Ops t a).length ≤ 2 + 2 * t.Idxs.length := by
  unfold s_l26Ops
  refine loopM_val (fun k (x : List DOp) => x.length ≤ 2 + 2 * k) (fun (v : List DOp) => v.length ≤ 2 + 2 * t.Idxs.length) (rf_l26Head t a) (fun s hs => by omega) ?_
  intro j x _ _ hx
  have := rf_l26Idx t (t.Idxs.getD j d_Idx) a
  show (x ++ s_l26Idx t (t.Idxs.getD j d_Idx) a).length ≤ 2 + 2 * (j + 1)
  rw [List.length_append]; omega
theorem StmtOps_eq (t : DTable) (s : DStmt) : i_StmtOps t s = s_StmtOps t s := by
  unfold i_StmtOps s_StmtOps
  rw [← GoodStmt_eq]
  cases h : i_GoodStmt t s
  · rfl
  · have hg := (f2_i_GoodStmt h).1
    unfold i_GoodStmt at h
    have h2 := (of_cond_f h).2
    by_cases k3 : s.Kind = 3
    · rw [decide_eq_true k3]; rfl
    · by_cases k2 : s.Kind = 2
      · rw [decide_eq_false k3, decide_eq_true k2]; rfl
      · unfold i_Table_isStmt at h2
        rw [decide_eq_false k2, decide_eq_false k3] at h2
        by_cases k1 : s.Kind = 1
        · rw [decide_eq_true k1, cond_true] at h2
          rw [opsFor_eq hg (of_cond_f h2).1]
        · rw [decide_eq_false k1] at h2; cases h2
theorem StmtOps_len (t : DTable) (s : DStmt) : (i_StmtOps t s).1.length ≤ 2 + 2 * t.Idxs.length := by
  rw [StmtOps_eq]
  unfold s_StmtOps
  cases s_GoodStmt t s
  · exact Nat.zero_le _
  · cases decide (s.Kind = 3)
    · cases decide (s.Kind = 2)
      · exact l26Ops_len t s.Act
      · show 1 ≤ _; omega
    · exact Nat.zero_le _
theorem true_StmtOps (t : DTable) (s : DStmt) (hw : wf_Table t) (ha : wf_Stmt s) : l_FnExactStmtOps t s = true := by
  unfold l_FnExactStmtOps
  cases h1 : decide (l_szTable t 1048576 < 0)
  case true => rfl
  cases h2 : decide (l_szStmt s (l_szTable t 1048576) < 0)
  case true => rfl
  have hlt := szTable_len hw (of_decide_eq_false h1)
  have hal := (szok_Stmt ha (szok_Table hw (by decide) (of_decide_eq_false h1)).2 (of_decide_eq_false h2)).1
  have hl1 := hal.1.1.1
  have hl2 := hal.1.2.1
  have hc := StmtOps_len t s
  obtain ⟨_, h3⟩ := mh_Table t 1 (by decide) (by omega)
  obtain ⟨_, h4⟩ := mh_Stmt s (l_markTable t 1).1 (by omega) (by omega)
  obtain ⟨h5, h6, _⟩ := mh_OpS (i_StmtOps t s).1 1 (by decide) (by omega)
  simp only [cond_false, ← StmtOps_eq, eq_Table, eq_Stmt, eq_OpS, beq_self_eq_true, cond_true, h5]
  rw [h4, decide_eq_false (by omega), cond_false, h6, decide_eq_false (by omega), cond_false, decide_true]; rfl

end Go.Proofs.Ytjeafbkejeallaa
