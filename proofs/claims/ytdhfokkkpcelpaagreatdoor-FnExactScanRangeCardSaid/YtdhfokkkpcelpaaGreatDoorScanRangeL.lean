/- Scan Range: plain laws of the models. -/
import Derived.Test.YtdhfokkkpcelpaaGreatDoorScanRangeT
set_option linter.unusedVariables false
set_option linter.unusedSimpArgs false
namespace Go.Proofs.YtdhfokkkpcelpaaGreatDoor
open Go.RowKit Go.X
theorem szok_Idx {x : DIdx} {L : Int} (hw : wf_Idx x) (hL : 0 ≤ L ∧ L ≤ 1048576) (h : ¬ l_szIdx x L < 0) : ok_Idx x ∧ 0 ≤ l_szIdx x L ∧ l_szIdx x L ≤ 1048576 := by
  unfold l_szIdx at h ⊢
  obtain ⟨a0, e0, h⟩ := szc h
  rw [e0]
  have s0 := szS_ok hw.1 hL a0
  exact ⟨s0.1, s0.2⟩
theorem to_Idx (x : DIdx) : l_toIdx x = x := rfl
theorem eq_Idx (x : DIdx) : l_eqIdx x x = true := by unfold l_eqIdx; simp only [beq_self_eq_true, cond_true, decide_true]
theorem sze_StringS (x : List Str) (L : Int) : l_szStringS x L = szLL (fun s L => IntKind.wrap .i64 (L - (s.length : Int))) d_Str x L := by
  unfold l_szStringS szLL szL
  have : B_l_szStringS_0 x L = fun k y => bif decide (IntKind.wrap .i64 (y - ((x.getD k d_Str).length : Int)) < 0) then .ret (-1) else .cont (IntKind.wrap .i64 (y - ((x.getD k d_Str).length : Int))) := by
    funext k y; rfl
  rw [this]
theorem szok_StringS {x : List Str} {L : Int} (hw : (wfL wfS) x) (hL : 0 ≤ L ∧ L ≤ 1048576) (h : ¬ l_szStringS x L < 0) : (okL okS) x ∧ 0 ≤ l_szStringS x L ∧ l_szStringS x L ≤ 1048576 := by
  rw [sze_StringS] at h ⊢
  exact szLL_ok d_Str szS_ok hw hL h
theorem to_StringS (x : List Str) : l_toStringS x = x := toL_id d_Str (f := fun s => s) (fun _ => rfl) x
theorem eq_StringS (x : List Str) : l_eqStringS x x = true := eqL_refl d_Str (f := fun a b => a == b) (fun _ => beq_self_eq_true _) x
theorem szok_IdxS {x : List DIdx} {L : Int} (hw : (wfL wf_Idx) x) (hL : 0 ≤ L ∧ L ≤ 1048576) (h : ¬ l_szIdxS x L < 0) : (okL ok_Idx) x ∧ 0 ≤ l_szIdxS x L ∧ l_szIdxS x L ≤ 1048576 := szLL_ok d_Idx (f := l_szIdx) szok_Idx hw hL h
theorem to_IdxS (x : List DIdx) : l_toIdxS x = x := toL_id d_Idx (f := fun s => s) (fun _ => rfl) x
theorem eq_IdxS (x : List DIdx) : l_eqIdxS x x = true := eqL_refl d_Idx (f := l_eqIdx) eq_Idx x
theorem szok_Table {x : DTable} {L : Int} (hw : wf_Table x) (hL : 0 ≤ L ∧ L ≤ 1048576) (h : ¬ l_szTable x L < 0) : ok_Table x ∧ 0 ≤ l_szTable x L ∧ l_szTable x L ≤ 1048576 := by
  unfold l_szTable at h ⊢
  obtain ⟨a0, e0, h⟩ := szc h
  rw [e0]
  have s0 := szS_ok hw.1 hL a0
  obtain ⟨a1, e1, h⟩ := szc h
  rw [e1]
  have s1 := szok_StringS hw.2.1 s0.2 a1
  obtain ⟨a2, e2, h⟩ := szc h
  rw [e2]
  have s2 := szok_IdxS hw.2.2 s1.2 a2
  exact ⟨⟨s0.1, s1.1, s2.1⟩, s2.2⟩
theorem to_Table (x : DTable) : l_toTable x = x := rfl
theorem eq_Table (x : DTable) : l_eqTable x x = true := by unfold l_eqTable; simp only [eq_StringS, eq_IdxS, beq_self_eq_true, cond_true, decide_true]
theorem szok_Write {x : DWrite} {L : Int} (hw : wf_Write x) (hL : 0 ≤ L ∧ L ≤ 1048576) (h : ¬ l_szWrite x L < 0) : ok_Write x ∧ 0 ≤ l_szWrite x L ∧ l_szWrite x L ≤ 1048576 := by
  unfold l_szWrite at h ⊢
  obtain ⟨a0, e0, h⟩ := szc h
  rw [e0]
  have s0 := szS_ok hw.1 hL a0
  obtain ⟨a1, e1, h⟩ := szc h
  rw [e1]
  have s1 := szS_ok hw.2 s0.2 a1
  exact ⟨⟨s0.1, s1.1⟩, s1.2⟩
theorem to_Write (x : DWrite) : l_toWrite x = x := rfl
theorem eq_Write (x : DWrite) : l_eqWrite x x = true := by unfold l_eqWrite; simp only [beq_self_eq_true, cond_true, decide_true]
theorem eq_Row (x : DRow) : l_eqRow x x = true := by unfold l_eqRow; simp only [eq_StringS, beq_self_eq_true, cond_true, decide_true]
theorem szok_WriteS {x : List DWrite} {L : Int} (hw : (wfL wf_Write) x) (hL : 0 ≤ L ∧ L ≤ 1048576) (h : ¬ l_szWriteS x L < 0) : (okL ok_Write) x ∧ 0 ≤ l_szWriteS x L ∧ l_szWriteS x L ≤ 1048576 := szLL_ok d_Write (f := l_szWrite) szok_Write hw hL h
theorem to_WriteS (x : List DWrite) : l_toWriteS x = x := toL_id d_Write (f := fun s => s) (fun _ => rfl) x
theorem eq_WriteS (x : List DWrite) : l_eqWriteS x x = true := eqL_refl d_Write (f := l_eqWrite) eq_Write x
theorem eq_RowS (x : List DRow) : l_eqRowS x x = true := eqL_refl d_Row (f := l_eqRow) eq_Row x
def mk_String (_ : Str) (k : Int) : Int × Str := (IntKind.wrap .i64 (k + 1), l_markText k)
theorem mkc_String (x : Str) (k : Int) (h0 : 0 ≤ k) (h1 : k + ((1 : Nat) : Int) ≤ 4611686018427387904) : (mk_String x k).1 = k + ((1 : Nat) : Int) := by
  unfold mk_String
  simp only [IntKind.wrap_i64]; omega
theorem mark_StringS (a : List Str) (k : Int) : l_markStringS a k = mkL mk_String a k := by
  unfold l_markStringS
  exact markE (d := d_Str) (mk := mk_String) (fun i k xs hi => by unfold B_l_markStringS_0; simp only [List.set_set, getD_set_self hi, mk_String]) a k
theorem held_StringS (a : List Str) (k : Int) (h0 : 0 ≤ k) (h1 : k + (cntL (fun _ => 1) a : Int) ≤ 4611686018427387904) : l_heldStringS (l_markStringS a k).2 k = (l_markStringS a k).1 := by
  rw [mark_StringS]
  unfold l_heldStringS
  exact heldE (d := d_Str) (mk := mk_String) (c := fun _ => 1) a k mkc_String (fun i k x hx _ _ => by unfold B_l_heldStringS_0; simp only [hx, mk_String, eq_self, decide_true, beq_self_eq_true, cond_true]) h0 h1
theorem mh_StringS (a : List Str) (k : Int) (h0 : 0 ≤ k) (h1 : k + (((1 : Nat) * a.length : Nat) : Int) ≤ 4611686018427387904) : l_heldStringS (l_markStringS a k).2 k = (l_markStringS a k).1 ∧ (l_markStringS a k).1 = k + (((1 : Nat) * a.length : Nat) : Int) ∧ (l_markStringS a k).2.length = a.length := by
  rw [← cntL_const] at h1 ⊢
  refine ⟨held_StringS a k h0 h1, ?_, ?_⟩
  · rw [mark_StringS]; exact mkL_cnt mkc_String a k h0 h1
  · rw [mark_StringS]; exact mkL_length _ _ _
theorem rf_markStringS (a : List Str) (k : Int) (h : k ≤ 9223372036854775807) : (l_markStringS a k).1 ≤ 9223372036854775807 := by
  unfold l_markStringS
  refine loopM_val (fun _ (s : Int × List Str) => s.1 ≤ 9223372036854775807) (fun (v : Int × List Str) => v.1 ≤ 9223372036854775807) h (fun s hs => hs) ?_
  rintro j ⟨k, x⟩ _ _ hk
  exact wrap_le _
theorem rf_heldStringS (a : List Str) (k : Int) (h : k ≤ 9223372036854775807) : l_heldStringS a k ≤ 9223372036854775807 := by
  unfold l_heldStringS
  refine loopM_val (fun _ (s : Int) => s ≤ 9223372036854775807) (fun v => v ≤ 9223372036854775807) h (fun s hs => hs) ?_
  intro j k' _ _ hk
  unfold B_l_heldStringS_0
  dsimp only
  cases ((a.getD j d_Str) == l_markText k') <;> first | exact wrap_le _ | exact neg1_le
def c_Row (x : DRow) : Nat := 1 * x.Vals.length
def mk_Row (x : DRow) (k : Int) : Int × DRow := ((l_markStringS x.Vals k).1, ⟨(l_markStringS x.Vals k).2⟩)
theorem mkc_Row (x : DRow) (k : Int) (h0 : 0 ≤ k) (h1 : k + ((c_Row x : Nat) : Int) ≤ 4611686018427387904) : (mk_Row x k).1 = k + ((c_Row x : Nat) : Int) := by
  unfold c_Row at h1 ⊢
  obtain ⟨e0, n0, _⟩ := mh_StringS x.Vals k (by omega) (by omega)
  unfold mk_Row
  simp only [n0] <;> omega
theorem mark_RowS (a : List DRow) (k : Int) : l_markRowS a k = mkL mk_Row a k := by
  unfold l_markRowS
  exact markE (d := d_Row) (mk := mk_Row) (fun i k xs hi => by unfold B_l_markRowS_0; simp only [List.set_set, getD_set_self hi, mk_Row]) a k
theorem held_RowS (a : List DRow) (k : Int) (h0 : 0 ≤ k) (h1 : k + (cntL c_Row a : Int) ≤ 4611686018427387904) : l_heldRowS (l_markRowS a k).2 k = (l_markRowS a k).1 := by
  rw [mark_RowS]
  unfold l_heldRowS
  refine heldE (d := d_Row) (mk := mk_Row) (c := c_Row) a k mkc_Row (fun i k x hx h0 h1 => ?_) h0 h1
  unfold c_Row at h1
  obtain ⟨e0, n0, _⟩ := mh_StringS x.Vals k (by omega) (by omega)
  unfold B_l_heldRowS_0
  simp only [hx, mk_Row]
  simp only [n0, e0, decide_eq_false (show ¬ k + ((1 * x.Vals.length : Nat) : Int) < 0 by omega), eq_self, decide_true, beq_self_eq_true, cond_true, cond_false]
theorem mh_RowS (a : List DRow) (k : Int) (h0 : 0 ≤ k) (h1 : k + ((cntL c_Row a : Nat) : Int) ≤ 4611686018427387904) : l_heldRowS (l_markRowS a k).2 k = (l_markRowS a k).1 ∧ (l_markRowS a k).1 = k + ((cntL c_Row a : Nat) : Int) ∧ (l_markRowS a k).2.length = a.length := by
  refine ⟨held_RowS a k h0 h1, ?_, ?_⟩
  · rw [mark_RowS]; exact mkL_cnt mkc_Row a k h0 h1
  · rw [mark_RowS]; exact mkL_length _ _ _
theorem rf_markRowS (a : List DRow) (k : Int) (h : k ≤ 9223372036854775807) : (l_markRowS a k).1 ≤ 9223372036854775807 := by
  unfold l_markRowS
  refine loopM_val (fun _ (s : Int × List DRow) => s.1 ≤ 9223372036854775807) (fun (v : Int × List DRow) => v.1 ≤ 9223372036854775807) h (fun s hs => hs) ?_
  rintro j ⟨k, x⟩ _ _ hk
  exact (rf_markStringS _ _ hk)
theorem rf_heldRowS (a : List DRow) (k : Int) (h : k ≤ 9223372036854775807) : l_heldRowS a k ≤ 9223372036854775807 := by
  unfold l_heldRowS
  refine loopM_val (fun _ (s : Int) => s ≤ 9223372036854775807) (fun v => v ≤ 9223372036854775807) h (fun s hs => hs) ?_
  intro j k' _ _ hk
  unfold B_l_heldRowS_0
  dsimp only
  cases decide ((l_heldStringS ((a.getD j d_Row).Vals) k') < 0) <;> first | exact neg1_le | exact (rf_heldStringS _ _ hk)
theorem ContainsFunc_Write (xs : List DWrite) (f : DWrite → Bool) : g_slices_ContainsFunc_Write xs f = xs.any f := idxF_any f d_Write xs
theorem ContainsFunc_string (xs : List Str) (f : Str → Bool) : g_slices_ContainsFunc_string xs f = xs.any f := idxF_any f d_Str xs
theorem Contains_string (xs : List Str) (y : Str) : g_slices_Contains_string xs y = xs.any (fun x => y == x) := idxF_any _ d_Str xs
def mk_Write (_ : DWrite) (k : Int) : Int × DWrite := (IntKind.wrap .i64 ((IntKind.wrap .i64 ((IntKind.wrap .i64 (k + 1)) + 1)) + 1), ⟨l_markText k, l_markText (IntKind.wrap .i64 (k + 1)), decide (Int.tmod (IntKind.wrap .i64 ((IntKind.wrap .i64 (k + 1)) + 1)) 3 = 0)⟩)
theorem mkc_Write (x : DWrite) (k : Int) (h0 : 0 ≤ k) (h1 : k + ((3 : Nat) : Int) ≤ 4611686018427387904) : (mk_Write x k).1 = k + ((3 : Nat) : Int) := by
  unfold mk_Write
  simp only [IntKind.wrap_i64]; omega
theorem mark_WriteS (a : List DWrite) (k : Int) : l_markWriteS a k = mkL mk_Write a k := by
  unfold l_markWriteS
  exact markE (d := d_Write) (mk := mk_Write) (fun i k xs hi => by unfold B_l_markWriteS_0; simp only [List.set_set, getD_set_self hi, mk_Write]) a k
theorem held_WriteS (a : List DWrite) (k : Int) (h0 : 0 ≤ k) (h1 : k + (cntL (fun _ => 3) a : Int) ≤ 4611686018427387904) : l_heldWriteS (l_markWriteS a k).2 k = (l_markWriteS a k).1 := by
  rw [mark_WriteS]
  unfold l_heldWriteS
  exact heldE (d := d_Write) (mk := mk_Write) (c := fun _ => 3) a k mkc_Write (fun i k x hx _ _ => by unfold B_l_heldWriteS_0; simp only [hx, mk_Write, eq_self, decide_true, beq_self_eq_true, cond_true]) h0 h1
theorem mh_WriteS (a : List DWrite) (k : Int) (h0 : 0 ≤ k) (h1 : k + (((3 : Nat) * a.length : Nat) : Int) ≤ 4611686018427387904) : l_heldWriteS (l_markWriteS a k).2 k = (l_markWriteS a k).1 ∧ (l_markWriteS a k).1 = k + (((3 : Nat) * a.length : Nat) : Int) ∧ (l_markWriteS a k).2.length = a.length := by
  rw [← cntL_const] at h1 ⊢
  refine ⟨held_WriteS a k h0 h1, ?_, ?_⟩
  · rw [mark_WriteS]; exact mkL_cnt mkc_Write a k h0 h1
  · rw [mark_WriteS]; exact mkL_length _ _ _
theorem rf_markWriteS (a : List DWrite) (k : Int) (h : k ≤ 9223372036854775807) : (l_markWriteS a k).1 ≤ 9223372036854775807 := by
  unfold l_markWriteS
  refine loopM_val (fun _ (s : Int × List DWrite) => s.1 ≤ 9223372036854775807) (fun (v : Int × List DWrite) => v.1 ≤ 9223372036854775807) h (fun s hs => hs) ?_
  rintro j ⟨k, x⟩ _ _ hk
  exact wrap_le _
def mk_Idx (_ : DIdx) (k : Int) : Int × DIdx := (IntKind.wrap .i64 ((IntKind.wrap .i64 ((IntKind.wrap .i64 (k + 1)) + 1)) + 1), ⟨l_markText k, IntKind.wrap .i64 (k + 1), IntKind.wrap .i64 ((IntKind.wrap .i64 (k + 1)) + 1)⟩)
theorem mkc_Idx (x : DIdx) (k : Int) (h0 : 0 ≤ k) (h1 : k + ((3 : Nat) : Int) ≤ 4611686018427387904) : (mk_Idx x k).1 = k + ((3 : Nat) : Int) := by
  unfold mk_Idx
  simp only [IntKind.wrap_i64]; omega
theorem mark_IdxS (a : List DIdx) (k : Int) : l_markIdxS a k = mkL mk_Idx a k := by
  unfold l_markIdxS
  exact markE (d := d_Idx) (mk := mk_Idx) (fun i k xs hi => by unfold B_l_markIdxS_0; simp only [List.set_set, getD_set_self hi, mk_Idx]) a k
theorem held_IdxS (a : List DIdx) (k : Int) (h0 : 0 ≤ k) (h1 : k + (cntL (fun _ => 3) a : Int) ≤ 4611686018427387904) : l_heldIdxS (l_markIdxS a k).2 k = (l_markIdxS a k).1 := by
  rw [mark_IdxS]
  unfold l_heldIdxS
  exact heldE (d := d_Idx) (mk := mk_Idx) (c := fun _ => 3) a k mkc_Idx (fun i k x hx _ _ => by unfold B_l_heldIdxS_0; simp only [hx, mk_Idx, eq_self, decide_true, beq_self_eq_true, cond_true]) h0 h1
theorem mh_IdxS (a : List DIdx) (k : Int) (h0 : 0 ≤ k) (h1 : k + (((3 : Nat) * a.length : Nat) : Int) ≤ 4611686018427387904) : l_heldIdxS (l_markIdxS a k).2 k = (l_markIdxS a k).1 ∧ (l_markIdxS a k).1 = k + (((3 : Nat) * a.length : Nat) : Int) ∧ (l_markIdxS a k).2.length = a.length := by
  rw [← cntL_const] at h1 ⊢
  refine ⟨held_IdxS a k h0 h1, ?_, ?_⟩
  · rw [mark_IdxS]; exact mkL_cnt mkc_Idx a k h0 h1
  · rw [mark_IdxS]; exact mkL_length _ _ _
theorem rf_markIdxS (a : List DIdx) (k : Int) (h : k ≤ 9223372036854775807) : (l_markIdxS a k).1 ≤ 9223372036854775807 := by
  unfold l_markIdxS
  refine loopM_val (fun _ (s : Int × List DIdx) => s.1 ≤ 9223372036854775807) (fun (v : Int × List DIdx) => v.1 ≤ 9223372036854775807) h (fun s hs => hs) ?_
  rintro j ⟨k, x⟩ _ _ hk
  exact wrap_le _
theorem mh_Table (a : DTable) (k : Int) (h0 : 0 ≤ k) (h1 : k + ((1 * a.Cols.length + 3 * a.Idxs.length : Nat) : Int) ≤ 4611686018427387904) : l_heldTable (l_markTable a k).2 k = (l_markTable a k).1 ∧ (l_markTable a k).1 = k + ((1 * a.Cols.length + 3 * a.Idxs.length : Nat) : Int) := by
  obtain ⟨e0, n0, _⟩ := mh_StringS a.Cols k (by omega) (by omega)
  obtain ⟨e1, n1, _⟩ := mh_IdxS a.Idxs (k + ((1 * a.Cols.length : Nat) : Int)) (by omega) (by omega)
  have q1 : l_heldTable (l_markTable a k).2 k = (k + ((1 * a.Cols.length : Nat) : Int)) + ((3 * a.Idxs.length : Nat) : Int) := by unfold l_heldTable l_markTable; simp only [e0, n0, e1, n1, decide_eq_false (show ¬ k + ((1 * a.Cols.length : Nat) : Int) < 0 by omega), decide_eq_false (show ¬ (k + ((1 * a.Cols.length : Nat) : Int)) + ((3 * a.Idxs.length : Nat) : Int) < 0 by omega), cond_false]
  have q2 : (l_markTable a k).1 = (k + ((1 * a.Cols.length : Nat) : Int)) + ((3 * a.Idxs.length : Nat) : Int) := by unfold l_markTable; simp only [n0, n1]
  exact ⟨q1.trans q2.symm, q2.trans (by omega)⟩
theorem rf_markTable (a : DTable) (k : Int) (h : k ≤ 9223372036854775807) : (l_markTable a k).1 ≤ 9223372036854775807 := by
  unfold l_markTable
  exact (rf_markIdxS _ _ (rf_markStringS _ _ h))
theorem within_eq : i_within = s_l1In := rfl
theorem f_l1In {n lo hi : Int} (h : s_l1In n lo hi = true) : lo ≤ n ∧ n ≤ hi := by
  unfold s_l1In at h
  obtain ⟨h1, h2⟩ := of_cond_f h
  exact ⟨of_decide_eq_true h1, of_decide_eq_true h2⟩
theorem f_within {n lo hi : Int} (h : i_within n lo hi = true) : lo ≤ n ∧ n ≤ hi := f_l1In h
theorem indexByte_neg (l : List UInt8) (c : UInt8) : decide (Lib.indexByte l c < 0) = !(l.contains c) := by
  induction l with
  | nil => rfl
  | cons b l ih =>
    have hge := Lib.indexByte_ge l c
    rw [Bool.eq_iff_iff] at ih ⊢
    simp only [decide_eq_true_eq, Bool.not_eq_true', List.contains_cons] at ih ⊢
    unfold Lib.indexByte
    by_cases hb : b = c
    · subst hb; simp
    · have hb1 : (b == c) = false := by simpa using hb
      have hb2 : (c == b) = false := by simpa using fun h => hb h.symm
      rw [hb1, hb2]
      simp only [Bool.false_or, Bool.false_eq_true, if_false]
      split
      · rename_i h
        have : Lib.indexByte l c = -1 := by simpa using h
        rw [← ih]; omega
      · rename_i h
        have : Lib.indexByte l c ≠ -1 := by simpa using h
        constructor
        · intro h; omega
        · intro h; have := ih.2 h; omega
theorem byte_back (b : UInt8) : ((b.toNat : Int)).toNat.toUInt8 = b := by simp
theorem idxB_neg (s : Str) (b : UInt8) : decide (idxB s (b.toNat : Int) < 0) = !(s.contains b) := by
  unfold idxB
  rw [byte_back, indexByte_neg]
def byteOk (more : Str) (b : UInt8) : Bool := i_isLowerOrDigit (b.toNat : Int) || more.contains b
theorem hasBytes_eq (s more : Str) : i_hasBytes s more = s.all (byteOk more) := by
  unfold i_hasBytes
  rw [allE (0 : UInt8) (byteOk more) (r := false) fun k => by
    unfold B_i_hasBytes_0 byteOk g_strings_IndexByte g_internal_stringslite_IndexByte
    rw [idxB_neg]
    cases i_isLowerOrDigit ((s.getD k 0).toNat : Int) <;> cases more.contains (s.getD k 0) <;> rfl]
  cases s.all (byteOk more) <;> rfl
theorem toNat_eq (a b : UInt8) : decide ((a.toNat : Int) = (b.toNat : Int)) = (a == b) := by
  rw [Bool.eq_iff_iff, decide_eq_true_iff, beq_iff_eq]
  constructor
  · intro h; exact UInt8.toNat.inj (by omega)
  · intro h; rw [h]
theorem l3B1 {T : Type} (s more : Str) (k : Nat) (x0 : Bool) (fr : Bool → T) (fd : Bool → T) : loopE (loopM (B_s_l3Bytes_1 s more k) (more.length - 0) 0 x0) fr fd = fd (x0 || more.contains (s.getD k 0)) := by
  rw [orE (0 : UInt8) (fun b => (s.getD k 0) == b) fun j x => by
    unfold B_s_l3Bytes_1
    rw [toNat_eq]
    cases x <;> rfl]
  rw [List.contains_eq_any_beq]
theorem l3Bytes_eq (s more : Str) : s_l3Bytes s more = s.all (byteOk more) := by
  unfold s_l3Bytes
  rw [allE (0 : UInt8) (byteOk more) (r := false) fun k => by
    unfold B_s_l3Bytes_0 byteOk i_isLowerOrDigit
    simp only [l3B1]
    cases decide (97 ≤ ((s.getD k 0).toNat : Int)) <;> cases decide (((s.getD k 0).toNat : Int) ≤ 122) <;> cases decide (48 ≤ ((s.getD k 0).toNat : Int)) <;> cases decide (((s.getD k 0).toNat : Int) ≤ 57) <;> cases more.contains (s.getD k 0) <;> rfl]
  cases s.all (byteOk more) <;> rfl
theorem GoodKey_eq (s : Str) : i_GoodKey s = s_l3Key s := by
  unfold i_GoodKey s_l3Key
  rw [hasBytes_eq, l3Bytes_eq, within_eq]
theorem GoodVal_eq (s : Str) : i_GoodVal s = s_l3Val s := by
  unfold i_GoodVal s_l3Val
  rw [hasBytes_eq, l3Bytes_eq]

theorem writeKeys_eq (l : List DWrite) : i_writeKeys l = l.map (·.Key) := by
  unfold i_writeKeys
  rw [mapE (body := B_i_writeKeys_0 l) (xs := l) d_Write (fun w => w.Key) fun k x _ => rfl]
  rfl
def rising (ks : List Str) (k : Nat) : Bool := bif decide (0 < (k : Int)) then sLt (ks.getD ((IntKind.wrap .i64 ((k : Int) - 1)).toNat) d_Str) (ks.getD k d_Str) else true
theorem areRising_eq (ks : List Str) : i_areRising ks = (List.range ks.length).all fun k => s_l3Key (ks.getD k d_Str) && rising ks k := by
  unfold i_areRising
  rw [loopU (fun k => s_l3Key (ks.getD k d_Str) && rising ks k) (r := false) fun k _ => by
    unfold B_i_areRising_0 rising
    rw [GoodKey_eq, sLe_not]
    cases s_l3Key (ks.getD k d_Str) <;> cases decide (0 < (k : Int)) <;> cases sLt (ks.getD ((IntKind.wrap .i64 ((k : Int) - 1)).toNat) d_Str) (ks.getD k d_Str) <;> rfl]
  cases (List.range ks.length).all fun k => s_l3Key (ks.getD k d_Str) && rising ks k <;> rfl
theorem l3Writes_eq (l : List DWrite) : s_l3Writes l = (((List.range l.length).all fun k => s_l3Write ((l.getD k d_Write).Key) ((l.getD k d_Write).Val) ((l.getD k d_Write).Gone) && rising (l.map (·.Key)) k) && decide ((l.length : Int) ≤ 24)) := by
  have hg : ∀ k, (l.map (·.Key)).getD k d_Str = (l.getD k d_Write).Key := by
    intro k
    simp only [List.getD_eq_getElem?_getD, List.getElem?_map]
    cases l[k]? <;> rfl
  unfold s_l3Writes
  rw [loopU (fun k => s_l3Write ((l.getD k d_Write).Key) ((l.getD k d_Write).Val) ((l.getD k d_Write).Gone) && rising (l.map (·.Key)) k) (r := false) fun k _ => by
    unfold B_s_l3Writes_0 rising
    rw [hg, hg]
    cases s_l3Write ((l.getD k d_Write).Key) ((l.getD k d_Write).Val) ((l.getD k d_Write).Gone) <;> cases decide (0 < (k : Int)) <;> cases sLt (l.getD ((IntKind.wrap .i64 ((k : Int) - 1)).toNat) d_Write).Key (l.getD k d_Write).Key <;> rfl]
  cases ((List.range l.length).all fun k => s_l3Write ((l.getD k d_Write).Key) ((l.getD k d_Write).Val) ((l.getD k d_Write).Gone) && rising (l.map (·.Key)) k) <;> rfl
theorem and_all {α : Type} (l : List α) (p q : α → Bool) : (l.all p && l.all q) = l.all fun x => p x && q x := by
  induction l with
  | nil => rfl
  | cons x l ih =>
    simp only [List.all_cons, ← ih]
    cases p x <;> cases q x <;> cases l.all p <;> rfl
theorem isStored_eq (v : Str) (g : Bool) : i_isStored v g = (s_l3Val v && (!g || v == ([] : Str))) := by
  unfold i_isStored
  rw [GoodVal_eq]
  cases s_l3Val v <;> cases g <;> cases (v == ([] : Str)) <;> rfl
theorem l3Write_eq (k v : Str) (g : Bool) : s_l3Write k v g = (s_l3Key k && i_isStored v g) := by
  rw [isStored_eq]
  unfold s_l3Write
  cases s_l3Key k <;> cases s_l3Val v <;> cases g <;> cases (v == ([] : Str)) <;> rfl
theorem GoodWrites_eq (l : List DWrite) : i_GoodWrites l = s_l3Writes l := by
  have hg : ∀ k, (l.map (·.Key)).getD k d_Str = (l.getD k d_Write).Key := by
    intro k
    simp only [List.getD_eq_getElem?_getD, List.getElem?_map]
    cases l[k]? <;> rfl
  unfold i_GoodWrites
  rw [writeKeys_eq, areRising_eq, l3Writes_eq, ContainsFunc_Write, List.length_map]
  have h1 : (!(l.any fun y => i_GoodWrites_c1 y)) = (List.range l.length).all fun k => i_isStored (l.getD k d_Write).Val (l.getD k d_Write).Gone := by
    rw [List.not_any_eq_all_not, ← range_all d_Write]
    unfold i_GoodWrites_c1
    simp only [Bool.not_not]
  rw [h1]
  have h2 : ((List.range l.length).all fun k => s_l3Write ((l.getD k d_Write).Key) ((l.getD k d_Write).Val) ((l.getD k d_Write).Gone) && rising (l.map (·.Key)) k) = (((List.range l.length).all fun k => s_l3Key ((l.map (·.Key)).getD k d_Str) && rising (l.map (·.Key)) k) && (List.range l.length).all fun k => i_isStored (l.getD k d_Write).Val (l.getD k d_Write).Gone) := by
    rw [and_all]
    congr 1; funext k
    rw [l3Write_eq, hg]
    cases s_l3Key (l.getD k d_Write).Key <;> cases i_isStored (l.getD k d_Write).Val (l.getD k d_Write).Gone <;> cases rising (l.map (·.Key)) k <;> rfl
  rw [h2]
  cases decide ((l.length : Int) ≤ 24) <;> cases ((List.range l.length).all fun k => s_l3Key ((l.map (·.Key)).getD k d_Str) && rising (l.map (·.Key)) k) <;> cases ((List.range l.length).all fun k => i_isStored (l.getD k d_Write).Val (l.getD k d_Write).Gone) <;> rfl
theorem isRows_eq (l : List DWrite) : i_isRows l = (s_l3Writes l && l.all fun w => !w.Gone) := by
  unfold i_isRows
  rw [GoodWrites_eq, ContainsFunc_Write, List.not_any_eq_all_not]
  cases s_l3Writes l <;> rfl
theorem letters_eq : i_areLetters = s_l24Letters := by
  funext s m
  unfold i_areLetters s_l24Letters
  rfl
theorem isField_eq (s : Str) : i_isField s = s_l25Field s := by
  unfold i_isField s_l25Field
  rw [hasBytes_eq, l3Bytes_eq, within_eq]
theorem l25Good_eq (t : DTable) (r : DRow) : s_l25Good t r = (r.Vals.all s_l25Field && decide ((r.Vals.length : Int) = (t.Cols.length : Int))) := by
  unfold s_l25Good
  rw [allE d_Str s_l25Field (r := false) fun k => rfl]
  cases r.Vals.all s_l25Field <;> rfl
theorem isRow_eq (t : DTable) (r : DRow) : i_Table_isRow t r = s_l25Good t r := by
  rw [l25Good_eq]
  unfold i_Table_isRow
  rw [ContainsFunc_string, List.not_any_eq_all_not]
  unfold i_Table_isRow_c1
  simp only [Bool.not_not, isField_eq]
  cases decide ((r.Vals.length : Int) = (t.Cols.length : Int)) <;> cases (r.Vals.all fun x => s_l25Field x) <;> rfl
theorem l24At_neg (l : List Str) (s : Str) : decide (0 ≤ s_l24At l s) = l.any fun x => x == s := by
  have : s_l24At l s = idxF (fun x => x == s) d_Str l := rfl
  rw [this, idxF_any]
def colOk (l : List Str) (k : Nat) : Bool := s_l24Letters (l.getD k d_Str) 3 && !((l.take k).any fun x => x == l.getD k d_Str)
theorem l24Cols_eq (l : List Str) : s_l24Cols l = ((List.range l.length).all (colOk l) && s_l1In (l.length : Int) 2 4) := by
  unfold s_l24Cols
  rw [loopU (colOk l) (r := false) fun k _ => by
    unfold B_s_l24Cols_0 colOk
    rw [l24At_neg]
    cases s_l24Letters (l.getD k d_Str) 3 <;> cases ((l.take k).any fun x => x == l.getD k d_Str) <;> rfl]
  cases (List.range l.length).all (colOk l) <;> rfl
theorem GoodTable_eq (t : DTable) : i_GoodTable t = s_GoodTable t := by
  unfold i_GoodTable s_GoodTable
  rw [l24Cols_eq, letters_eq, within_eq]
  rw [loopU (colOk t.Cols) (r := false) fun k _ => by
    unfold B_i_GoodTable_0 colOk
    rw [Contains_string, letters_eq]
    rw [show ((t.Cols.take k).any fun x => t.Cols.getD k d_Str == x) = ((t.Cols.take k).any fun x => x == t.Cols.getD k d_Str) by congr 1; funext x; rw [Bool.beq_comm]]
    cases s_l24Letters (t.Cols.getD k d_Str) 3 <;> cases ((t.Cols.take k).any fun x => x == t.Cols.getD k d_Str) <;> rfl]
  have hb : B_i_GoodTable_1 t = B_s_GoodTable_0 t := by
    funext k u
    unfold B_i_GoodTable_1 B_s_GoodTable_0 i_isStage
    rw [letters_eq, within_eq, sLe_not]
    cases s_l24Letters ((t.Idxs.getD k d_Idx).Name) 1 <;> cases s_l1In ((t.Idxs.getD k d_Idx).Col) 1 (IntKind.wrap .i64 ((t.Cols.length : Int) - 1)) <;> cases s_l1In ((t.Idxs.getD k d_Idx).Stage) 0 3 <;> cases decide (0 < (k : Int)) <;> cases sLt ((t.Idxs.getD ((IntKind.wrap .i64 ((k : Int) - 1)).toNat) d_Idx).Name) ((t.Idxs.getD k d_Idx).Name) <;> rfl
  rw [hb]
  cases s_l24Letters t.Name 1 <;> cases s_l1In (t.Cols.length : Int) 2 4 <;> cases decide (3 < (t.Idxs.length : Int)) <;> cases (List.range t.Cols.length).all (colOk t.Cols) <;> rfl
theorem f_s_GoodTable {t : DTable} (h : s_GoodTable t = true) : 2 ≤ (t.Cols.length : Int) ∧ (t.Cols.length : Int) ≤ 4 ∧ (t.Idxs.length : Int) ≤ 3 := by
  unfold s_GoodTable at h
  obtain ⟨_, h⟩ := of_cond_f h
  obtain ⟨h1, h⟩ := of_cond_f h
  rw [l24Cols_eq, Bool.and_eq_true] at h1
  have h2 := f_l1In h1.2
  refine ⟨h2.1, h2.2, ?_⟩
  cases h3 : decide (3 < (t.Idxs.length : Int))
  · have := of_decide_eq_false h3; omega
  · rw [h3] at h; cases h
theorem f_i_GoodTable {t : DTable} (h : i_GoodTable t = true) : 2 ≤ (t.Cols.length : Int) ∧ (t.Cols.length : Int) ≤ 4 ∧ (t.Idxs.length : Int) ≤ 3 := f_s_GoodTable (GoodTable_eq t ▸ h)
theorem f_s_l25Good' {t : DTable} {r : DRow} (h : s_l25Good t r = true) : r.Vals.length = t.Cols.length := by
  rw [l25Good_eq, Bool.and_eq_true] at h
  have := of_decide_eq_true h.2
  omega
def idxOk (t : DTable) (k : Nat) : Bool := s_l24Letters (t.Idxs.getD k d_Idx).Name 1 && s_l1In (t.Idxs.getD k d_Idx).Col 1 (IntKind.wrap .i64 ((t.Cols.length : Int) - 1)) && s_l1In (t.Idxs.getD k d_Idx).Stage 0 3 && bif decide (0 < (k : Int)) then sLt (t.Idxs.getD ((IntKind.wrap .i64 ((k : Int) - 1)).toNat) d_Idx).Name (t.Idxs.getD k d_Idx).Name else true
theorem s_GoodTable_eq (t : DTable) : s_GoodTable t = (s_l24Letters t.Name 1 && s_l24Cols t.Cols && decide (t.Idxs.length ≤ 3) && (List.range t.Idxs.length).all (idxOk t)) := by
  unfold s_GoodTable
  rw [loopU (idxOk t) (r := false) fun k _ => by
    unfold B_s_GoodTable_0 idxOk
    cases s_l24Letters (t.Idxs.getD k d_Idx).Name 1 <;> cases s_l1In (t.Idxs.getD k d_Idx).Col 1 (IntKind.wrap .i64 ((t.Cols.length : Int) - 1)) <;> cases s_l1In (t.Idxs.getD k d_Idx).Stage 0 3 <;> cases decide (0 < (k : Int)) <;> cases sLt (t.Idxs.getD ((IntKind.wrap .i64 ((k : Int) - 1)).toNat) d_Idx).Name (t.Idxs.getD k d_Idx).Name <;> rfl]
  have e : decide (t.Idxs.length ≤ 3) = !decide (3 < (t.Idxs.length : Int)) := by
    by_cases h : t.Idxs.length ≤ 3
    · rw [decide_eq_true h, decide_eq_false (by omega)]; rfl
    · rw [decide_eq_false h, decide_eq_true (by omega)]; rfl
  rw [e]
  cases s_l24Letters t.Name 1 <;> cases s_l24Cols t.Cols <;> cases decide (3 < (t.Idxs.length : Int)) <;> cases (List.range t.Idxs.length).all (idxOk t) <;> rfl
def letter (b : UInt8) : Bool := !decide ((b.toNat : Int) < 97) && !decide (122 < (b.toNat : Int))
theorem l24Letters_eq (s : Str) (m : Int) : s_l24Letters s m = (s.all letter && decide (1 ≤ (s.length : Int)) && decide ((s.length : Int) ≤ m)) := by
  unfold s_l24Letters
  rw [allE (0 : UInt8) letter (r := false) fun k => by
    unfold B_s_l24Letters_0 letter
    cases decide (((s.getD k 0).toNat : Int) < 97) <;> cases decide (122 < ((s.getD k 0).toNat : Int)) <;> rfl]
  cases s.all letter <;> cases decide (1 ≤ (s.length : Int)) <;> rfl
theorem letters_len {s : Str} {m : Int} (h : s_l24Letters s m = true) : 1 ≤ (s.length : Int) ∧ (s.length : Int) ≤ m := by
  rw [l24Letters_eq] at h
  simp only [Bool.and_eq_true, decide_eq_true_eq] at h
  exact ⟨h.1.2, h.2⟩
structure GoodT (t : DTable) : Prop where
  name : t.Name.length = 1
  cols : 2 ≤ t.Cols.length ∧ t.Cols.length ≤ 4
  idxs : t.Idxs.length ≤ 3
  idx : ∀ k, k < t.Idxs.length → (t.Idxs.getD k d_Idx).Name.length = 1 ∧ 1 ≤ (t.Idxs.getD k d_Idx).Col ∧ (t.Idxs.getD k d_Idx).Col < (t.Cols.length : Int) ∧ 0 ≤ (t.Idxs.getD k d_Idx).Stage ∧ (t.Idxs.getD k d_Idx).Stage ≤ 3
  rise : ∀ k, k + 1 < t.Idxs.length → (t.Idxs.getD k d_Idx).Name < (t.Idxs.getD (k + 1) d_Idx).Name
theorem GoodT.of {t : DTable} (h : s_GoodTable t = true) : GoodT t := by
  have hf := f_s_GoodTable h
  rw [s_GoodTable_eq] at h
  simp only [Bool.and_eq_true, decide_eq_true_eq, List.all_eq_true, List.mem_range] at h
  obtain ⟨⟨⟨h1, h2⟩, h3⟩, h4⟩ := h
  have h5 : ∀ k, k < t.Idxs.length → _ := fun k hk => h4 k hk
  unfold idxOk at h5
  simp only [Bool.and_eq_true] at h5
  refine ⟨by have := letters_len h1; omega, by omega, h3, fun k hk => ?_, fun k hk => ?_⟩
  · obtain ⟨⟨⟨a, b⟩, c⟩, d⟩ := h5 k hk
    have a := letters_len a
    have b := f_l1In b
    have c := f_l1In c
    rw [wrap_in (by omega)] at b
    omega
  · have d := (h5 (k + 1) hk).2
    rw [wrap_in (by omega), decide_eq_true (show 0 < ((k + 1 : Nat) : Int) by omega)] at d
    have e : (((k + 1 : Nat) : Int) - 1).toNat = k := by omega
    rw [e] at d
    exact (sLt_iff _ _).1 d
def rowShort (r : DRow) : Prop := ∀ v ∈ r.Vals, v.length ≤ 3
theorem rowShort.getD {r : DRow} (h : rowShort r) (k : Nat) : (r.Vals.getD k d_Str).length ≤ 3 := by
  rcases Nat.lt_or_ge k r.Vals.length with hk | hk
  · exact h _ (getD_mem hk)
  · rw [List.getD_eq_getElem?_getD, List.getElem?_eq_none hk]; exact Nat.zero_le _
theorem field_len {s : Str} (h : s_l25Field s = true) : 1 ≤ (s.length : Int) ∧ (s.length : Int) ≤ 3 := by
  unfold s_l25Field at h
  exact f_l1In (of_cond_f h).1
theorem f_s_l25Good {t : DTable} {r : DRow} (h : s_l25Good t r = true) : r.Vals.length = t.Cols.length ∧ rowShort r := by
  refine ⟨f_s_l25Good' h, fun v hv => ?_⟩
  rw [l25Good_eq, Bool.and_eq_true] at h
  have := field_len (List.all_eq_true.1 h.1 v hv)
  omega
theorem f_i_isRow {t : DTable} {r : DRow} (h : i_Table_isRow t r = true) : r.Vals.length = t.Cols.length ∧ rowShort r := f_s_l25Good (isRow_eq t r ▸ h)
theorem l5Rows_eq (l : List DWrite) : s_l5Rows l = i_isRows l := by
  rw [isRows_eq]
  unfold s_l5Rows
  rw [allE d_Write (fun w => !w.Gone) (r := false) fun k => by
    unfold B_s_l5Rows_0
    cases (l.getD k d_Write).Gone <;> rfl]
  cases s_l3Writes l <;> cases (l.all fun w => !w.Gone) <;> rfl
theorem szTable_len {t : DTable} (hw : wf_Table t) (h : ¬ l_szTable t 1048576 < 0) : t.Cols.length ≤ 2147483648 ∧ t.Idxs.length ≤ 2147483648 := by
  have := (szok_Table hw (by decide) h).1
  exact ⟨this.2.1.1, this.2.2.1⟩
theorem l3Key_len {s : Str} (h : s_l3Key s = true) : s.length ≤ 12 := by
  unfold s_l3Key at h
  have := f_l1In (of_cond_f h).1
  omega
theorem l3Val_len {s : Str} (h : s_l3Val s = true) : s.length ≤ 24 := by
  unfold s_l3Val at h
  have := of_decide_eq_true (of_cond_f h).1
  omega
theorem l3Write_len {k v : Str} {g : Bool} (h : s_l3Write k v g = true) : k.length ≤ 12 ∧ v.length ≤ 24 := by
  rw [l3Write_eq, isStored_eq] at h
  simp only [Bool.and_eq_true] at h
  exact ⟨l3Key_len h.1, l3Val_len h.2.1⟩
theorem f_l3Writes {l : List DWrite} (h : s_l3Writes l = true) : l.length ≤ 24 ∧ ∀ k, k < l.length → (l.getD k d_Write).Key.length ≤ 12 ∧ (l.getD k d_Write).Val.length ≤ 24 := by
  rw [l3Writes_eq, Bool.and_eq_true, decide_eq_true_eq] at h
  refine ⟨by omega, fun k hk => ?_⟩
  have := List.all_eq_true.1 h.1 k (List.mem_range.2 hk)
  rw [Bool.and_eq_true] at this
  exact l3Write_len this.1
theorem f_HasPrefix {s p : Str} (h : g_internal_stringslite_HasPrefix s p = true) : p.length ≤ s.length := by
  unfold g_internal_stringslite_HasPrefix at h
  have := of_decide_eq_true (of_cond_f h).1
  omega
theorem l1Split_sp (s : Str) (b : UInt8) : s_l1Split s (b.toNat : Int) = sp b s := by
  unfold s_l1Split
  refine loopM_val (fun k (p : List Str × Int) => 0 ≤ p.2 ∧ p.2.toNat ≤ k ∧ b ∉ (s.take k).drop p.2.toNat ∧ p.1 ++ sp b (s.drop p.2.toNat) = sp b s) (fun (v : List Str) => v = sp b s) ⟨by omega, by simp, by simp, by simp⟩ ?_ ?_
  · rintro ⟨x, a⟩ ⟨h1, h2, h3, h4⟩
    dsimp only at h1 h2 h3 h4 ⊢
    rw [show s.take (0 + (s.length - 0)) = s from by rw [List.take_of_length_le (by omega)]] at h3
    rw [sp_none h3] at h4
    exact h4
  · rintro j ⟨x, a⟩ _ hj ⟨h1, h2, h3, h4⟩
    have hj' : j < s.length := by omega
    unfold B_s_l1Split_0
    dsimp only at h1 h2 h3 h4 ⊢
    have ht : (s.take (j + 1)).drop a.toNat = (s.take j).drop a.toNat ++ [s.getD j 0] := by
      rw [getD_eq hj', List.take_succ_eq_append_getElem hj', List.drop_append_of_le_length (by rw [List.length_take]; omega)]
    have hd : s.drop a.toNat = (s.take j).drop a.toNat ++ s.getD j 0 :: s.drop (j + 1) := by
      conv => lhs; rw [← List.take_append_drop j s]
      rw [List.drop_append_of_le_length (by rw [List.length_take]; omega), getD_eq hj', List.drop_eq_getElem_cons hj']
    rw [toNat_eq]
    cases hc : s.getD j 0 == b
    · refine ⟨h1, by omega, ?_, h4⟩
      rw [ht]
      intro hm
      rcases List.mem_append.1 hm with hm | hm
      · exact h3 hm
      · rw [← List.mem_singleton.1 hm] at hc; simp at hc
    · have hb : s.getD j 0 = b := eq_of_beq hc
      refine ⟨by omega, by simp, by simp, ?_⟩
      rw [hd, hb, sp_some h3] at h4
      rw [← h4, List.append_assoc]
      show x ++ ([_] ++ sp b (s.drop _)) = _
      rw [show (((j + 1 : Nat) : Int)).toNat = j + 1 from by simp]
      rfl
theorem CutPrefix_iff (k p : Str) : (g_strings_CutPrefix k p).2 = p.isPrefixOf k ∧ ((g_strings_CutPrefix k p).2 = true → (g_strings_CutPrefix k p).1 = k.drop p.length) := by
  have h : g_internal_stringslite_HasPrefix k p = p.isPrefixOf k := by
    unfold g_internal_stringslite_HasPrefix
    by_cases hp : p <+: k
    · obtain ⟨r, rfl⟩ := hp
      rw [decide_eq_true (by rw [List.length_append]; omega), cond_true, List.take_left]
      simp
    · rw [show p.isPrefixOf k = false from by rw [Bool.eq_false_iff]; intro e; exact hp (List.isPrefixOf_iff_prefix.1 e)]
      cases hd : decide ((p.length : Int) ≤ (k.length : Int))
      · rfl
      · rw [cond_true, beq_eq_false_iff_ne]
        intro e
        exact hp (e ▸ List.take_prefix ..)
  unfold g_strings_CutPrefix g_internal_stringslite_CutPrefix
  rw [h]
  cases p.isPrefixOf k <;> simp
theorem isRows_w {l : List DWrite} (h : i_isRows l = true) : s_l3Writes l = true := by
  rw [isRows_eq, Bool.and_eq_true] at h
  exact h.1
theorem inter_cons (sep x y : Str) (zs : List Str) : sep.intercalate (x :: y :: zs) = x ++ (sep ++ sep.intercalate (y :: zs)) := by
  simp [List.intercalate, List.intersperse]
theorem inter_one (sep x : Str) : sep.intercalate [x] = x := by simp [List.intercalate]
theorem inter_concat (sep x : Str) : ∀ xs : List Str, 0 < xs.length → sep.intercalate (xs ++ [x]) = (sep.intercalate xs ++ sep) ++ x
  | [], h => by simp at h
  | [y], _ => by show sep.intercalate (y :: x :: []) = _; rw [inter_cons, inter_one, inter_one, List.append_assoc]
  | y :: z :: zs, _ => by
    show sep.intercalate (y :: z :: (zs ++ [x])) = _
    rw [inter_cons, show z :: (zs ++ [x]) = (z :: zs) ++ [x] from rfl, inter_concat sep x (z :: zs) (Nat.succ_pos _), inter_cons]
    simp only [List.append_assoc]
theorem inter_len : ∀ xs : List Str, (∀ x ∈ xs, x.length ≤ 3) → (([44] : Str).intercalate xs).length ≤ 4 * xs.length
  | [], _ => Nat.zero_le _
  | [x], h => by have := h x (by simp); rw [inter_one, List.length_singleton]; omega
  | x :: y :: zs, h => by
    have h1 := h x (by simp)
    have h2 := inter_len (y :: zs) fun z hz => h z (List.mem_cons_of_mem _ hz)
    rw [inter_cons, List.length_append, List.length_append, List.length_cons (as := y :: zs)]
    simp only [List.length_cons, List.length_nil] at h2 ⊢
    omega
theorem join_drop {r : DRow} (h : r.Vals.length ≤ 4) (hr : rowShort r) : (g_strings_Join (r.Vals.drop 1) ([44] : Str)).length ≤ 1073741824 := by
  have := inter_len (r.Vals.drop 1) fun x hx => hr x (List.mem_of_mem_drop hx)
  rw [List.length_drop] at this
  unfold g_strings_Join; omega
theorem Join_eq (xs : List Str) (sep : Str) : s_l24Join xs sep = g_strings_Join xs sep := by
  unfold s_l24Join g_strings_Join
  refine loopM_val (fun k (s : Str) => s = sep.intercalate (xs.take k)) (fun (v : Str) => v = sep.intercalate xs) rfl (fun s h => by rw [h, List.take_of_length_le (by omega)]) ?_
  intro j s _ hj hs
  have hj' : j < xs.length := by omega
  unfold B_s_l24Join_0
  dsimp only
  rw [List.take_succ_eq_append_getElem hj', getD_eq hj']
  by_cases h0 : 0 < j
  · rw [decide_eq_true (by omega), hs, inter_concat _ _ _ (by rw [List.length_take]; omega)]; rfl
  · have : j = 0 := by omega
    subst this
    rw [decide_eq_false (by omega), hs]
    show [] ++ _ = _
    simp [List.intercalate]
theorem rowWrite_eq (t : DTable) (r : DRow) : i_Table_rowWrite t r = s_l25Write t r := by
  unfold i_Table_rowWrite s_l25Write
  rw [Join_eq]
theorem f_i_isStage {s : Int} (h : i_isStage s = true) : 0 ≤ s ∧ s ≤ 3 := f_within h
theorem cntL_le {α : Type} {c : α → Nat} {m : Nat} : ∀ {xs : List α}, (∀ x ∈ xs, c x ≤ m) → cntL c xs ≤ m * xs.length
  | [], _ => Nat.zero_le _
  | x :: xs, h => by
    have h1 := h x (List.mem_cons_self ..)
    have h2 := cntL_le (xs := xs) fun y hy => h y (List.mem_cons_of_mem _ hy)
    unfold cntL
    rw [List.length_cons, Nat.mul_succ]; omega
theorem rf_l1Split (s : Str) (b : Int) : 1 ≤ (s_l1Split s b).length ∧ (s_l1Split s b).length ≤ s.length + 1 := by
  unfold s_l1Split
  refine loopM_val (fun k (p : List Str × Int) => p.1.length ≤ k) (fun (v : List Str) => 1 ≤ v.length ∧ v.length ≤ s.length + 1) (Nat.zero_le _) ?_ ?_
  · rintro ⟨x, a⟩ h1
    dsimp only at h1 ⊢
    rw [List.length_append, List.length_singleton]; omega
  · rintro j ⟨x, a⟩ _ hj h1
    dsimp only at h1
    unfold B_s_l1Split_0
    dsimp only
    cases decide (((s.getD j 0).toNat : Int) = b)
    · exact Nat.le_succ_of_le h1
    · show (x ++ _).length ≤ _
      rw [List.length_append, List.length_singleton]; omega
theorem rf_Split (s sep : Str) : 1 ≤ (g_strings_Split s sep).length ∧ (g_strings_Split s sep).length ≤ s.length + 1 := ⟨sp_ne _ _, sp_length _ _⟩
theorem comma_split (s : Str) : s_l1Split s 44 = sp 44 s := l1Split_sp s 44
theorem gt_name {t : DTable} (h : s_GoodTable t = true) : t.Name.length ≤ 1 := Nat.le_of_eq (GoodT.of h).name
theorem okS_nm {t : DTable} (h : t.Name.length ≤ 1) : okS (t.Name ++ ([47] : Str)) := by unfold okS; rw [List.length_append]; show t.Name.length + 1 ≤ _; omega

theorem good_one {t : DTable} {r : DRow} (h : s_l25Good t r = true) {v : Str} (hv : v ∈ r.Vals) : 1 ≤ v.length ∧ v.length ≤ 3 := by
  rw [l25Good_eq, Bool.and_eq_true] at h
  have := field_len (List.all_eq_true.1 h.1 v hv)
  omega
def rowIn (w : DWrite) : DRow := ⟨[w.Key.drop 2] ++ s_l1Split w.Val 44⟩
theorem Split_comma (s : Str) : g_strings_Split s ([44] : Str) = s_l1Split s 44 := (comma_split s).symm
theorem drop_pre {p s k : Str} (h : s = p ++ k) : p.isPrefixOf s = true := by subst h; simp
theorem l25Read_eq (t : DTable) (w : DWrite) : s_l25Read t w = bif decide ((w.Key.length : Int) < 3) then (⟨[]⟩, false) else (rowIn w, s_l25Good t (rowIn w) && (((t.Name ++ ([47] : Str)) ++ w.Key.drop 2 == w.Key) && (((s_l25Write t (rowIn w)).Val == w.Val) && (false == w.Gone)))) := by
  unfold s_l25Read
  cases decide ((w.Key.length : Int) < 3)
  · show (bif s_l25Good t (rowIn w) then _ else _) = _
    cases s_l25Good t (rowIn w) <;> rfl
  · rfl
theorem read_row {t : DTable} (hg : s_GoodTable t = true) (w : DWrite) : i_Table_readRow t w = bif (s_l25Read t w).2 then ((s_l25Read t w).1, true) else (⟨[]⟩, false) := by
  have hn := (GoodT.of hg).name
  have hpl : (t.Name ++ ([47] : Str)).length = 2 := by rw [List.length_append, hn]; rfl
  obtain ⟨c1, c2⟩ := CutPrefix_iff w.Key (t.Name ++ ([47] : Str))
  rw [hpl] at c2
  rw [l25Read_eq]
  unfold i_Table_readRow
  rw [c1]
  cases hp : (t.Name ++ ([47] : Str)).isPrefixOf w.Key
  · rw [cond_false]
    have hne : ((t.Name ++ ([47] : Str)) ++ w.Key.drop 2 == w.Key) = false := by
      cases hh : ((t.Name ++ ([47] : Str)) ++ w.Key.drop 2 == w.Key)
      · rfl
      · rw [drop_pre (eq_of_beq hh).symm] at hp; cases hp
    cases decide ((w.Key.length : Int) < 3)
    · rw [cond_false, hne, Bool.false_and, Bool.and_false]; rfl
    · rfl
  · rw [c1] at c2
    rw [cond_true, c2 hp, Split_comma]
    show (bif i_Table_isRow t (rowIn w) then _ else _) = _
    rw [isRow_eq]
    cases hgd : s_l25Good t (rowIn w)
    · cases decide ((w.Key.length : Int) < 3) <;> rfl
    · have h1 := good_one hgd (v := w.Key.drop 2) (List.mem_cons_self ..)
      rw [List.length_drop] at h1
      rw [decide_eq_false (by omega), cond_false, cond_true, Bool.true_and, rowWrite_eq]
      show (bif (w.Key == (t.Name ++ ([47] : Str)) ++ w.Key.drop 2) && ((w.Val == (s_l25Write t (rowIn w)).Val) && (w.Gone == false)) then _ else _) = _
      rw [BEq.comm (a := w.Key), BEq.comm (a := w.Val), BEq.comm (a := w.Gone)]
      rfl
theorem read_good {t : DTable} {w : DWrite} (h : (s_l25Read t w).2 = true) : s_l25Good t (s_l25Read t w).1 = true := by
  rw [l25Read_eq] at h ⊢
  cases hd : decide ((w.Key.length : Int) < 3) <;> rw [hd] at h
  · exact (Bool.and_eq_true _ _ ▸ h).1
  · cases h
theorem rowsIn_eq {t : DTable} (hg : s_GoodTable t = true) (l : List DWrite) : i_Table_rowsIn t l = s_l25Rows t l := by
  unfold i_Table_rowsIn s_l25Rows
  have : B_i_Table_rowsIn_0 t l = B_s_l25Rows_0 t l := by
    funext k x
    unfold B_i_Table_rowsIn_0 B_s_l25Rows_0
    rw [read_row hg]
    cases (s_l25Read t (l.getD k d_Write)).2 <;> rfl
  rw [this]
theorem rows_good (t : DTable) (l : List DWrite) : (s_l25Rows t l).length ≤ l.length ∧ ∀ y ∈ s_l25Rows t l, s_l25Good t y = true := by
  unfold s_l25Rows
  refine loopM_val (fun k (p : List DRow) => p.length ≤ k ∧ ∀ y ∈ p, s_l25Good t y = true) (fun (v : List DRow) => v.length ≤ l.length ∧ ∀ y ∈ v, s_l25Good t y = true) ⟨Nat.le_refl _, fun _ h => by cases h⟩ (fun s hs => ⟨by have := hs.1; omega, hs.2⟩) ?_
  intro j x _ _ ⟨h1, h2⟩
  unfold B_s_l25Rows_0
  dsimp only
  cases h : (s_l25Read t (l.getD j d_Write)).2
  · exact ⟨Nat.le_succ_of_le h1, h2⟩
  · refine ⟨by rw [List.length_append, List.length_singleton]; omega, fun y hy => ?_⟩
    rcases List.mem_append.1 hy with hy | hy
    · exact h2 y hy
    · rw [List.mem_singleton.1 hy]; exact read_good h
theorem rows_at (t : DTable) (l : List DWrite) {k : Nat} (hk : k < (s_l25Rows t l).length) : s_l25Good t ((s_l25Rows t l).getD k d_Row) = true := (rows_good t l).2 _ (by rw [getD_eq hk]; exact List.getElem_mem hk)
theorem rowsIn_mem {t : DTable} (hg : s_GoodTable t = true) {l : List DWrite} {y : DRow} (h : y ∈ i_Table_rowsIn t l) : s_l25Good t y = true := (rows_good t l).2 y (rowsIn_eq hg l ▸ h)
theorem rows_at' (t : DTable) (l : List DWrite) {k : Nat} (hk : k < (s_l25Rows t l).length) : ((s_l25Rows t l).getD k d_Row).Vals.length = t.Cols.length ∧ rowShort ((s_l25Rows t l).getD k d_Row) := f_s_l25Good (rows_at t l hk)
theorem readRow_write {t : DTable} {w : DWrite} (h : (i_ReadRow t w).2 = true) : i_RowWrite t (i_ReadRow t w).1 = (w, true) := by
  unfold i_ReadRow at h ⊢
  cases hg : i_GoodTable t
  · rw [hg] at h; cases h
  · rw [hg] at h
    dsimp only [cond_true] at h ⊢
    unfold i_Table_readRow at h ⊢
    revert h
    generalize (⟨(([(g_strings_CutPrefix w.Key (t.Name ++ ([47] : Str))).1] : List Str) ++ (g_strings_Split w.Val ([44] : Str)))⟩ : DRow) = r
    intro h
    cases hc : (g_strings_CutPrefix w.Key (t.Name ++ ([47] : Str))).2
    · rw [hc] at h; cases h
    · rw [hc] at h
      dsimp only [cond_true] at h ⊢
      cases hr : i_Table_isRow t r
      · rw [hr] at h; cases h
      · rw [hr] at h
        dsimp only [cond_true] at h ⊢
        cases he : (w.Key == (i_Table_rowWrite t r).Key && (w.Val == (i_Table_rowWrite t r).Val && w.Gone == (i_Table_rowWrite t r).Gone))
        · rw [he] at h; cases h
        · dsimp only [cond_true]
          simp only [Bool.and_eq_true, beq_iff_eq] at he
          unfold i_RowWrite i_GoodRow
          rw [hg, cond_true, hr, cond_true]
          have : i_Table_rowWrite t r = w := by
            cases w; cases hq : i_Table_rowWrite t r
            rw [hq] at he
            simp only [DWrite.mk.injEq]
            exact ⟨he.1.symm, he.2.1.symm, he.2.2.symm⟩
          rw [this]
theorem rowsIn_map (t : DTable) (l : List DWrite) : i_Table_rowsIn t l = (l.filter fun w => (i_Table_readRow t w).2).map fun w => (i_Table_readRow t w).1 := by
  unfold i_Table_rowsIn
  refine loopM_val (fun k (p : List DRow) => p = ((l.take k).filter fun w => (i_Table_readRow t w).2).map fun w => (i_Table_readRow t w).1) (fun (v : List DRow) => v = (l.filter fun w => (i_Table_readRow t w).2).map fun w => (i_Table_readRow t w).1) rfl (fun s h => by rw [h, List.take_of_length_le (by omega)]) ?_
  intro j s _ hj hs
  have hj' : j < l.length := by omega
  unfold B_i_Table_rowsIn_0
  dsimp only
  rw [List.take_succ_eq_append_getElem hj', List.filter_append, List.map_append, ← hs, ← getD_eq (d := d_Write) hj', List.filter_cons]
  cases (i_Table_readRow t (l.getD j d_Write)).2 <;> simp
theorem sLt_trans {a b c : Str} (h1 : sLt a b = true) (h2 : sLt b c = true) : sLt a c = true := by
  unfold sLt at *
  rw [bytesLess_lt, decide_eq_true_eq] at *
  exact List.lt_trans h1 h2
theorem sLt_irrefl (a : Str) : ¬ sLt a a = true := by
  unfold sLt
  rw [bytesLess_lt, decide_eq_true_eq]
  exact List.lt_irrefl a
theorem keys_apart {l : List DWrite} (h : i_isRows l = true) : l.Pairwise fun a b => a.Key ≠ b.Key := by
  have h1 := isRows_w h
  rw [l3Writes_eq, Bool.and_eq_true, List.all_eq_true] at h1
  have h2 : ∀ d i : Nat, i + d + 1 < l.length → sLt ((l.map (·.Key)).getD i d_Str) ((l.map (·.Key)).getD (i + d + 1) d_Str) = true := by
    have step : ∀ i : Nat, i + 1 < l.length → sLt ((l.map (·.Key)).getD i d_Str) ((l.map (·.Key)).getD (i + 1) d_Str) = true := fun i hi => by
      have h3 := h1.1 (i + 1) (List.mem_range.2 hi)
      rw [Bool.and_eq_true] at h3
      have h4 := h3.2
      have h24 : l.length ≤ 24 := by have := of_decide_eq_true h1.2; omega
      unfold rising at h4
      rw [decide_eq_true (by omega), cond_true, wrap_in (by omega), show (((i + 1 : Nat) : Int) - 1).toNat = i by omega] at h4
      exact h4
    intro d
    induction d with
    | zero => exact step
    | succ d ih => exact fun i hi => sLt_trans (ih i (by omega)) (step (i + d + 1) (by omega))
  rw [List.pairwise_iff_getElem]
  intro i j hi hj hij e
  obtain ⟨d, rfl⟩ : ∃ d, j = i + d + 1 := ⟨j - i - 1, by omega⟩
  have h3 := h2 d i hj
  rw [getD_eq (by rw [List.length_map]; exact hi), getD_eq (by rw [List.length_map]; exact hj), List.getElem_map, List.getElem_map, e] at h3
  exact sLt_irrefl _ h3
theorem read_wrote {t : DTable} {w : DWrite} (hg : i_GoodTable t = true) (h : (i_Table_readRow t w).2 = true) : i_GoodRow t (i_Table_readRow t w).1 = true ∧ i_Table_rowWrite t (i_Table_readRow t w).1 = w := by
  have e : i_ReadRow t w = i_Table_readRow t w := by unfold i_ReadRow; rw [hg, cond_true]
  have h1 := readRow_write (t := t) (w := w) (by rw [e]; exact h)
  rw [e] at h1
  unfold i_RowWrite at h1
  cases hr : i_GoodRow t (i_Table_readRow t w).1
  · rw [hr] at h1; cases h1
  · rw [hr] at h1
    exact ⟨rfl, (Prod.mk.inj h1).1⟩
theorem row_key (t : DTable) (r : DRow) : (i_Table_rowWrite t r).Key = (t.Name ++ ([47] : Str)) ++ r.Vals.getD 0 d_Str := rfl
theorem l5Rows_len {l : List DWrite} (h : s_l5Rows l = true) : l.length ≤ 24 := by
  rw [l5Rows_eq] at h
  exact (f_l3Writes (isRows_w h)).1
theorem rows24 {l : List DWrite} (h : s_l5Rows l = true) : l.length ≤ 24 := by
  have h1 := isRows_w (l5Rows_eq l ▸ h)
  rw [l3Writes_eq, Bool.and_eq_true] at h1
  have := of_decide_eq_true h1.2; omega
def eR (y : DRow) : DEntry := ⟨y.Vals.getD 1 d_Str, y.Vals.getD 0 d_Str⟩
theorem set_mid {α : Type} (l m : List α) (q r : α) {k : Nat} (hk : k = l.length) : (l ++ q :: m).set k r = l ++ r :: m := by
  subst hk
  rw [List.set_append_right _ _ (Nat.le_refl _), Nat.sub_self]; rfl
def ltE (a b : DEntry) : Bool := if a.val = b.val then sLt a.primary b.primary else sLt a.val b.val
theorem sLt_tot {a b : Str} (h1 : sLt a b = false) (h2 : sLt b a = false) : a = b := by
  have h3 : sLe a b = true := by rw [sLe_not, h2]; rfl
  unfold sLe at h3
  rw [h1, Bool.false_or] at h3
  exact eq_of_beq h3
theorem cS_neg (x y : Str) : decide (cS x y < 0) = sLt x y := by
  unfold cS
  cases sLt x y
  · cases sLe x y <;> rfl
  · rfl
theorem cS_zero (x y : Str) : decide (cS x y = 0) = decide (x = y) := by
  by_cases h : x = y
  · subst h
    rw [decide_eq_true rfl]
    unfold cS
    have h1 : sLt x x = false := by cases h : sLt x x; rfl; exact absurd h (sLt_irrefl x)
    have h2 : sLe x x = true := by unfold sLe; rw [beq_self_eq_true, Bool.or_true]
    rw [h1, h2]; rfl
  · rw [decide_eq_false h]
    unfold cS
    cases h1 : sLt x y
    · cases h2 : sLe x y
      · rfl
      · unfold sLe at h2
        rw [h1, Bool.false_or] at h2
        exact absurd (eq_of_beq h2) h
    · rfl
theorem cE_neg (x y : DEntry) : decide (cE x y < 0) = ltE x y := by
  unfold cE ltE
  rw [cS_zero]
  by_cases h : x.val = y.val
  · rw [decide_eq_true h, cond_true, if_pos h, cS_neg]
  · rw [decide_eq_false h, cond_false, if_neg h, cS_neg]
theorem sLt_irr (a : Str) : sLt a a = false := by cases h : sLt a a; rfl; exact absurd h (sLt_irrefl a)
theorem ltE_irr (a : DEntry) : ltE a a = false := by unfold ltE; rw [if_pos rfl]; exact sLt_irr _
theorem ltE_tr {a b c : DEntry} (h1 : ltE a b = true) (h2 : ltE b c = true) : ltE a c = true := by
  unfold ltE at *
  by_cases e1 : a.val = b.val
  · by_cases e2 : b.val = c.val
    · rw [if_pos e1] at h1; rw [if_pos e2] at h2; rw [if_pos (e1.trans e2)]; exact sLt_trans h1 h2
    · rw [if_neg e2] at h2; rw [if_neg (fun e => e2 (e1.symm.trans e)), e1]; exact h2
  · by_cases e2 : b.val = c.val
    · rw [if_neg e1] at h1; rw [if_neg (fun e => e1 (e.trans e2.symm)), ← e2]; exact h1
    · rw [if_neg e1] at h1; rw [if_neg e2] at h2
      have h3 := sLt_trans h1 h2
      rw [if_neg (fun e => by rw [e] at h3; exact sLt_irrefl _ h3)]; exact h3
theorem ltE_tot {a b : DEntry} (h1 : ltE a b = false) (h2 : ltE b a = false) : a = b := by
  unfold ltE at *
  have hv : a.val = b.val := by
    by_cases e : a.val = b.val
    · exact e
    · rw [if_neg e] at h1; rw [if_neg (Ne.symm e)] at h2; exact sLt_tot h1 h2
  rw [if_pos hv] at h1
  rw [if_pos hv.symm] at h2
  have hp := sLt_tot h1 h2
  cases a; cases b
  simp only at hv hp
  subst hv; subst hp; rfl
theorem ltE_asym {a b : DEntry} (h : ltE a b = true) : ltE b a = false := by
  cases h2 : ltE b a
  · rfl
  · have := ltE_tr h h2; rw [ltE_irr] at this; cases this
theorem ltE_ntr {a b c : DEntry} (h1 : ltE a b = false) (h2 : ltE b c = false) : ltE a c = false := by
  cases h3 : ltE a c
  · rfl
  · cases h4 : ltE b a
    · have := ltE_tot h1 h4; subst this; rw [h3] at h2; cases h2
    · have := ltE_tr h4 h3; rw [h2] at this; cases this
def Srt (l : List DEntry) : Prop := l.Pairwise fun a b => ltE b a = false
theorem srt_insert {l : List DEntry} {r : DEntry} {i : Nat} (h : Srt l) (hi : i ≤ l.length) (hd : ∀ y ∈ l.drop i, ltE r y = true) (hg : 0 < i → ∀ y, l[i - 1]? = some y → ltE r y = false) : Srt (l.take i ++ r :: l.drop i) := by
  have h0 := h
  unfold Srt at h ⊢
  rw [← List.take_append_drop i l, List.pairwise_append] at h
  obtain ⟨h1, h2, h3⟩ := h
  rw [List.pairwise_append, List.pairwise_cons]
  refine ⟨h1, ⟨fun y hy => ltE_asym (hd y hy), h2⟩, fun a ha b hb => ?_⟩
  rcases List.mem_cons.1 hb with rfl | hb
  · obtain ⟨j, hj, rfl⟩ := List.mem_iff_getElem.1 ha
    rw [List.length_take] at hj
    rw [List.getElem_take]
    have hl : i - 1 < l.length := by omega
    have hlast := hg (by omega) l[i - 1] (List.getElem?_eq_getElem hl)
    rcases Nat.lt_or_ge j (i - 1) with hlt | hge
    · exact ltE_ntr hlast (List.pairwise_iff_getElem.1 h0 j (i - 1) (by omega) hl hlt)
    · obtain rfl : j = i - 1 := by omega
      exact hlast
  · exact h3 a ha b hb
theorem rows_apart {t : DTable} {l : List DWrite} (hg : s_GoodTable t = true) (hr : i_isRows l = true) : (s_l25Rows t l).Pairwise fun a b => a.Vals.getD 0 d_Str ≠ b.Vals.getD 0 d_Str := by
  have hg' : i_GoodTable t = true := by rw [GoodTable_eq]; exact hg
  rw [← rowsIn_eq hg, rowsIn_map, List.pairwise_map, List.pairwise_filter]
  refine (keys_apart hr).imp fun {a b} hab ha hb e => hab ?_
  obtain ⟨a1, a2⟩ := read_wrote hg' ha
  obtain ⟨b1, b2⟩ := read_wrote hg' hb
  rw [← a2, ← b2, row_key, row_key, e]
theorem bs_mid {i j : Int} (h0 : 0 ≤ i) (h1 : i < j) (h2 : j ≤ 2147483648) : IntKind.wrap .i64 (Int.fdiv (IntKind.wrap .u64 (IntKind.wrap .i64 (i + j))) 2) = (i + j) / 2 := by
  rw [show IntKind.wrap .i64 (i + j) = i + j from wrap_in (by omega), show IntKind.wrap .u64 (i + j) = i + j by simp [IntKind.wrap, IntKind.bits, IntKind.signed]; omega, Int.fdiv_eq_ediv_of_nonneg _ (by omega)]
  exact wrap_in (by omega)
theorem isRows_len {l : List DWrite} (h : i_isRows l = true) : l.length ≤ 24 := (f_l3Writes (isRows_w h)).1
theorem cmp_cS (x y : Str) : g_cmp_Compare_string x y = cS x y := by
  unfold g_cmp_Compare_string g_cmp_isNaN_string cS
  rw [beq_self_eq_true, beq_self_eq_true]; rfl
def wdN (n : Nat) (l : List DRow) : Prop := ∀ y ∈ l, y.Vals.length = n
theorem wdN.nil {n : Nat} : wdN n [] := fun _ h => by cases h
theorem wdN.app {n : Nat} {l : List DRow} {r : DRow} (h : wdN n l) (hr : r.Vals.length = n) : wdN n (l ++ [r]) := fun y hy => by
  rcases List.mem_append.1 hy with hy | hy
  · exact h y hy
  · rw [List.mem_singleton.1 hy]; exact hr
theorem wdN.set {n : Nat} {l : List DRow} {r : DRow} (h : wdN n l) (hr : r.Vals.length = n) (i : Nat) : wdN n (l.set i r) := fun y hy => by
  rcases List.mem_or_eq_of_mem_set hy with hy | hy
  · exact h y hy
  · rw [hy]; exact hr
theorem wdN.at {n : Nat} {l : List DRow} (h : wdN n l) {i : Nat} (hi : i < l.length) : (l.getD i d_Row).Vals.length = n := h _ (by rw [getD_eq hi]; exact List.getElem_mem hi)
theorem less_preN {n : Nat} {l : List DRow} {a : DRow} {i : Nat} {c : Int} (ha : a.Vals.length = n) (h : wdN n l) (hc : 1 ≤ c ∧ c < (n : Int)) (hi : i < l.length) : 0 ≤ c ∧ c < (a.Vals.length : Int) ∧ c < ((l.getD i d_Row).Vals.length : Int) := by
  have := h.at hi
  omega
theorem loopW_end {ρ σ : Type} {body : σ → Out ρ σ} (I : σ → Prop) (μ : σ → Nat) (Q : σ → Prop) (hb : ∀ s, I s → (∃ s', body s = .cont s' ∧ I s' ∧ μ s' < μ s) ∨ (∃ s', body s = .brk s' ∧ Q s')) : ∀ (n : Nat) (s : σ), I s → μ s < n → ∃ s', loopW body n s = .done s' ∧ Q s'
  | 0, s, _, h => by omega
  | n + 1, s, hi, hn => by
    rcases hb s hi with ⟨s', e, h1, h2⟩ | ⟨s', e, h⟩
    · obtain ⟨s2, e2, h3⟩ := loopW_end I μ Q hb n s' h1 (by omega)
      exact ⟨s2, by simp only [loopW, e]; exact e2, h3⟩
    · exact ⟨s', by simp only [loopW, e], h⟩
def el (l : List Nat) (k : Nat) : Nat := l.getD k d_Opq
theorem el_set {l : List Nat} {i : Nat} (v : Nat) (hi : i < l.length) (k : Nat) : el (l.set i v) k = if k = i then v else el l k := by
  unfold el
  simp only [List.getD_eq_getElem?_getD, List.getElem?_set]
  by_cases e : i = k
  · subst e; simp [hi]
  · rw [if_neg e, if_neg fun h => e h.symm]
def swp (l : List Nat) (i j : Nat) : List Nat := (l.set i (el l j)).set j (el l i)
theorem swp_len (l : List Nat) (i j : Nat) : (swp l i j).length = l.length := by simp [swp]
theorem el_swp {l : List Nat} {i j : Nat} (hi : i < l.length) (hj : j < l.length) (k : Nat) : el (swp l i j) k = if k = j then el l i else if k = i then el l j else el l k := by
  unfold swp
  rw [el_set _ (by rw [List.length_set]; exact hj), el_set _ hi]
theorem swp_perm {l : List Nat} {i j : Nat} (hi : i < l.length) (hj : j < l.length) : (swp l i j).Perm l := by
  have h := List.set_set_perm (as := l) hi hj
  unfold swp el
  rw [getD_eq hi, getD_eq hj]
  exact h
structure KS (l l' : List Nat) (a b : Nat) : Prop where
  len : l'.length = l.length
  perm : l'.Perm l
  out : ∀ k, k < a ∨ b ≤ k → el l' k = el l k
  frm : ∀ k, a ≤ k → k < b → ∃ j, a ≤ j ∧ j < b ∧ el l' k = el l j
theorem KS.refl (l : List Nat) (a b : Nat) : KS l l a b := ⟨rfl, .refl _, fun _ _ => rfl, fun k h1 h2 => ⟨k, h1, h2, rfl⟩⟩
theorem KS.trans {l l' l2 : List Nat} {a b : Nat} (h : KS l l' a b) (k : KS l' l2 a b) : KS l l2 a b := ⟨k.len.trans h.len, k.perm.trans h.perm, fun q hq => (k.out q hq).trans (h.out q hq), fun q h1 h2 => by
  obtain ⟨j, j1, j2, e⟩ := k.frm q h1 h2
  obtain ⟨r, r1, r2, e2⟩ := h.frm j j1 j2
  exact ⟨r, r1, r2, e.trans e2⟩⟩
theorem KS.mono {l l' : List Nat} {a b a2 b2 : Nat} (h : KS l l' a b) (h1 : a2 ≤ a) (h2 : b ≤ b2) : KS l l' a2 b2 := ⟨h.len, h.perm, fun k hk => h.out k (by omega), fun k k1 k2 => by
  by_cases hk : a ≤ k ∧ k < b
  · obtain ⟨j, j1, j2, e⟩ := h.frm k hk.1 hk.2
    exact ⟨j, by omega, by omega, e⟩
  · exact ⟨k, k1, k2, h.out k (by omega)⟩⟩
theorem KS.swp {l : List Nat} {a b i j : Nat} (hi : a ≤ i ∧ i < b) (hj : a ≤ j ∧ j < b) (hb : b ≤ l.length) : KS l (swp l i j) a b := ⟨swp_len _ _ _, swp_perm (by omega) (by omega), fun k hk => by
  rw [el_swp (by omega) (by omega), if_neg (by omega), if_neg (by omega)], fun k h1 h2 => by
  rw [el_swp (by omega) (by omega)]
  split
  · exact ⟨i, hi.1, hi.2, rfl⟩
  · split
    · exact ⟨j, hj.1, hj.2, rfl⟩
    · exact ⟨k, h1, h2, rfl⟩⟩
def SR (l l' : List Nat) (a b n : Nat) : Prop := l'.length = l.length ∧ l'.Perm l ∧ ∀ k, el l' k = if a ≤ k ∧ k < a + n then el l (k - a + b) else if b ≤ k ∧ k < b + n then el l (k - b + a) else el l k
theorem swapRange_law {l : List Nat} {a b n : Nat} (cmp : Nat → Nat → Int) (h1 : a + n ≤ b) (h2 : b + n ≤ l.length) (h3 : l.length ≤ 1000) : SR l (g_slices_swapRangeCmpFunc_Row l (a : Int) (b : Int) (n : Int) cmp) a b n := by
  unfold g_slices_swapRangeCmpFunc_Row
  have hb : ∀ s : Int × List Nat, (∃ i : Nat, s.1 = (i : Int) ∧ i ≤ n ∧ SR l s.2 a b i) → (∃ s', B_g_slices_swapRangeCmpFunc_Row_0 l (a : Int) (b : Int) (n : Int) cmp s = .cont s' ∧ (∃ i : Nat, s'.1 = (i : Int) ∧ i ≤ n ∧ SR l s'.2 a b i) ∧ (n - s'.1.toNat) < (n - s.1.toNat)) ∨ (∃ s', B_g_slices_swapRangeCmpFunc_Row_0 l (a : Int) (b : Int) (n : Int) cmp s = .brk s' ∧ SR l s'.2 a b n) := by
    rintro ⟨x, cur⟩ ⟨i, hx, hi, hS⟩
    dsimp only at hx hS
    subst hx
    unfold B_g_slices_swapRangeCmpFunc_Row_0
    dsimp only
    by_cases hlt : i < n
    · left
      rw [decide_eq_true (show (i : Int) < (n : Int) by omega), cond_true, wrap_in (show -9223372036854775808 ≤ (i : Int) + 1 ∧ (i : Int) + 1 ≤ 9223372036854775807 by omega), wrap_in (show -9223372036854775808 ≤ (a : Int) + i ∧ (a : Int) + i ≤ 9223372036854775807 by omega), wrap_in (show -9223372036854775808 ≤ (b : Int) + i ∧ (b : Int) + i ≤ 9223372036854775807 by omega), show ((a : Int) + i).toNat = a + i by omega, show ((b : Int) + i).toNat = b + i by omega]
      refine ⟨_, rfl, ⟨i + 1, rfl, by omega, ?_⟩, by dsimp only; omega⟩
      obtain ⟨s1, s2, s3⟩ := hS
      refine ⟨(swp_len _ _ _).trans s1, (swp_perm (l := cur) (i := a + i) (j := b + i) (by omega) (by omega)).trans s2, fun k => ?_⟩
      show el (swp cur (a + i) (b + i)) k = _
      rw [el_swp (by omega) (by omega), s3, s3, s3]
      repeat' split
      all_goals first | rfl | omega | (congr 1; omega)
    · right
      rw [decide_eq_false (show ¬ (i : Int) < (n : Int) by omega), cond_false]
      exact ⟨_, rfl, by rw [show n = i by omega]; exact hS⟩
  obtain ⟨s', e, hQ⟩ := loopW_end _ _ _ hb (((n : Int) - 0).toNat + 1) (0, l) ⟨0, rfl, Nat.zero_le _, rfl, .refl _, fun k => by
    rw [if_neg (by omega), if_neg (by omega)]⟩ (by dsimp only; omega)
  rw [e]
  exact hQ
def Rot (l l' : List Nat) (a m b : Nat) : Prop := l'.length = l.length ∧ l'.Perm l ∧ ∀ k, el l' k = if a ≤ k ∧ k < a + (b - m) then el l (k + (m - a)) else if a + (b - m) ≤ k ∧ k < b then el l (k - (b - m)) else el l k
theorem Rot.step1 {l l' l2 : List Nat} {i j m : Nat} (hij : j < i) (hj : 1 ≤ j) (him : i ≤ m) (h : SR l l' (m - i) m j) (k : Rot l' l2 (m - i + j) m (m + j)) : Rot l l2 (m - i) m (m + j) := by
  obtain ⟨a1, a2, a3⟩ := h
  obtain ⟨b1, b2, b3⟩ := k
  refine ⟨b1.trans a1, b2.trans a2, fun q => ?_⟩
  rw [b3]
  simp only [a3]
  repeat' split
  all_goals first | rfl | omega | (congr 1; omega)
theorem Rot.step2 {l l' l2 : List Nat} {i j m : Nat} (hij : i < j) (hi : 1 ≤ i) (him : i ≤ m) (h : SR l l' (m - i) (m + j - i) i) (k : Rot l' l2 (m - i) m (m + (j - i))) : Rot l l2 (m - i) m (m + j) := by
  obtain ⟨a1, a2, a3⟩ := h
  obtain ⟨b1, b2, b3⟩ := k
  refine ⟨b1.trans a1, b2.trans a2, fun q => ?_⟩
  rw [b3]
  simp only [a3]
  repeat' split
  all_goals first | rfl | omega | (congr 1; omega)
theorem rotate_law {l : List Nat} {a b m : Nat} (cmp : Nat → Nat → Int) (h1 : a < m) (h2 : m < b) (h3 : b ≤ l.length) (h4 : l.length ≤ 1000) : Rot l (g_slices_rotateCmpFunc_Row l (a : Int) (m : Int) (b : Int) cmp) a m b := by
  unfold g_slices_rotateCmpFunc_Row
  have hb : ∀ s : Int × Int × List Nat, (∃ i j : Nat, s.1 = (i : Int) ∧ s.2.1 = (j : Int) ∧ (1 ≤ i ∧ i ≤ m - a) ∧ (1 ≤ j ∧ j ≤ b - m) ∧ s.2.2.length = l.length ∧ ∀ q, Rot s.2.2 q (m - i) m (m + j) → Rot l q a m b) →
      (∃ s', B_g_slices_rotateCmpFunc_Row_0 l (a : Int) (m : Int) (b : Int) cmp s = .cont s' ∧ (∃ i j : Nat, s'.1 = (i : Int) ∧ s'.2.1 = (j : Int) ∧ (1 ≤ i ∧ i ≤ m - a) ∧ (1 ≤ j ∧ j ≤ b - m) ∧ s'.2.2.length = l.length ∧ ∀ q, Rot s'.2.2 q (m - i) m (m + j) → Rot l q a m b) ∧ (s'.1.toNat + s'.2.1.toNat) < (s.1.toNat + s.2.1.toNat)) ∨
      (∃ s', B_g_slices_rotateCmpFunc_Row_0 l (a : Int) (m : Int) (b : Int) cmp s = .brk s' ∧ ∃ i : Nat, s'.1 = (i : Int) ∧ (1 ≤ i ∧ i ≤ m - a ∧ i ≤ b - m) ∧ s'.2.2.length = l.length ∧ ∀ q, Rot s'.2.2 q (m - i) m (m + i) → Rot l q a m b) := by
    rintro ⟨x, y, cur⟩ ⟨i, j, hx, hy, hi, hj, hl, hq⟩
    dsimp only at hx hy hl hq
    subst hx hy
    unfold B_g_slices_rotateCmpFunc_Row_0
    dsimp only
    by_cases hij : i = j
    · right
      rw [decide_eq_true (show (i : Int) = (j : Int) by omega), cond_true]
      subst hij
      exact ⟨_, rfl, i, rfl, ⟨hi.1, hi.2, hj.2⟩, hl, hq⟩
    · left
      rw [decide_eq_false (show ¬ (i : Int) = (j : Int) by omega), cond_false]
      by_cases hlt : j < i
      · rw [decide_eq_true (show (j : Int) < (i : Int) by omega), cond_true, show IntKind.wrap .i64 ((i : Int) - j) = ((i - j : Nat) : Int) by rw [wrap_in (by omega)]; omega, show IntKind.wrap .i64 ((m : Int) - i) = ((m - i : Nat) : Int) by rw [wrap_in (by omega)]; omega]
        have hS := swapRange_law (l := cur) (a := m - i) (b := m) (n := j) cmp (by omega) (by omega) (by omega)
        refine ⟨_, rfl, ⟨i - j, j, rfl, rfl, by omega, by omega, hS.1.trans hl, fun q hr => hq q (Rot.step1 hlt (by omega) (by omega) hS ?_)⟩, by dsimp only; omega⟩
        rw [show m - i + j = m - (i - j) by omega]; exact hr
      · rw [decide_eq_false (show ¬ (j : Int) < (i : Int) by omega), cond_false, show IntKind.wrap .i64 ((j : Int) - i) = ((j - i : Nat) : Int) by rw [wrap_in (by omega)]; omega, show IntKind.wrap .i64 ((m : Int) - i) = ((m - i : Nat) : Int) by rw [wrap_in (by omega)]; omega, show IntKind.wrap .i64 (IntKind.wrap .i64 ((m : Int) + j) - i) = ((m + j - i : Nat) : Int) by rw [wrap_in (n := (m : Int) + j) (by omega), wrap_in (by omega)]; omega]
        have hS := swapRange_law (l := cur) (a := m - i) (b := m + j - i) (n := i) cmp (by omega) (by omega) (by omega)
        exact ⟨_, rfl, ⟨i, j - i, rfl, rfl, by omega, by omega, hS.1.trans hl, fun q hr => hq q (Rot.step2 (by omega) (by omega) (by omega) hS hr)⟩, by dsimp only; omega⟩
  have e1 : IntKind.wrap .i64 ((m : Int) - a) = ((m - a : Nat) : Int) := by rw [wrap_in (by omega)]; omega
  have e2 : IntKind.wrap .i64 ((b : Int) - m) = ((b - m : Nat) : Int) := by rw [wrap_in (by omega)]; omega
  rw [e1, e2]
  obtain ⟨⟨x, y, cur⟩, e, i, hx, hi, hl, hq⟩ := loopW_end _ _ _ hb ((((m - a : Nat) : Int) + ((b - m : Nat) : Int)).toNat + 1) (((m - a : Nat) : Int), ((b - m : Nat) : Int), l) ⟨m - a, b - m, rfl, rfl, by omega, by omega, rfl, fun q hr => by
    rw [show m - (m - a) = a by omega, show m + (b - m) = b by omega] at hr; exact hr⟩ (by dsimp only; omega)
  rw [e]
  show Rot l (g_slices_swapRangeCmpFunc_Row cur (IntKind.wrap .i64 ((m : Int) - x)) (m : Int) x cmp) a m b
  dsimp only at hx hl hq
  subst hx
  rw [show IntKind.wrap .i64 ((m : Int) - i) = ((m - i : Nat) : Int) by rw [wrap_in (by omega)]; omega]
  obtain ⟨s1, s2, s3⟩ := swapRange_law (l := cur) (a := m - i) (b := m) (n := i) cmp (by omega) (by omega) (by omega)
  refine hq _ ⟨s1, s2, fun k => ?_⟩
  rw [s3]
  repeat' split
  all_goals first | rfl | omega | (congr 1; omega)

structure OrdC (cmp : Nat → Nat → Int) : Prop where
  tr : ∀ x y z, ¬ cmp y x < 0 → ¬ cmp z y < 0 → ¬ cmp z x < 0
  asy : ∀ x y, cmp x y < 0 → ¬ cmp y x < 0
def SegS (cmp : Nat → Nat → Int) (l : List Nat) (a b : Nat) : Prop := ∀ i j, a ≤ i → i < j → j < b → ¬ cmp (el l j) (el l i) < 0
theorem SegS.mono {l : List Nat} {a b a2 b2 : Nat} {cmp : Nat → Nat → Int} (h : SegS cmp l a b) (h1 : a ≤ a2) (h2 : b2 ≤ b) : SegS cmp l a2 b2 := fun i j x y z => h i j (by omega) y (by omega)
theorem SegS.one {l : List Nat} {a b : Nat} {cmp : Nat → Nat → Int} (h : b ≤ a + 1) : SegS cmp l a b := fun i j x y z => by omega
theorem OrdC.rfl' {cmp : Nat → Nat → Int} (hc : OrdC cmp) (x : Nat) : ¬ cmp x x < 0 := fun h => hc.asy x x h h
theorem SegS.le {l : List Nat} {a b i j : Nat} {cmp : Nat → Nat → Int} (hc : OrdC cmp) (h : SegS cmp l a b) (h1 : a ≤ i) (h2 : i ≤ j) (h3 : j < b) : ¬ cmp (el l j) (el l i) < 0 := by
  rcases Nat.lt_or_eq_of_le h2 with h2 | h2
  · exact h i j h1 h2 h3
  · subst h2; exact hc.rfl' _
theorem insInner {l : List Nat} {a i : Nat} {cmp : Nat → Nat → Int} (hc : OrdC cmp) (data : List Nat) (pb x44 : Int) (x45 : List Nat) (h1 : a ≤ i) (h2 : i < l.length) (h3 : l.length ≤ 1000) (hs : SegS cmp l a i) : ∃ x c, loopW (B_g_slices_insertionSortCmpFunc_Row_1 data (a : Int) pb cmp x44 x45) ((((i : Int) - (a : Int)).toNat) + 1) ((i : Int), l) = .done (x, c) ∧ KS l c a (i + 1) ∧ SegS cmp c a (i + 1) := by
  have hb : ∀ s : Int × List Nat, (∃ j : Nat, s.1 = (j : Int) ∧ (a ≤ j ∧ j ≤ i) ∧ KS l s.2 a (i + 1) ∧ ∀ p q, a ≤ p → p < q → q ≤ i → q ≠ j → ¬ cmp (el s.2 q) (el s.2 p) < 0) →
      (∃ s', B_g_slices_insertionSortCmpFunc_Row_1 data (a : Int) pb cmp x44 x45 s = .cont s' ∧ (∃ j : Nat, s'.1 = (j : Int) ∧ (a ≤ j ∧ j ≤ i) ∧ KS l s'.2 a (i + 1) ∧ ∀ p q, a ≤ p → p < q → q ≤ i → q ≠ j → ¬ cmp (el s'.2 q) (el s'.2 p) < 0) ∧ s'.1.toNat < s.1.toNat + (i - i)) ∨
      (∃ s', B_g_slices_insertionSortCmpFunc_Row_1 data (a : Int) pb cmp x44 x45 s = .brk s' ∧ KS l s'.2 a (i + 1) ∧ SegS cmp s'.2 a (i + 1)) := by
    rintro ⟨x, c⟩ ⟨j, hx, hj, hK, hS⟩
    dsimp only at hx hK hS
    subst hx
    unfold B_g_slices_insertionSortCmpFunc_Row_1
    dsimp only
    have hcl := hK.len
    by_cases hlt : a < j
    · rw [decide_eq_true (show (a : Int) < (j : Int) by omega), cond_true, wrap_in (show -9223372036854775808 ≤ (j : Int) - 1 ∧ (j : Int) - 1 ≤ 9223372036854775807 by omega), show ((j : Int) - 1).toNat = j - 1 by omega, show ((j : Int)).toNat = j by omega]
      by_cases hcm : cmp (el c j) (el c (j - 1)) < 0
      · left
        rw [decide_eq_true (show cmp (c.getD j d_Opq) (c.getD (j - 1) d_Opq) < 0 from hcm), cond_true]
        refine ⟨_, rfl, ⟨j - 1, by dsimp only; omega, by omega, hK.trans (KS.swp (i := j) (j := j - 1) (by omega) (by omega) (by omega)), fun p q h1 h2 h3 h4 => ?_⟩, by dsimp only; omega⟩
        show ¬ cmp (el (swp c j (j - 1)) q) (el (swp c j (j - 1)) p) < 0
        rw [el_swp (by omega) (by omega), el_swp (by omega) (by omega), if_neg h4]
        by_cases hqj : q = j
        · rw [if_pos hqj]
          by_cases hp : p = j - 1
          · rw [if_pos hp]; exact hc.asy _ _ hcm
          · rw [if_neg hp, if_neg (by omega)]
            exact hS p (j - 1) h1 (by omega) (by omega) (by omega)
        · rw [if_neg hqj]
          by_cases hp : p = j - 1
          · rw [if_pos hp]; exact hS j q (by omega) (by omega) h3 hqj
          · rw [if_neg hp]
            by_cases hp2 : p = j
            · rw [if_pos hp2]; exact hS (j - 1) q (by omega) (by omega) h3 hqj
            · rw [if_neg hp2]; exact hS p q h1 h2 h3 hqj
      · right
        rw [decide_eq_false (show ¬ cmp (c.getD j d_Opq) (c.getD (j - 1) d_Opq) < 0 from hcm), cond_false]
        refine ⟨_, rfl, hK, fun p q h1 h2 h3 => ?_⟩
        by_cases hqj : q = j
        · subst hqj
          by_cases hp : p = q - 1
          · subst hp; exact hcm
          · exact hc.tr _ _ _ (hS p (q - 1) h1 (by omega) (by omega) (by omega)) hcm
        · exact hS p q h1 h2 (by omega) hqj
    · right
      rw [decide_eq_false (show ¬ (a : Int) < (j : Int) by omega), cond_false]
      exact ⟨_, rfl, hK, fun p q h1 h2 h3 => hS p q h1 h2 (by omega) (by omega)⟩
  have hb' : ∀ s : Int × List Nat, (∃ j : Nat, s.1 = (j : Int) ∧ (a ≤ j ∧ j ≤ i) ∧ KS l s.2 a (i + 1) ∧ ∀ p q, a ≤ p → p < q → q ≤ i → q ≠ j → ¬ cmp (el s.2 q) (el s.2 p) < 0) →
      (∃ s', B_g_slices_insertionSortCmpFunc_Row_1 data (a : Int) pb cmp x44 x45 s = .cont s' ∧ (∃ j : Nat, s'.1 = (j : Int) ∧ (a ≤ j ∧ j ≤ i) ∧ KS l s'.2 a (i + 1) ∧ ∀ p q, a ≤ p → p < q → q ≤ i → q ≠ j → ¬ cmp (el s'.2 q) (el s'.2 p) < 0) ∧ s'.1.toNat - a < s.1.toNat - a) ∨
      (∃ s', B_g_slices_insertionSortCmpFunc_Row_1 data (a : Int) pb cmp x44 x45 s = .brk s' ∧ KS l s'.2 a (i + 1) ∧ SegS cmp s'.2 a (i + 1)) := fun s hs => (hb s hs).imp (fun ⟨s', e, hi, hm⟩ => ⟨s', e, hi, by
        obtain ⟨j', e', hj', _⟩ := hi
        rw [e'] at hm ⊢
        omega⟩) id
  obtain ⟨⟨x, c⟩, e, h⟩ := loopW_end _ _ _ hb' ((((i : Int) - (a : Int)).toNat) + 1) ((i : Int), l) ⟨i, rfl, ⟨h1, Nat.le_refl _⟩, .refl _ _ _, fun p q h1 h2 h3 h4 => hs p q h1 h2 (by omega)⟩ (by dsimp only; omega)
  exact ⟨x, c, e, h⟩
theorem insertion_law {l : List Nat} {a b : Nat} {cmp : Nat → Nat → Int} (hc : OrdC cmp) (h1 : a ≤ b) (h2 : b ≤ l.length) (h3 : l.length ≤ 1000) : KS l (g_slices_insertionSortCmpFunc_Row l (a : Int) (b : Int) cmp) a b ∧ SegS cmp (g_slices_insertionSortCmpFunc_Row l (a : Int) (b : Int) cmp) a b := by
  unfold g_slices_insertionSortCmpFunc_Row
  have hb : ∀ s : Int × List Nat, (∃ i : Nat, s.1 = (i : Int) ∧ (a + 1 ≤ i ∧ (i ≤ b ∨ i = a + 1)) ∧ KS l s.2 a b ∧ SegS cmp s.2 a i) →
      (∃ s', B_g_slices_insertionSortCmpFunc_Row_0 l (a : Int) (b : Int) cmp s = .cont s' ∧ (∃ i : Nat, s'.1 = (i : Int) ∧ (a + 1 ≤ i ∧ (i ≤ b ∨ i = a + 1)) ∧ KS l s'.2 a b ∧ SegS cmp s'.2 a i) ∧ b - s'.1.toNat < b - s.1.toNat) ∨
      (∃ s', B_g_slices_insertionSortCmpFunc_Row_0 l (a : Int) (b : Int) cmp s = .brk s' ∧ KS l s'.2 a b ∧ SegS cmp s'.2 a b) := by
    rintro ⟨x, c⟩ ⟨i, hx, hi, hK, hS⟩
    dsimp only at hx hK hS
    subst hx
    unfold B_g_slices_insertionSortCmpFunc_Row_0
    dsimp only
    have hcl := hK.len
    by_cases hlt : i < b
    · left
      rw [decide_eq_true (show (i : Int) < (b : Int) by omega), cond_true]
      obtain ⟨y, c', e, hK', hS'⟩ := insInner (a := a) (i := i) (l := c) hc l (b : Int) (i : Int) c (by omega) (by omega) (by omega) hS
      rw [e, loopE_done, wrap_in (show -9223372036854775808 ≤ (i : Int) + 1 ∧ (i : Int) + 1 ≤ 9223372036854775807 by omega)]
      exact ⟨_, rfl, ⟨i + 1, rfl, by omega, hK.trans (hK'.mono (Nat.le_refl _) (by omega)), hS'⟩, by dsimp only; omega⟩
    · right
      rw [decide_eq_false (show ¬ (i : Int) < (b : Int) by omega), cond_false]
      exact ⟨_, rfl, hK, hS.mono (Nat.le_refl _) (by omega)⟩
  rw [wrap_in (show -9223372036854775808 ≤ (a : Int) + 1 ∧ (a : Int) + 1 ≤ 9223372036854775807 by omega)]
  obtain ⟨⟨x, c⟩, e, h⟩ := loopW_end _ _ _ hb (((b : Int) - ((a : Int) + 1)).toNat + 1) ((a : Int) + 1, l) ⟨a + 1, by dsimp only; omega, ⟨by omega, .inr rfl⟩, .refl _ _ _, .one (Nat.le_refl _)⟩ (by dsimp only; omega)
  rw [e]
  exact h

theorem Rot.ks {l l' : List Nat} {m s e : Nat} (h : Rot l l' s m e) (h1 : s ≤ m) (h2 : m ≤ e) : KS l l' s e := ⟨h.1, h.2.1, fun k hk => by
  rw [h.2.2, if_neg (by omega), if_neg (by omega)], fun k k1 k2 => by
  rw [h.2.2]
  by_cases hk : s ≤ k ∧ k < s + (e - m)
  · rw [if_pos hk]; exact ⟨_, by omega, by omega, rfl⟩
  · rw [if_neg hk, if_pos (by omega)]; exact ⟨_, by omega, by omega, rfl⟩⟩
theorem Rot.idl (l : List Nat) (m e : Nat) : Rot l l m m e := ⟨rfl, .refl _, fun k => by
  repeat' split
  all_goals first | rfl | omega | (congr 1; omega)⟩
theorem Rot.idr (l : List Nat) (s m : Nat) (h : s ≤ m) : Rot l l s m m := ⟨rfl, .refl _, fun k => by
  repeat' split
  all_goals first | rfl | omega | (congr 1; omega)⟩
theorem Rot.runs {l l1 : List Nat} {a b m s e : Nat} {cmp : Nat → Nat → Int} (hc : OrdC cmp) (h : Rot l l1 s m e) (h1 : a ≤ s) (h2 : s ≤ m) (h3 : m ≤ e) (h4 : e ≤ b) (hA : SegS cmp l a m) (hB : SegS cmp l m b) (c1 : s = a ∨ e = b ∨ ¬ cmp (el l e) (el l (s - 1)) < 0) (c2 : s = m ∨ e = m ∨ ¬ cmp (el l s) (el l (e - 1)) < 0) :
    SegS cmp l1 a s ∧ SegS cmp l1 s (s + (e - m)) ∧ SegS cmp l1 (s + (e - m)) e ∧ SegS cmp l1 e b ∧ ∀ p q, a ≤ p → p < s + (e - m) → s + (e - m) ≤ q → q < b → ¬ cmp (el l1 q) (el l1 p) < 0 := by
  obtain ⟨_, _, hE⟩ := h
  have e1 : ∀ k, k < s → el l1 k = el l k := fun k hk => by rw [hE, if_neg (by omega), if_neg (by omega)]
  have e2 : ∀ k, s ≤ k → k < s + (e - m) → el l1 k = el l (k + (m - s)) := fun k k1 k2 => by rw [hE, if_pos ⟨k1, k2⟩]
  have e3 : ∀ k, s + (e - m) ≤ k → k < e → el l1 k = el l (k - (e - m)) := fun k k1 k2 => by rw [hE, if_neg (by omega), if_pos ⟨k1, k2⟩]
  have e4 : ∀ k, e ≤ k → el l1 k = el l k := fun k hk => by rw [hE, if_neg (by omega), if_neg (by omega)]
  refine ⟨fun p q x y z => ?_, fun p q x y z => ?_, fun p q x y z => ?_, fun p q x y z => ?_, fun p q x y z t => ?_⟩
  · rw [e1 p (by omega), e1 q z]; exact hA p q x y (by omega)
  · rw [e2 p x (by omega), e2 q (by omega) z]; exact hB _ _ (by omega) (by omega) (by omega)
  · rw [e3 p x (by omega), e3 q (by omega) z]; exact hA _ _ (by omega) (by omega) (by omega)
  · rw [e4 p x, e4 q (by omega)]; exact hB p q (by omega) y z
  · by_cases hp : p < s
    · rw [e1 p hp]
      by_cases hq : q < e
      · rw [e3 q z hq]; exact hA.le hc x (by omega) (by omega)
      · rw [e4 q (by omega)]
        rcases c1 with c1 | c1 | c1
        · omega
        · omega
        · exact hc.tr _ _ _ (hc.tr _ _ _ (hA.le hc (i := p) (j := s - 1) x (by omega) (by omega)) c1) (hB.le hc (i := e) (j := q) h3 (by omega) t)
    · rw [e2 p (by omega) y]
      by_cases hq : q < e
      · rw [e3 q z hq]
        rcases c2 with c2 | c2 | c2
        · omega
        · omega
        · exact hc.tr _ _ _ (hc.tr _ _ _ (hB.le hc (i := p + (m - s)) (j := e - 1) (by omega) (by omega) (by omega)) c2) (hA.le hc (i := s) (j := q - (e - m)) (by omega) (by omega) (by omega))
      · rw [e4 q (by omega)]; exact hB.le hc (by omega) (by omega) t
theorem halves {l1 l2 l3 : List Nat} {a b m : Nat} {cmp : Nat → Nat → Int} (h1 : KS l1 l2 a m) (h2 : SegS cmp l2 a m) (h3 : KS l2 l3 m b) (h4 : SegS cmp l3 m b) (hx : ∀ p q, a ≤ p → p < m → m ≤ q → q < b → ¬ cmp (el l1 q) (el l1 p) < 0) : SegS cmp l3 a b := fun p q x y z => by
  by_cases hp : p < m
  · rw [h3.out p (.inl hp)]
    by_cases hq : q < m
    · rw [h3.out q (.inl hq)]; exact h2 p q x y hq
    · obtain ⟨q', q1, q2, eq⟩ := h3.frm q (by omega) z
      obtain ⟨p', p1, p2, ep⟩ := h1.frm p x hp
      rw [eq, ep, h1.out q' (.inr q1)]
      exact hx p' q' p1 p2 q1 q2
  · exact h4 p q (by omega) y z
theorem one_left {l l' : List Nat} {a b s : Nat} {cmp : Nat → Nat → Int} (hc : OrdC cmp) (h : Rot l l' a (a + 1) s) (h1 : a + 1 ≤ s) (h2 : s ≤ b) (hB : SegS cmp l (a + 1) b) (c1 : s = a + 1 ∨ cmp (el l (s - 1)) (el l a) < 0) (c2 : s = b ∨ ¬ cmp (el l s) (el l a) < 0) : SegS cmp l' a b := by
  obtain ⟨_, _, hE⟩ := h
  have e1 : ∀ k, a ≤ k → k < s - 1 → el l' k = el l (k + 1) := fun k k1 k2 => by rw [hE, if_pos (by omega)]; congr 1; omega
  have e2 : el l' (s - 1) = el l a := by rw [hE, if_neg (by omega), if_pos (by omega)]; congr 1; omega
  have e3 : ∀ k, s ≤ k → el l' k = el l k := fun k k1 => by rw [hE, if_neg (by omega), if_neg (by omega)]
  intro p q x y z
  by_cases hq : s ≤ q
  · rw [e3 q hq]
    by_cases hp : s ≤ p
    · rw [e3 p hp]; exact hB p q (by omega) y z
    · by_cases hp' : p = s - 1
      · rw [hp', e2]
        rcases c2 with c2 | c2
        · omega
        · exact hc.tr _ _ _ c2 (hB.le hc h1 hq z)
      · rw [e1 p x (by omega)]; exact hB.le hc (by omega) (by omega) z
  · by_cases hq' : q = s - 1
    · rw [hq', e2, e1 p x (by omega)]
      rcases c1 with c1 | c1
      · omega
      · exact hc.tr _ _ _ (hB.le hc (i := p + 1) (j := s - 1) (by omega) (by omega) (by omega)) (hc.asy _ _ c1)
    · rw [e1 p x (by omega), e1 q (by omega) (by omega)]; exact hB _ _ (by omega) (by omega) (by omega)
theorem one_right {l l' : List Nat} {a m s : Nat} {cmp : Nat → Nat → Int} (hc : OrdC cmp) (h : Rot l l' s m (m + 1)) (h1 : a ≤ s) (h2 : s ≤ m) (hA : SegS cmp l a m) (c1 : s = a ∨ ¬ cmp (el l m) (el l (s - 1)) < 0) (c2 : s = m ∨ cmp (el l m) (el l s) < 0) : SegS cmp l' a (m + 1) := by
  obtain ⟨_, _, hE⟩ := h
  have e1 : ∀ k, k < s → el l' k = el l k := fun k k1 => by rw [hE, if_neg (by omega), if_neg (by omega)]
  have e2 : el l' s = el l m := by rw [hE, if_pos (by omega)]; congr 1; omega
  have e3 : ∀ k, s < k → k ≤ m → el l' k = el l (k - 1) := fun k k1 k2 => by rw [hE, if_neg (by omega), if_pos (by omega)]; congr 1; omega
  intro p q x y z
  by_cases hq : q < s
  · rw [e1 q hq, e1 p (by omega)]; exact hA p q x y (by omega)
  · by_cases hq' : q = s
    · rw [hq', e2, e1 p (by omega)]
      rcases c1 with c1 | c1
      · omega
      · exact hc.tr _ _ _ (hA.le hc (i := p) (j := s - 1) x (by omega) (by omega)) c1
    · rw [e3 q (by omega) (by omega)]
      by_cases hp : p < s
      · rw [e1 p hp]; exact hA.le hc x (by omega) (by omega)
      · by_cases hp' : p = s
        · rw [hp', e2]
          rcases c2 with c2 | c2
          · omega
          · exact hc.tr _ _ _ (hc.asy _ _ c2) (hA.le hc (i := s) (j := q - 1) h1 (by omega) (by omega))
        · rw [e3 p (by omega) (by omega)]; exact hA.le hc (by omega) (by omega) (by omega)
theorem mid_nat {i j : Nat} (h : i < j) (hj : j ≤ 1000) : IntKind.wrap .i64 (Int.fdiv (IntKind.wrap .u64 (IntKind.wrap .i64 ((i : Int) + (j : Int)))) 2) = (((i + j) / 2 : Nat) : Int) := by
  rw [bs_mid (by omega) (by omega) (by omega)]; omega
theorem search0 {l : List Nat} {a st r : Nat} {cmp : Nat → Nat → Int} (kf : Nat) (p2 p3 : Int) (h : st ≤ r) (hr : r ≤ 1000) : ∃ s x2, loopW (B_g_slices_symMergeCmpFunc_Row_0 kf l (a : Int) p2 p3 cmp) (((r : Int) - (st : Int)).toNat + 1) ((st : Int), (r : Int)) = .done (((s : Nat) : Int), x2) ∧ (st ≤ s ∧ s ≤ r) ∧ (s = st ∨ cmp (el l (s - 1)) (el l a) < 0) ∧ (s = r ∨ ¬ cmp (el l s) (el l a) < 0) := by
  have hb : ∀ q : Int × Int, (∃ i j : Nat, q.1 = (i : Int) ∧ q.2 = (j : Int) ∧ (st ≤ i ∧ i ≤ j ∧ j ≤ r) ∧ (i = st ∨ cmp (el l (i - 1)) (el l a) < 0) ∧ (j = r ∨ ¬ cmp (el l j) (el l a) < 0)) →
      (∃ q', B_g_slices_symMergeCmpFunc_Row_0 kf l (a : Int) p2 p3 cmp q = .cont q' ∧ (∃ i j : Nat, q'.1 = (i : Int) ∧ q'.2 = (j : Int) ∧ (st ≤ i ∧ i ≤ j ∧ j ≤ r) ∧ (i = st ∨ cmp (el l (i - 1)) (el l a) < 0) ∧ (j = r ∨ ¬ cmp (el l j) (el l a) < 0)) ∧ (q'.2 - q'.1).toNat < (q.2 - q.1).toNat) ∨
      (∃ q', B_g_slices_symMergeCmpFunc_Row_0 kf l (a : Int) p2 p3 cmp q = .brk q' ∧ ∃ s : Nat, q'.1 = (s : Int) ∧ (st ≤ s ∧ s ≤ r) ∧ (s = st ∨ cmp (el l (s - 1)) (el l a) < 0) ∧ (s = r ∨ ¬ cmp (el l s) (el l a) < 0)) := by
    rintro ⟨x, y⟩ ⟨i, j, hx, hy, hij, c1, c2⟩
    dsimp only at hx hy
    subst hx hy
    unfold B_g_slices_symMergeCmpFunc_Row_0
    dsimp only
    by_cases hlt : i < j
    · left
      rw [decide_eq_true (show (i : Int) < (j : Int) by omega), cond_true, mid_nat hlt (by omega), show (((i + j) / 2 : Nat) : Int).toNat = (i + j) / 2 by omega, show ((a : Int)).toNat = a by omega]
      by_cases hcm : cmp (el l ((i + j) / 2)) (el l a) < 0
      · rw [decide_eq_true (show cmp (l.getD ((i + j) / 2) d_Opq) (l.getD a d_Opq) < 0 from hcm), cond_true, show IntKind.wrap .i64 ((((i + j) / 2 : Nat) : Int) + 1) = (((i + j) / 2 + 1 : Nat) : Int) by rw [wrap_in (by omega)]; omega]
        exact ⟨_, rfl, ⟨(i + j) / 2 + 1, j, rfl, rfl, by omega, .inr hcm, c2⟩, by dsimp only; omega⟩
      · rw [decide_eq_false (show ¬ cmp (l.getD ((i + j) / 2) d_Opq) (l.getD a d_Opq) < 0 from hcm), cond_false]
        exact ⟨_, rfl, ⟨i, (i + j) / 2, rfl, rfl, by omega, c1, .inr hcm⟩, by dsimp only; omega⟩
    · right
      rw [decide_eq_false (show ¬ (i : Int) < (j : Int) by omega), cond_false]
      obtain rfl : i = j := by omega
      exact ⟨_, rfl, i, rfl, by omega, c1, c2⟩
  obtain ⟨⟨x, y⟩, e, s, hs, h1, h2, h3⟩ := loopW_end _ _ _ hb (((r : Int) - (st : Int)).toNat + 1) ((st : Int), (r : Int)) ⟨st, r, rfl, rfl, by omega, .inl rfl, .inl rfl⟩ (by dsimp only; omega)
  dsimp only at hs
  subst hs
  exact ⟨s, y, e, h1, h2, h3⟩
theorem search2 {l : List Nat} {m st r : Nat} {cmp : Nat → Nat → Int} (kf : Nat) (p1 p3 : Int) (h : st ≤ r) (hr : r ≤ 1000) : ∃ s x2, loopW (B_g_slices_symMergeCmpFunc_Row_2 kf l p1 (m : Int) p3 cmp) (((r : Int) - (st : Int)).toNat + 1) ((st : Int), (r : Int)) = .done (((s : Nat) : Int), x2) ∧ (st ≤ s ∧ s ≤ r) ∧ (s = st ∨ ¬ cmp (el l m) (el l (s - 1)) < 0) ∧ (s = r ∨ cmp (el l m) (el l s) < 0) := by
  have hb : ∀ q : Int × Int, (∃ i j : Nat, q.1 = (i : Int) ∧ q.2 = (j : Int) ∧ (st ≤ i ∧ i ≤ j ∧ j ≤ r) ∧ (i = st ∨ ¬ cmp (el l m) (el l (i - 1)) < 0) ∧ (j = r ∨ cmp (el l m) (el l j) < 0)) →
      (∃ q', B_g_slices_symMergeCmpFunc_Row_2 kf l p1 (m : Int) p3 cmp q = .cont q' ∧ (∃ i j : Nat, q'.1 = (i : Int) ∧ q'.2 = (j : Int) ∧ (st ≤ i ∧ i ≤ j ∧ j ≤ r) ∧ (i = st ∨ ¬ cmp (el l m) (el l (i - 1)) < 0) ∧ (j = r ∨ cmp (el l m) (el l j) < 0)) ∧ (q'.2 - q'.1).toNat < (q.2 - q.1).toNat) ∨
      (∃ q', B_g_slices_symMergeCmpFunc_Row_2 kf l p1 (m : Int) p3 cmp q = .brk q' ∧ ∃ s : Nat, q'.1 = (s : Int) ∧ (st ≤ s ∧ s ≤ r) ∧ (s = st ∨ ¬ cmp (el l m) (el l (s - 1)) < 0) ∧ (s = r ∨ cmp (el l m) (el l s) < 0)) := by
    rintro ⟨x, y⟩ ⟨i, j, hx, hy, hij, c1, c2⟩
    dsimp only at hx hy
    subst hx hy
    unfold B_g_slices_symMergeCmpFunc_Row_2
    dsimp only
    by_cases hlt : i < j
    · left
      rw [decide_eq_true (show (i : Int) < (j : Int) by omega), cond_true, mid_nat hlt (by omega), show (((i + j) / 2 : Nat) : Int).toNat = (i + j) / 2 by omega, show ((m : Int)).toNat = m by omega]
      by_cases hcm : cmp (el l m) (el l ((i + j) / 2)) < 0
      · rw [decide_eq_true (show cmp (l.getD m d_Opq) (l.getD ((i + j) / 2) d_Opq) < 0 from hcm), cond_true]
        exact ⟨_, rfl, ⟨i, (i + j) / 2, rfl, rfl, by omega, c1, .inr hcm⟩, by dsimp only; omega⟩
      · rw [decide_eq_false (show ¬ cmp (l.getD m d_Opq) (l.getD ((i + j) / 2) d_Opq) < 0 from hcm), cond_false, show IntKind.wrap .i64 ((((i + j) / 2 : Nat) : Int) + 1) = (((i + j) / 2 + 1 : Nat) : Int) by rw [wrap_in (by omega)]; omega]
        exact ⟨_, rfl, ⟨(i + j) / 2 + 1, j, rfl, rfl, by omega, .inr hcm, c2⟩, by dsimp only; omega⟩
    · right
      rw [decide_eq_false (show ¬ (i : Int) < (j : Int) by omega), cond_false]
      obtain rfl : i = j := by omega
      exact ⟨_, rfl, i, rfl, by omega, c1, c2⟩
  obtain ⟨⟨x, y⟩, e, s, hs, h1, h2, h3⟩ := loopW_end _ _ _ hb (((r : Int) - (st : Int)).toNat + 1) ((st : Int), (r : Int)) ⟨st, r, rfl, rfl, by omega, .inl rfl, .inl rfl⟩ (by dsimp only; omega)
  dsimp only at hs
  subst hs
  exact ⟨s, y, e, h1, h2, h3⟩
theorem search4 {l : List Nat} {a b m st r : Nat} {cmp : Nat → Nat → Int} (kf : Nat) (hab : a < b) (hbl : b ≤ 1000) (hm : m ≤ 1000) (h : st ≤ r) (hr : r ≤ (a + b) / 2 + m) (hr2 : r ≤ 1000) : ∃ s x2, loopW (B_g_slices_symMergeCmpFunc_Row_4 kf l (a : Int) (m : Int) (b : Int) cmp) (((r : Int) - (st : Int)).toNat + 1) ((st : Int), (r : Int)) = .done (((s : Nat) : Int), x2) ∧ (st ≤ s ∧ s ≤ r) ∧ (s = st ∨ ¬ cmp (el l ((a + b) / 2 + m - s)) (el l (s - 1)) < 0) ∧ (s = r ∨ cmp (el l ((a + b) / 2 + m - 1 - s)) (el l s) < 0) := by
  have hb : ∀ q : Int × Int, (∃ i j : Nat, q.1 = (i : Int) ∧ q.2 = (j : Int) ∧ (st ≤ i ∧ i ≤ j ∧ j ≤ r) ∧ (i = st ∨ ¬ cmp (el l ((a + b) / 2 + m - i)) (el l (i - 1)) < 0) ∧ (j = r ∨ cmp (el l ((a + b) / 2 + m - 1 - j)) (el l j) < 0)) →
      (∃ q', B_g_slices_symMergeCmpFunc_Row_4 kf l (a : Int) (m : Int) (b : Int) cmp q = .cont q' ∧ (∃ i j : Nat, q'.1 = (i : Int) ∧ q'.2 = (j : Int) ∧ (st ≤ i ∧ i ≤ j ∧ j ≤ r) ∧ (i = st ∨ ¬ cmp (el l ((a + b) / 2 + m - i)) (el l (i - 1)) < 0) ∧ (j = r ∨ cmp (el l ((a + b) / 2 + m - 1 - j)) (el l j) < 0)) ∧ (q'.2 - q'.1).toNat < (q.2 - q.1).toNat) ∨
      (∃ q', B_g_slices_symMergeCmpFunc_Row_4 kf l (a : Int) (m : Int) (b : Int) cmp q = .brk q' ∧ ∃ s : Nat, q'.1 = (s : Int) ∧ (st ≤ s ∧ s ≤ r) ∧ (s = st ∨ ¬ cmp (el l ((a + b) / 2 + m - s)) (el l (s - 1)) < 0) ∧ (s = r ∨ cmp (el l ((a + b) / 2 + m - 1 - s)) (el l s) < 0)) := by
    rintro ⟨x, y⟩ ⟨i, j, hx, hy, hij, c1, c2⟩
    dsimp only at hx hy
    subst hx hy
    unfold B_g_slices_symMergeCmpFunc_Row_4
    dsimp only
    by_cases hlt : i < j
    · left
      rw [decide_eq_true (show (i : Int) < (j : Int) by omega), cond_true, mid_nat hlt (by omega), mid_nat hab hbl, show IntKind.wrap .i64 (IntKind.wrap .i64 (IntKind.wrap .i64 ((((a + b) / 2 : Nat) : Int) + (m : Int)) - 1) - (((i + j) / 2 : Nat) : Int)) = (((a + b) / 2 + m - 1 - (i + j) / 2 : Nat) : Int) by rw [wrap_in (n := (((a + b) / 2 : Nat) : Int) + (m : Int)) (by omega), wrap_in (n := (((a + b) / 2 : Nat) : Int) + (m : Int) - 1) (by omega), wrap_in (by omega)]; omega, show (((i + j) / 2 : Nat) : Int).toNat = (i + j) / 2 by omega, show (((a + b) / 2 + m - 1 - (i + j) / 2 : Nat) : Int).toNat = (a + b) / 2 + m - 1 - (i + j) / 2 by omega]
      by_cases hcm : cmp (el l ((a + b) / 2 + m - 1 - (i + j) / 2)) (el l ((i + j) / 2)) < 0
      · rw [decide_eq_true (show cmp (l.getD ((a + b) / 2 + m - 1 - (i + j) / 2) d_Opq) (l.getD ((i + j) / 2) d_Opq) < 0 from hcm), cond_true]
        exact ⟨_, rfl, ⟨i, (i + j) / 2, rfl, rfl, by omega, c1, .inr hcm⟩, by dsimp only; omega⟩
      · rw [decide_eq_false (show ¬ cmp (l.getD ((a + b) / 2 + m - 1 - (i + j) / 2) d_Opq) (l.getD ((i + j) / 2) d_Opq) < 0 from hcm), cond_false, show IntKind.wrap .i64 ((((i + j) / 2 : Nat) : Int) + 1) = (((i + j) / 2 + 1 : Nat) : Int) by rw [wrap_in (by omega)]; omega]
        refine ⟨_, rfl, ⟨(i + j) / 2 + 1, j, rfl, rfl, by omega, .inr ?_, c2⟩, by dsimp only; omega⟩
        rw [show (a + b) / 2 + m - ((i + j) / 2 + 1) = (a + b) / 2 + m - 1 - (i + j) / 2 by omega, Nat.add_sub_cancel]
        exact hcm
    · right
      rw [decide_eq_false (show ¬ (i : Int) < (j : Int) by omega), cond_false]
      obtain rfl : i = j := by omega
      exact ⟨_, rfl, i, rfl, by omega, c1, c2⟩
  obtain ⟨⟨x, y⟩, e, s, hs, h1, h2, h3⟩ := loopW_end _ _ _ hb (((r : Int) - (st : Int)).toNat + 1) ((st : Int), (r : Int)) ⟨st, r, rfl, rfl, by omega, .inl rfl, .inl rfl⟩ (by dsimp only; omega)
  dsimp only at hs
  subst hs
  exact ⟨s, y, e, h1, h2, h3⟩
theorem up1 {l : List Nat} {a s : Nat} {cmp : Nat → Nat → Int} (kf : Nat) (p2 p3 x10 : Int) (h : a + 1 ≤ s) (hs : s ≤ l.length) (hl : l.length ≤ 1000) : ∃ x c, loopW (B_g_slices_symMergeCmpFunc_Row_1 kf l (a : Int) p2 p3 cmp (s : Int) x10) (((s : Int) - (a : Int)).toNat + 1) ((a : Int), l) = .done (x, c) ∧ Rot l c a (a + 1) s := by
  have hb : ∀ q : Int × List Nat, (∃ k : Nat, q.1 = (k : Int) ∧ (a ≤ k ∧ k + 1 ≤ s) ∧ Rot l q.2 a (a + 1) (k + 1)) →
      (∃ q', B_g_slices_symMergeCmpFunc_Row_1 kf l (a : Int) p2 p3 cmp (s : Int) x10 q = .cont q' ∧ (∃ k : Nat, q'.1 = (k : Int) ∧ (a ≤ k ∧ k + 1 ≤ s) ∧ Rot l q'.2 a (a + 1) (k + 1)) ∧ s - q'.1.toNat < s - q.1.toNat) ∨
      (∃ q', B_g_slices_symMergeCmpFunc_Row_1 kf l (a : Int) p2 p3 cmp (s : Int) x10 q = .brk q' ∧ Rot l q'.2 a (a + 1) s) := by
    rintro ⟨x, c⟩ ⟨k, hx, hk, hR⟩
    dsimp only at hx hR
    subst hx
    unfold B_g_slices_symMergeCmpFunc_Row_1
    dsimp only
    have hcl := hR.1
    rw [wrap_in (n := (s : Int) - 1) (by omega)]
    by_cases hlt : k + 1 < s
    · left
      rw [decide_eq_true (show (k : Int) < (s : Int) - 1 by omega), cond_true, show IntKind.wrap .i64 ((k : Int) + 1) = ((k + 1 : Nat) : Int) by rw [wrap_in (by omega)]; omega, show ((k : Int)).toNat = k by omega, show ((k + 1 : Nat) : Int).toNat = k + 1 by omega]
      refine ⟨_, rfl, ⟨k + 1, rfl, by omega, (swp_len _ _ _).trans hR.1, (swp_perm (l := c) (i := k) (j := k + 1) (by omega) (by omega)).trans hR.2.1, fun q => ?_⟩, by dsimp only; omega⟩
      show el (swp c k (k + 1)) q = _
      rw [el_swp (by omega) (by omega), hR.2.2, hR.2.2, hR.2.2]
      repeat' split
      all_goals first | rfl | omega | (congr 1; omega)
    · right
      rw [decide_eq_false (show ¬ (k : Int) < (s : Int) - 1 by omega), cond_false]
      exact ⟨_, rfl, by rw [show s = k + 1 by omega]; exact hR⟩
  obtain ⟨⟨x, c⟩, e, hR⟩ := loopW_end _ _ _ hb (((s : Int) - (a : Int)).toNat + 1) ((a : Int), l) ⟨a, rfl, by omega, Rot.idr _ _ _ (by omega)⟩ (by dsimp only; omega)
  exact ⟨x, c, e, hR⟩
theorem down3 {l : List Nat} {m s : Nat} {cmp : Nat → Nat → Int} (kf : Nat) (p1 p3 x49 : Int) (h : s ≤ m) (hm : m < l.length) (hl : l.length ≤ 1000) : ∃ x c, loopW (B_g_slices_symMergeCmpFunc_Row_3 kf l p1 (m : Int) p3 cmp (s : Int) x49) (((m : Int) - (s : Int)).toNat + 1) ((m : Int), l) = .done (x, c) ∧ Rot l c s m (m + 1) := by
  have hb : ∀ q : Int × List Nat, (∃ k : Nat, q.1 = (k : Int) ∧ (s ≤ k ∧ k ≤ m) ∧ Rot l q.2 k m (m + 1)) →
      (∃ q', B_g_slices_symMergeCmpFunc_Row_3 kf l p1 (m : Int) p3 cmp (s : Int) x49 q = .cont q' ∧ (∃ k : Nat, q'.1 = (k : Int) ∧ (s ≤ k ∧ k ≤ m) ∧ Rot l q'.2 k m (m + 1)) ∧ q'.1.toNat - s < q.1.toNat - s) ∨
      (∃ q', B_g_slices_symMergeCmpFunc_Row_3 kf l p1 (m : Int) p3 cmp (s : Int) x49 q = .brk q' ∧ Rot l q'.2 s m (m + 1)) := by
    rintro ⟨x, c⟩ ⟨k, hx, hk, hR⟩
    dsimp only at hx hR
    subst hx
    unfold B_g_slices_symMergeCmpFunc_Row_3
    dsimp only
    have hcl := hR.1
    by_cases hlt : s < k
    · left
      rw [decide_eq_true (show (s : Int) < (k : Int) by omega), cond_true, show IntKind.wrap .i64 ((k : Int) - 1) = ((k - 1 : Nat) : Int) by rw [wrap_in (by omega)]; omega, show ((k : Int)).toNat = k by omega, show ((k - 1 : Nat) : Int).toNat = k - 1 by omega]
      refine ⟨_, rfl, ⟨k - 1, rfl, by omega, (swp_len _ _ _).trans hR.1, (swp_perm (l := c) (i := k) (j := k - 1) (by omega) (by omega)).trans hR.2.1, fun q => ?_⟩, by dsimp only; omega⟩
      show el (swp c k (k - 1)) q = _
      rw [el_swp (by omega) (by omega), hR.2.2, hR.2.2, hR.2.2]
      repeat' split
      all_goals first | rfl | omega | (congr 1; omega)
    · right
      rw [decide_eq_false (show ¬ (s : Int) < (k : Int) by omega), cond_false]
      exact ⟨_, rfl, by rw [show s = k by omega]; exact hR⟩
  obtain ⟨⟨x, c⟩, e, hR⟩ := loopW_end _ _ _ hb (((m : Int) - (s : Int)).toNat + 1) ((m : Int), l) ⟨m, rfl, by omega, Rot.idl _ _ _⟩ (by dsimp only; omega)
  exact ⟨x, c, e, hR⟩

def symT (kf : Nat) (l : List Nat) (a m b s : Nat) (cmp : Nat → Nat → Int) : List Nat :=
  let l1 := bif decide ((s : Int) < (m : Int)) then (bif decide ((m : Int) < (((a + b) / 2 + m - s : Nat) : Int)) then g_slices_rotateCmpFunc_Row l (s : Int) (m : Int) (((a + b) / 2 + m - s : Nat) : Int) cmp else l) else l
  let l2 := bif decide ((a : Int) < (s : Int)) then (bif decide ((s : Int) < (((a + b) / 2 : Nat) : Int)) then g_slices_symMergeCmpFunc_Row kf l1 (a : Int) (s : Int) (((a + b) / 2 : Nat) : Int) cmp else l1) else l1
  bif decide ((((a + b) / 2 : Nat) : Int) < (((a + b) / 2 + m - s : Nat) : Int)) then (bif decide ((((a + b) / 2 + m - s : Nat) : Int) < (b : Int)) then g_slices_symMergeCmpFunc_Row kf l2 (((a + b) / 2 : Nat) : Int) (((a + b) / 2 + m - s : Nat) : Int) (b : Int) cmp else l2) else l2
theorem sym_left {l l' : List Nat} {a b m kf : Nat} {cmp : Nat → Nat → Int} (hc : OrdC cmp) (h1 : m = a + 1) (h2 : m < b) (h3 : b ≤ l.length) (h4 : l.length ≤ 1000) : ∃ s, g_slices_symMergeCmpFunc_Row (kf + 1) l (a : Int) (m : Int) (b : Int) cmp = l' → (m ≤ s ∧ s ≤ b) ∧ Rot l l' a (a + 1) s ∧ (s = a + 1 ∨ cmp (el l (s - 1)) (el l a) < 0) ∧ (s = b ∨ ¬ cmp (el l s) (el l a) < 0) := by
  subst h1
  obtain ⟨s, x2, e, hs, c1, c2⟩ := search0 (l := l) (a := a) (cmp := cmp) (st := a + 1) (r := b) kf ((a + 1 : Nat) : Int) (b : Int) (by omega) (by omega)
  obtain ⟨x, c, e2, hR⟩ := up1 (l := l) (a := a) (s := s) (cmp := cmp) kf ((a + 1 : Nat) : Int) (b : Int) x2 (by omega) (by omega) h4
  refine ⟨s, fun h => ?_⟩
  rw [g_slices_symMergeCmpFunc_Row, decide_eq_true (show IntKind.wrap .i64 (((a + 1 : Nat) : Int) - (a : Int)) = 1 by rw [wrap_in (by omega)]; omega), cond_true, e, loopE_done] at h
  dsimp only at h
  rw [e2, loopE_done] at h
  dsimp only at h
  subst h
  exact ⟨hs, hR, c1, c2⟩
theorem sym_right {l l' : List Nat} {a b m kf : Nat} {cmp : Nat → Nat → Int} (hc : OrdC cmp) (h0 : a + 1 < m) (h1 : b = m + 1) (h3 : b ≤ l.length) (h4 : l.length ≤ 1000) : ∃ s, g_slices_symMergeCmpFunc_Row (kf + 1) l (a : Int) (m : Int) (b : Int) cmp = l' → (a ≤ s ∧ s ≤ m) ∧ Rot l l' s m (m + 1) ∧ (s = a ∨ ¬ cmp (el l m) (el l (s - 1)) < 0) ∧ (s = m ∨ cmp (el l m) (el l s) < 0) := by
  subst h1
  obtain ⟨s, x2, e, hs, c1, c2⟩ := search2 (l := l) (m := m) (cmp := cmp) (st := a) (r := m) kf (a : Int) ((m + 1 : Nat) : Int) (by omega) (by omega)
  obtain ⟨x, c, e2, hR⟩ := down3 (l := l) (m := m) (s := s) (cmp := cmp) kf (a : Int) ((m + 1 : Nat) : Int) x2 (by omega) (by omega) h4
  refine ⟨s, fun h => ?_⟩
  rw [g_slices_symMergeCmpFunc_Row, decide_eq_false (show ¬ IntKind.wrap .i64 ((m : Int) - (a : Int)) = 1 by rw [wrap_in (by omega)]; omega), cond_false, decide_eq_true (show IntKind.wrap .i64 (((m + 1 : Nat) : Int) - (m : Int)) = 1 by rw [wrap_in (by omega)]; omega), cond_true, e, loopE_done] at h
  dsimp only at h
  rw [e2, loopE_done] at h
  dsimp only at h
  subst h
  exact ⟨hs, hR, c1, c2⟩
set_option maxRecDepth 10000 in
theorem sym_gen {l : List Nat} {a b m kf : Nat} {cmp : Nat → Nat → Int} (hc : OrdC cmp) (h0 : a + 1 < m) (h1 : m + 1 < b) (h3 : b ≤ l.length) (h4 : l.length ≤ 1000) : ∃ s, g_slices_symMergeCmpFunc_Row (kf + 1) l (a : Int) (m : Int) (b : Int) cmp = symT kf l a m b s cmp ∧ (a ≤ s ∧ s ≤ m ∧ s ≤ (a + b) / 2 ∧ (a + b) / 2 + m - s ≤ b) ∧
    (s = a ∨ (a + b) / 2 + m - s = b ∨ ¬ cmp (el l ((a + b) / 2 + m - s)) (el l (s - 1)) < 0) ∧ (s = m ∨ (a + b) / 2 + m - s = m ∨ ¬ cmp (el l s) (el l ((a + b) / 2 + m - s - 1)) < 0) := by
  have hmid := mid_nat (i := a) (j := b) (by omega) (by omega)
  have hp : ∀ s : Nat, s ≤ (a + b) / 2 + m → s ≤ 1000 → IntKind.wrap .i64 (IntKind.wrap .i64 ((((a + b) / 2 : Nat) : Int) + (m : Int)) - (s : Int)) = (((a + b) / 2 + m - s : Nat) : Int) := fun s h1 h2 => by
    rw [wrap_in (n := (((a + b) / 2 : Nat) : Int) + (m : Int)) (by omega), wrap_in (by omega)]; omega
  have key : ∀ s : Nat, ∀ c1 c2 c3 c4 c5 c6 : Bool, True := fun _ _ _ _ _ _ _ => trivial
  by_cases hm : (a + b) / 2 < m
  · obtain ⟨s, x2, e, hs, c1, c2⟩ := search4 (l := l) (a := a) (m := m) (b := b) (cmp := cmp) (st := (a + b) / 2 + m - b) (r := (a + b) / 2) kf (by omega) (by omega) (by omega) (by omega) (by omega) (by omega)
    refine ⟨s, ?_, by omega, ?_, ?_⟩
    · rw [g_slices_symMergeCmpFunc_Row, decide_eq_false (show ¬ IntKind.wrap .i64 ((m : Int) - (a : Int)) = 1 by rw [wrap_in (by omega)]; omega), cond_false, decide_eq_false (show ¬ IntKind.wrap .i64 ((b : Int) - (m : Int)) = 1 by rw [wrap_in (by omega)]; omega), cond_false, hmid, decide_eq_true (show (((a + b) / 2 : Nat) : Int) < (m : Int) by omega), cond_true, hp b (by omega) (by omega), e, loopE_done]
      dsimp only
      rw [hp s (by omega) (by omega)]
      unfold symT
      dsimp only
      generalize decide ((s : Int) < (m : Int)) = d1
      generalize decide ((m : Int) < (((a + b) / 2 + m - s : Nat) : Int)) = d2
      generalize decide ((a : Int) < (s : Int)) = d3
      generalize decide ((s : Int) < (((a + b) / 2 : Nat) : Int)) = d4
      generalize decide ((((a + b) / 2 : Nat) : Int) < (((a + b) / 2 + m - s : Nat) : Int)) = d5
      generalize decide ((((a + b) / 2 + m - s : Nat) : Int) < (b : Int)) = d6
      cases d1 <;> cases d2 <;> cases d3 <;> cases d4 <;> cases d5 <;> cases d6 <;> rfl
    · rcases c1 with c1 | c1
      · exact .inr (.inl (by omega))
      · exact .inr (.inr c1)
    · rcases c2 with c2 | c2
      · exact .inr (.inl (by omega))
      · refine .inr (.inr ?_)
        rw [show (a + b) / 2 + m - s - 1 = (a + b) / 2 + m - 1 - s by omega]
        exact hc.asy _ _ c2
  · obtain ⟨s, x2, e, hs, c1, c2⟩ := search4 (l := l) (a := a) (m := m) (b := b) (cmp := cmp) (st := a) (r := m) kf (by omega) (by omega) (by omega) (by omega) (by omega) (by omega)
    refine ⟨s, ?_, by omega, ?_, ?_⟩
    · rw [g_slices_symMergeCmpFunc_Row, decide_eq_false (show ¬ IntKind.wrap .i64 ((m : Int) - (a : Int)) = 1 by rw [wrap_in (by omega)]; omega), cond_false, decide_eq_false (show ¬ IntKind.wrap .i64 ((b : Int) - (m : Int)) = 1 by rw [wrap_in (by omega)]; omega), cond_false, hmid, decide_eq_false (show ¬ (((a + b) / 2 : Nat) : Int) < (m : Int) by omega), cond_false, e, loopE_done]
      dsimp only
      rw [hp s (by omega) (by omega)]
      unfold symT
      dsimp only
      generalize decide ((s : Int) < (m : Int)) = d1
      generalize decide ((m : Int) < (((a + b) / 2 + m - s : Nat) : Int)) = d2
      generalize decide ((a : Int) < (s : Int)) = d3
      generalize decide ((s : Int) < (((a + b) / 2 : Nat) : Int)) = d4
      generalize decide ((((a + b) / 2 : Nat) : Int) < (((a + b) / 2 + m - s : Nat) : Int)) = d5
      generalize decide ((((a + b) / 2 + m - s : Nat) : Int) < (b : Int)) = d6
      cases d1 <;> cases d2 <;> cases d3 <;> cases d4 <;> cases d5 <;> cases d6 <;> rfl
    · rcases c1 with c1 | c1
      · exact .inl c1
      · exact .inr (.inr c1)
    · rcases c2 with c2 | c2
      · exact .inl c2
      · refine .inr (.inr ?_)
        rw [show (a + b) / 2 + m - s - 1 = (a + b) / 2 + m - 1 - s by omega]
        exact hc.asy _ _ c2
theorem symMerge_law {cmp : Nat → Nat → Int} (hc : OrdC cmp) : ∀ (kf : Nat) (l : List Nat) (a m b : Nat), a < m → m < b → b ≤ l.length → l.length ≤ 1000 → b - a < kf → SegS cmp l a m → SegS cmp l m b → KS l (g_slices_symMergeCmpFunc_Row kf l (a : Int) (m : Int) (b : Int) cmp) a b ∧ SegS cmp (g_slices_symMergeCmpFunc_Row kf l (a : Int) (m : Int) (b : Int) cmp) a b
  | 0, l, a, m, b, _, _, _, _, h, _, _ => by omega
  | kf + 1, l, a, m, b, h1, h2, h3, h4, h5, hA, hB => by
    by_cases hm1 : m = a + 1
    · obtain ⟨s, hs⟩ := sym_left (kf := kf) (l := l) (l' := g_slices_symMergeCmpFunc_Row (kf + 1) l (a : Int) (m : Int) (b : Int) cmp) hc hm1 h2 h3 h4
      obtain ⟨hs, hR, c1, c2⟩ := hs rfl
      subst hm1
      exact ⟨(hR.ks (by omega) (by omega)).mono (Nat.le_refl _) (by omega), one_left hc hR (by omega) (by omega) hB c1 c2⟩
    by_cases hb1 : b = m + 1
    · obtain ⟨s, hs⟩ := sym_right (kf := kf) (l := l) (a := a) (m := m) (b := b) (l' := g_slices_symMergeCmpFunc_Row (kf + 1) l (a : Int) (m : Int) (b : Int) cmp) hc (by omega) hb1 h3 h4
      obtain ⟨hs, hR, c1, c2⟩ := hs rfl
      subst hb1
      exact ⟨(hR.ks (by omega) (by omega)).mono (by omega) (Nat.le_refl _), one_right hc hR (by omega) (by omega) hA c1 c2⟩
    obtain ⟨s, e, hs, c1, c2⟩ := sym_gen (kf := kf) (l := l) (a := a) (m := m) (b := b) hc (by omega) (by omega) h3 h4
    rw [e]
    unfold symT
    generalize he : (a + b) / 2 + m - s = ee at *
    generalize hd : (a + b) / 2 = mid at *
    have hse : s + (ee - m) = mid := by omega
    -- the rotation
    have hrot : ∃ l1, (bif decide ((s : Int) < (m : Int)) then (bif decide ((m : Int) < (ee : Int)) then g_slices_rotateCmpFunc_Row l (s : Int) (m : Int) (ee : Int) cmp else l) else l) = l1 ∧ Rot l l1 s m ee := by
      refine ⟨_, rfl, ?_⟩
      by_cases q1 : s < m
      · rw [decide_eq_true (show (s : Int) < (m : Int) by omega), cond_true]
        by_cases q2 : m < ee
        · rw [decide_eq_true (show (m : Int) < (ee : Int) by omega), cond_true]
          exact rotate_law cmp q1 q2 (by omega) h4
        · rw [decide_eq_false (show ¬ (m : Int) < (ee : Int) by omega), cond_false]
          obtain rfl : m = ee := by omega
          exact Rot.idr _ _ _ (by omega)
      · rw [decide_eq_false (show ¬ (s : Int) < (m : Int) by omega), cond_false]
        obtain rfl : s = m := by omega
        exact Rot.idl _ _ _
    obtain ⟨l1, e1, hR⟩ := hrot
    have hK1 := hR.ks (by omega) (by omega)
    have hl1 := hK1.len
    obtain ⟨r1, r2, r3, r4, r5⟩ := hR.runs hc (a := a) (b := b) (by omega) (by omega) (by omega) (by omega) hA hB c1 c2
    rw [hse] at r2 r3 r5
    have hleft : ∃ l2, (bif decide ((a : Int) < (s : Int)) then (bif decide ((s : Int) < (mid : Int)) then g_slices_symMergeCmpFunc_Row kf l1 (a : Int) (s : Int) (mid : Int) cmp else l1) else l1) = l2 ∧ KS l1 l2 a mid ∧ SegS cmp l2 a mid := by
      refine ⟨_, rfl, ?_⟩
      by_cases q1 : a < s
      · rw [decide_eq_true (show (a : Int) < (s : Int) by omega), cond_true]
        by_cases q2 : s < mid
        · rw [decide_eq_true (show (s : Int) < (mid : Int) by omega), cond_true]
          exact symMerge_law hc kf l1 a s mid q1 q2 (by omega) (by omega) (by omega) r1 r2
        · rw [decide_eq_false (show ¬ (s : Int) < (mid : Int) by omega), cond_false]
          exact ⟨.refl _ _ _, by rw [show mid = s by omega]; exact r1⟩
      · rw [decide_eq_false (show ¬ (a : Int) < (s : Int) by omega), cond_false]
        exact ⟨.refl _ _ _, by rw [show a = s by omega]; exact r2⟩
    obtain ⟨l2, e2, hK2, hS2⟩ := hleft
    have hl2 := hK2.len
    have hsame : ∀ {p q : Nat}, mid ≤ p → SegS cmp l1 p q → SegS cmp l2 p q := fun hp h x y h1 h2 h3 => by
      rw [hK2.out x (.inr (by omega)), hK2.out y (.inr (by omega))]; exact h x y h1 h2 h3
    have hright : ∃ l3, (bif decide ((mid : Int) < (ee : Int)) then (bif decide ((ee : Int) < (b : Int)) then g_slices_symMergeCmpFunc_Row kf l2 (mid : Int) (ee : Int) (b : Int) cmp else l2) else l2) = l3 ∧ KS l2 l3 mid b ∧ SegS cmp l3 mid b := by
      refine ⟨_, rfl, ?_⟩
      by_cases q1 : mid < ee
      · rw [decide_eq_true (show (mid : Int) < (ee : Int) by omega), cond_true]
        by_cases q2 : ee < b
        · rw [decide_eq_true (show (ee : Int) < (b : Int) by omega), cond_true]
          exact symMerge_law hc kf l2 mid ee b q1 q2 (by omega) (by omega) (by omega) (hsame (Nat.le_refl _) r3) (hsame (by omega) r4)
        · rw [decide_eq_false (show ¬ (ee : Int) < (b : Int) by omega), cond_false]
          exact ⟨.refl _ _ _, by rw [show b = ee by omega]; exact hsame (Nat.le_refl _) r3⟩
      · rw [decide_eq_false (show ¬ (mid : Int) < (ee : Int) by omega), cond_false]
        exact ⟨.refl _ _ _, by rw [show mid = ee by omega]; exact hsame (by omega) r4⟩
    obtain ⟨l3, e3, hK3, hS3⟩ := hright
    dsimp only
    rw [e1, e2, e3]
    exact ⟨((hK1.mono (by omega) (by omega)).trans (hK2.mono (Nat.le_refl _) (by omega))).trans (hK3.mono (by omega) (Nat.le_refl _)), halves hK2 hS2 hK3 hS3 r5⟩
theorem stable_law {l : List Nat} {cmp : Nat → Nat → Int} (hc : OrdC cmp) (hn : l.length ≤ 24) : (g_slices_SortStableFunc_RowX l cmp).Perm l ∧ SegS cmp (g_slices_SortStableFunc_RowX l cmp) 0 l.length := by
  unfold g_slices_SortStableFunc_RowX g_slices_stableCmpFunc_Row
  by_cases h20 : l.length < 20
  · have e1 : loopW (B_g_slices_stableCmpFunc_Row_0 l (l.length : Int) cmp) ((((l.length : Int) - 0).toNat) + 1) (0, 20, l) = .done (0, 20, l) := by
      simp only [loopW]
      unfold B_g_slices_stableCmpFunc_Row_0
      dsimp only
      rw [decide_eq_false (show ¬ (20 : Int) ≤ (l.length : Int) by omega), cond_false]
    obtain ⟨k1, k2⟩ := insertion_law (l := l) (a := 0) (b := l.length) hc (Nat.zero_le _) (Nat.le_refl _) (by omega)
    rw [e1, loopE_done]
    dsimp only
    have e2 : ∀ q, loopW (B_g_slices_stableCmpFunc_Row_1 l (l.length : Int) cmp 0 20 l) ((((l.length : Int) - 20).toNat) + 1) (20, q) = .done (20, q) := fun q => by
      simp only [loopW]
      unfold B_g_slices_stableCmpFunc_Row_1
      dsimp only
      rw [decide_eq_false (show ¬ (20 : Int) < (l.length : Int) by omega), cond_false]
    rw [e2, loopE_done]
    exact ⟨k1.perm, k2⟩
  · obtain ⟨k1, k2⟩ := insertion_law (l := l) (a := 0) (b := 20) hc (Nat.zero_le _) (by omega) (by omega)
    generalize hq : g_slices_insertionSortCmpFunc_Row l ((0 : Nat) : Int) ((20 : Nat) : Int) cmp = q at k1 k2
    have hq : g_slices_insertionSortCmpFunc_Row l 0 20 cmp = q := hq
    have hql := k1.len
    have e1 : loopW (B_g_slices_stableCmpFunc_Row_0 l (l.length : Int) cmp) ((((l.length : Int) - 0).toNat) + 1) (0, 20, l) = .done (20, 40, q) := by
      rw [loopW.cont (n := 0) (s' := (20, 40, q)) (by omega) (by
        unfold B_g_slices_stableCmpFunc_Row_0
        dsimp only
        rw [decide_eq_true (show (20 : Int) ≤ (l.length : Int) by omega), cond_true, hq]
        rfl)]
      exact loopW.brk (n := 0) (by omega) (by
        unfold B_g_slices_stableCmpFunc_Row_0
        dsimp only
        rw [decide_eq_false (show ¬ (40 : Int) ≤ (l.length : Int) by omega), cond_false])
    rw [e1, loopE_done]
    dsimp only
    obtain ⟨j1, j2⟩ := insertion_law (l := q) (a := 20) (b := l.length) hc (by omega) (by omega) (by omega)
    generalize hp : g_slices_insertionSortCmpFunc_Row q ((20 : Nat) : Int) (l.length : Int) cmp = p at j1 j2
    have hp : g_slices_insertionSortCmpFunc_Row q 20 (l.length : Int) cmp = p := hp
    have hpl := j1.len
    by_cases h20' : l.length = 20
    · have e2 : loopW (B_g_slices_stableCmpFunc_Row_1 l (l.length : Int) cmp 20 40 q) ((((l.length : Int) - 20).toNat) + 1) (20, p) = .done (20, p) := by
        simp only [loopW]
        unfold B_g_slices_stableCmpFunc_Row_1
        dsimp only
        rw [decide_eq_false (show ¬ (20 : Int) < (l.length : Int) by omega), cond_false]
      rw [e2, loopE_done]
      refine ⟨j1.perm.trans k1.perm, fun i j x y z => ?_⟩
      rw [j1.out i (.inl (by omega)), j1.out j (.inl (by omega))]
      exact k2 i j x y (by omega)
    · obtain ⟨m1, m2⟩ := symMerge_law hc 1001 p 0 20 l.length (by omega) (by omega) (by omega) (by omega) (by omega) (fun i j x y z => by
        rw [j1.out i (.inl (by omega)), j1.out j (.inl (by omega))]
        exact k2 i j x y z) j2
      generalize hr : g_slices_symMergeCmpFunc_Row 1001 p ((0 : Nat) : Int) ((20 : Nat) : Int) (l.length : Int) cmp = r at m1 m2
      have hr : g_slices_symMergeCmpFunc_Row 1001 p 0 20 (l.length : Int) cmp = r := hr
      have e2 : loopW (B_g_slices_stableCmpFunc_Row_1 l (l.length : Int) cmp 20 40 q) ((((l.length : Int) - 20).toNat) + 1) (20, p) = .done (40, r) := by
        rw [loopW.cont (n := 0) (s' := (40, r)) (by omega) (by
          unfold B_g_slices_stableCmpFunc_Row_1
          dsimp only
          rw [decide_eq_true (show (20 : Int) < (l.length : Int) by omega), cond_true, loopW.brk (n := 0) (s' := (0, 40, p)) (by omega) (by
            unfold B_g_slices_stableCmpFunc_Row_2
            dsimp only
            rw [decide_eq_false (show ¬ (IntKind.wrap .i64 (2 * 20) : Int) ≤ (l.length : Int) by rw [show IntKind.wrap .i64 (2 * 20) = 40 from rfl]; omega), cond_false]
            rfl), loopE_done]
          dsimp only
          rw [show IntKind.wrap .i64 (0 + 20) = 20 from rfl, decide_eq_true (show (20 : Int) < (l.length : Int) by omega), cond_true, hr]
          rfl)]
        exact loopW.brk (n := 0) (by omega) (by
          unfold B_g_slices_stableCmpFunc_Row_1
          dsimp only
          rw [decide_eq_false (show ¬ (40 : Int) < (l.length : Int) by omega), cond_false])
      rw [e2, loopE_done]
      exact ⟨m1.perm.trans (j1.perm.trans k1.perm), m2⟩

structure OrdR (f : DRow → DRow → Int) : Prop where
  tr : ∀ x y z, ¬ f y x < 0 → ¬ f z y < 0 → ¬ f z x < 0
  asy : ∀ x y, f x y < 0 → ¬ f y x < 0
theorem OrdR.nth {f : DRow → DRow → Int} (h : OrdR f) (l : List DRow) : OrdC (nthC l f) := ⟨fun _ _ _ a b => h.tr _ _ _ a b, fun _ _ a => h.asy _ _ a⟩
def eC (c : Int) (y : DRow) : DEntry := ⟨y.Vals.getD c.toNat d_Str, y.Vals.getD 0 d_Str⟩
theorem less_ltC (a b : DRow) (c : Int) : s_l30Less a b c = ltE (eC c a) (eC c b) := by
  unfold s_l30Less ltE eC
  dsimp only
  by_cases h : a.Vals.getD c.toNat d_Str = b.Vals.getD c.toNat d_Str
  · rw [if_pos h, h, beq_self_eq_true, cond_true]
  · rw [if_neg h, show (a.Vals.getD c.toNat d_Str == b.Vals.getD c.toNat d_Str) = false from beq_eq_false_iff_ne.2 h, cond_false]
theorem c2_cE (a b : DRow) (c : Int) : i_ScanRange_c2 a b c = cE (eC c a) (eC c b) := by
  unfold i_ScanRange_c2 cE eC
  rw [cmp_cS, cmp_cS]
  dsimp only
  generalize cS (a.Vals.getD c.toNat d_Str) (b.Vals.getD c.toNat d_Str) = x
  generalize cS (a.Vals.getD 0 d_Str) (b.Vals.getD 0 d_Str) = y
  unfold g_cmp_Or_int
  show loopE (loopM (B_g_cmp_Or_int_0 [x, y]) 2 0 ()) (fun r => r) (fun _ => 0) = _
  by_cases hx : x = 0
  · subst hx
    by_cases hy : y = 0
    · subst hy; rfl
    · simp [loopM, B_g_cmp_Or_int_0, loopE, hy]
  · simp [loopM, B_g_cmp_Or_int_0, loopE, hx]
theorem c2_neg (a b : DRow) (c : Int) : i_ScanRange_c2 a b c < 0 ↔ ltE (eC c a) (eC c b) = true := by
  rw [c2_cE, ← cE_neg, decide_eq_true_eq]
theorem c2_not (a b : DRow) (c : Int) : ¬ i_ScanRange_c2 a b c < 0 ↔ ltE (eC c a) (eC c b) = false := by
  rw [c2_neg, Bool.not_eq_true]
theorem ord_c2 (c : Int) : OrdR fun y0 y1 => i_ScanRange_c2 y0 y1 c :=
  ⟨fun x y z h1 h2 => (c2_not _ _ _).2 (ltE_ntr ((c2_not _ _ _).1 h2) ((c2_not _ _ _).1 h1)), fun x y h => (c2_not _ _ _).2 (ltE_asym ((c2_neg _ _ _).1 h))⟩
theorem del_mem {f : DRow → Bool} {l : List DRow} {y : DRow} (h : y ∈ g_slices_DeleteFunc_Row l f) : y ∈ l := (List.mem_filter.1 h).1
theorem col_in {t : DTable} {c : Int} (hg : i_GoodTable t = true) (h : i_within c 1 (IntKind.wrap .i64 ((t.Cols.length : Int) - 1)) = true) : 1 ≤ c ∧ c < (t.Cols.length : Int) := by
  have h1 := f_within h
  have h2 := (GoodT.of (by rw [← GoodTable_eq]; exact hg)).cols
  rw [wrap_in (by omega)] at h1
  omega
theorem col_in' {t : DTable} {c : Int} (hg : s_GoodTable t = true) (h : s_l1In c 1 (IntKind.wrap .i64 ((t.Cols.length : Int) - 1)) = true) : 1 ≤ c ∧ c < (t.Cols.length : Int) := col_in (by rw [GoodTable_eq]; exact hg) h
theorem row_wide {t : DTable} {c : Int} (hg : i_GoodTable t = true) (h : i_within c 1 (IntKind.wrap .i64 ((t.Cols.length : Int) - 1)) = true) {l : List DWrite} {y : DRow} (hy : y ∈ i_Table_rowsIn t l) : 0 ≤ c ∧ c < (y.Vals.length : Int) := by
  have h1 := col_in hg h
  have h2 := (f_s_l25Good (rowsIn_mem (by rw [← GoodTable_eq]; exact hg) hy)).1
  omega
theorem row_wide2 {t : DTable} {c : Int} (hg : i_GoodTable t = true) (h : i_within c 1 (IntKind.wrap .i64 ((t.Cols.length : Int) - 1)) = true) {l : List DWrite} {f f' : DRow → Bool} {y z : DRow} (hy : y ∈ g_slices_DeleteFunc_Row (i_Table_rowsIn t l) f) (hz : z ∈ g_slices_DeleteFunc_Row (i_Table_rowsIn t l) f') : 0 ≤ c ∧ c < (y.Vals.length : Int) ∧ c < (z.Vals.length : Int) := by
  have h1 := row_wide hg h (del_mem hy)
  have h2 := row_wide hg h (del_mem hz)
  omega
theorem del_24 {t : DTable} {l : List DWrite} (hg : i_GoodTable t = true) (hr : i_isRows l = true) (f : DRow → Bool) : (g_slices_DeleteFunc_Row (i_Table_rowsIn t l) f).length ≤ 24 := by
  have h1 : (g_slices_DeleteFunc_Row (i_Table_rowsIn t l) f).length ≤ (i_Table_rowsIn t l).length := List.length_filter_le _ _
  rw [rowsIn_eq (by rw [← GoodTable_eq]; exact hg)] at h1 ⊢
  have h2 := (rows_good t l).1
  have h3 := rows24 (l := l) (by rw [l5Rows_eq]; exact hr)
  omega

theorem scan_round (t : DTable) (st : List DWrite) (c : Int) (lo hi : Str) (k : Nat) (l : List DRow) (hl : l.length ≤ 1000000) (hk : i_ScanRange_c1 ((s_l25Rows t st).getD k d_Row) c lo hi = false) : ∃ i, i ≤ l.length ∧ B_s_l30Scan_0 t st c lo hi k l = .cont (l.take i ++ ((s_l25Rows t st).getD k d_Row) :: l.drop i) ∧ (∀ y ∈ l.drop i, s_l30Less ((s_l25Rows t st).getD k d_Row) y c = true) ∧ (0 < i → s_l30Less ((s_l25Rows t st).getD k d_Row) (l.getD (i - 1) d_Row) c = false) := by
  have hk1 : sLt (((s_l25Rows t st).getD k d_Row).Vals.getD c.toNat d_Str) lo = false ∧ sLe (((s_l25Rows t st).getD k d_Row).Vals.getD c.toNat d_Str) hi = true := by
    unfold i_ScanRange_c1 at hk
    generalize sLt (((s_l25Rows t st).getD k d_Row).Vals.getD c.toNat d_Str) lo = u at hk ⊢
    generalize sLe (((s_l25Rows t st).getD k d_Row).Vals.getD c.toNat d_Str) hi = v at hk ⊢
    cases u <;> cases v <;> simp_all
  unfold B_s_l30Scan_0
  dsimp only
  rw [hk1.1, hk1.2, cond_false, cond_true]
  generalize hr : (s_l25Rows t st).getD k d_Row = r at *
  refine loopW_val (body := B_s_l30Scan_1 t st c lo hi k l) (fd := fun p => Out.cont (p.2.set p.1.toNat r)) (fun (p : Int × List DRow) => 0 ≤ p.1 ∧ p.1 ≤ (l.length : Int) ∧ (∃ q, p.2 = l.take p.1.toNat ++ q :: l.drop p.1.toNat) ∧ ∀ y ∈ l.drop p.1.toNat, s_l30Less r y c = true) (fun p => p.1.toNat) (fun v => ∃ i, i ≤ l.length ∧ v = .cont (l.take i ++ r :: l.drop i) ∧ (∀ y ∈ l.drop i, s_l30Less r y c = true) ∧ (0 < i → s_l30Less r (l.getD (i - 1) d_Row) c = false)) ?_ ((l.length : Int).toNat + 1) ((l.length : Int), l ++ [r]) ⟨(by show 0 ≤ (l.length : Int); omega), (by show (l.length : Int) ≤ (l.length : Int); omega), ⟨r, ?_⟩, ?_⟩ (by show (l.length : Int).toNat < (l.length : Int).toNat + 1; omega)
  · rintro ⟨a, x⟩ ⟨h0, h1, ⟨q, hq⟩, h3⟩
    dsimp only at h0 h1 hq h3
    have stop : s_l30Less r (l.getD (a.toNat - 1) d_Row) c = false ∨ a = 0 → ∃ i, i ≤ l.length ∧ (Out.cont (x.set a.toNat r) : Out (List DRow) (List DRow)) = .cont (l.take i ++ r :: l.drop i) ∧ (∀ y ∈ l.drop i, s_l30Less r y c = true) ∧ (0 < i → s_l30Less r (l.getD (i - 1) d_Row) c = false) := fun h => by
      refine ⟨a.toNat, by omega, ?_, h3, fun hp => h.resolve_right (by omega)⟩
      rw [hq, set_mid _ _ _ _ (by rw [List.length_take]; omega)]
    unfold B_s_l30Scan_1
    dsimp only
    cases hp : decide (0 < a)
    · exact stop (.inr (by have := of_decide_eq_false hp; omega))
    · have hp := of_decide_eq_true hp
      have hlt : a.toNat - 1 < l.length := by omega
      have hg : x.getD (IntKind.wrap .i64 (a - 1)).toNat d_Row = l.getD (a.toNat - 1) d_Row := by
        rw [wrap_in (by omega), show (a - 1).toNat = a.toNat - 1 by omega, hq, List.getD_eq_getElem?_getD, List.getElem?_append_left (by rw [List.length_take]; omega), List.getElem?_take_of_lt (by omega), ← List.getD_eq_getElem?_getD]
      rw [hg, hr]
      simp only [cond_true]
      show Out.sat _ _ _ (bif s_l30Less r (l.getD (a.toNat - 1) d_Row) c then _ else _)
      cases hs : s_l30Less r (l.getD (a.toNat - 1) d_Row) c
      · exact stop (.inl hs)
      · have e1 : (IntKind.wrap .i64 (a - 1)).toNat = a.toNat - 1 := by rw [wrap_in (by omega)]; omega
        have e2 : IntKind.wrap .i64 (a - 1) = a - 1 := wrap_in (by omega)
        have e3 : l.drop (a.toNat - 1) = l.getD (a.toNat - 1) d_Row :: l.drop a.toNat := by
          rw [getD_eq hlt, List.drop_eq_getElem_cons hlt, show a.toNat - 1 + 1 = a.toNat by omega]
        refine ⟨⟨?_, ?_, ⟨l.getD (a.toNat - 1) d_Row, ?_⟩, ?_⟩, ?_⟩
        · dsimp only; rw [e2]; omega
        · dsimp only; rw [e2]; omega
        · dsimp only
          rw [e1, e3, hq, set_mid _ _ _ _ (by rw [List.length_take]; omega)]
          have e4 : l.take a.toNat = l.take (a.toNat - 1) ++ [l.getD (a.toNat - 1) d_Row] := by
            rw [getD_eq hlt, ← List.take_succ_eq_append_getElem hlt, show a.toNat - 1 + 1 = a.toNat by omega]
          rw [e4, List.append_assoc]; rfl
        · dsimp only
          rw [e1, e3]
          intro y hy
          rcases List.mem_cons.1 hy with rfl | hy
          · exact hs
          · exact h3 y hy
        · dsimp only; rw [e1]; omega
  · dsimp only
    rw [show (l.length : Int).toNat = l.length by omega, List.take_length, List.drop_length]
  · intro y hy
    dsimp only at hy
    rw [show (l.length : Int).toNat = l.length by omega, List.drop_length] at hy
    cases hy
theorem scan_skip (t : DTable) (st : List DWrite) (c : Int) (lo hi : Str) (k : Nat) (l : List DRow) (hk : i_ScanRange_c1 ((s_l25Rows t st).getD k d_Row) c lo hi = true) : B_s_l30Scan_0 t st c lo hi k l = .cont l := by
  unfold i_ScanRange_c1 at hk
  unfold B_s_l30Scan_0
  dsimp only
  generalize sLt (((s_l25Rows t st).getD k d_Row).Vals.getD c.toNat d_Str) lo = u at hk ⊢
  generalize sLe (((s_l25Rows t st).getD k d_Row).Vals.getD c.toNat d_Str) hi = v at hk ⊢
  cases u <;> cases v <;> first | rfl | simp_all
theorem scan_sorted (t : DTable) (st : List DWrite) (c : Int) (lo hi : Str) (hn : (s_l25Rows t st).length ≤ 1000000) : (s_l30Scan t st c lo hi).Perm ((s_l25Rows t st).filter fun y => !i_ScanRange_c1 y c lo hi) ∧ Srt ((s_l30Scan t st c lo hi).map (eC c)) := by
  unfold s_l30Scan
  refine loopM_val (fun k (p : List DRow) => (p.Perm (((s_l25Rows t st).take k).filter fun y => !i_ScanRange_c1 y c lo hi) ∧ Srt (p.map (eC c))) ∧ p.length ≤ k) (fun (v : List DRow) => v.Perm ((s_l25Rows t st).filter fun y => !i_ScanRange_c1 y c lo hi) ∧ Srt (v.map (eC c))) ⟨⟨.refl _, List.Pairwise.nil⟩, Nat.le_refl _⟩ (fun s hs => by
    have e : 0 + ((s_l25Rows t st).length - 0) = (s_l25Rows t st).length := by omega
    rw [e, List.take_length] at hs; exact hs.1) ?_
  intro k x _ hk ⟨⟨hp, hs⟩, hx⟩
  have hk : k < (s_l25Rows t st).length := by omega
  have ht : ((s_l25Rows t st).take (k + 1)).filter (fun y => !i_ScanRange_c1 y c lo hi) = ((s_l25Rows t st).take k).filter (fun y => !i_ScanRange_c1 y c lo hi) ++ (bif i_ScanRange_c1 ((s_l25Rows t st).getD k d_Row) c lo hi then [] else [(s_l25Rows t st).getD k d_Row]) := by
    rw [List.take_succ_eq_append_getElem hk, List.filter_append, getD_eq hk]
    cases h : i_ScanRange_c1 (s_l25Rows t st)[k] c lo hi
    · rw [List.filter_cons_of_pos (by simp [h])]; rfl
    · rw [List.filter_cons_of_neg (by simp [h])]; rfl
  rw [ht]
  cases h : i_ScanRange_c1 ((s_l25Rows t st).getD k d_Row) c lo hi
  · obtain ⟨i, hi', he, hd, hg⟩ := scan_round t st c lo hi k x (by omega) h
    rw [he]
    refine ⟨⟨?_, ?_⟩, by rw [List.length_append, List.length_cons, List.length_take, List.length_drop]; omega⟩
    · refine List.perm_middle.trans ?_
      rw [List.take_append_drop]
      exact (List.perm_append_singleton _ _).symm.trans (List.Perm.append_right _ hp)
    · rw [List.map_append, List.map_cons, List.map_take, List.map_drop]
      refine srt_insert hs (by rw [List.length_map]; exact hi') (fun y hy => ?_) fun h0 y hy => ?_
      · rw [← List.map_drop] at hy
        obtain ⟨z, hz, rfl⟩ := List.mem_map.1 hy
        have := hd z hz
        rw [less_ltC] at this
        exact this
      · have hl : i - 1 < x.length := by omega
        rw [List.getElem?_map, List.getElem?_eq_getElem hl, Option.map_some, Option.some.injEq] at hy
        subst hy
        have := hg h0
        rw [less_ltC, getD_eq hl] at this
        exact this
  · rw [scan_skip t st c lo hi k x h]
    refine ⟨⟨?_, hs⟩, by omega⟩
    rw [cond_true, List.append_nil]; exact hp
theorem range_getD (l : List DRow) : (List.range l.length).map (fun i => l.getD i d_Row) = l := by
  refine List.ext_getElem (by rw [List.length_map, List.length_range]) fun i h1 h2 => ?_
  rw [List.getElem_map, List.getElem_range, getD_eq h2]
theorem sort_rows {l : List DRow} {f : DRow → DRow → Int} (hf : OrdR f) (hl : l.length ≤ 24) : (g_slices_SortStableFunc_Row l f).Perm l ∧ (g_slices_SortStableFunc_Row l f).Pairwise fun a b => ¬ f b a < 0 := by
  obtain ⟨hp, hs⟩ := stable_law (l := List.range l.length) (hf.nth l) (by rw [List.length_range]; exact hl)
  unfold g_slices_SortStableFunc_Row
  rw [List.length_range] at hs
  generalize g_slices_SortStableFunc_RowX (List.range l.length) (nthC l f) = idx at hp hs
  have hlen : idx.length = l.length := by rw [hp.length_eq, List.length_range]
  have hlt : ∀ i (h : i < idx.length), idx[i] < l.length := fun i h => List.mem_range.1 (hp.mem_iff.1 (List.getElem_mem h))
  refine ⟨?_, ?_⟩
  · have := hp.map fun i => l.getD i d_Row
    rw [range_getD] at this
    exact this
  · rw [List.pairwise_map, List.pairwise_iff_getElem]
    intro i j hi hj hij
    have := hs i j (Nat.zero_le _) hij (by omega)
    unfold el at this
    rw [getD_eq hi, getD_eq hj] at this
    unfold nthC at this
    have h1 := hlt i hi
    have h2 := hlt j hj
    rw [show min idx[i] (l.length - 1) = idx[i] by omega, show min idx[j] (l.length - 1) = idx[j] by omega] at this
    exact this
theorem scan_eq {t : DTable} {l : List DWrite} (hg : s_GoodTable t = true) (hr : i_isRows l = true) (c : Int) (lo hi : Str) : g_slices_SortStableFunc_Row (g_slices_DeleteFunc_Row (i_Table_rowsIn t l) (fun y0 => i_ScanRange_c1 y0 c lo hi)) (fun y0 y1 => i_ScanRange_c2 y0 y1 c) = s_l30Scan t l c lo hi := by
  have h24 := del_24 (by rw [GoodTable_eq]; exact hg) hr (fun y0 => i_ScanRange_c1 y0 c lo hi)
  obtain ⟨p1, s1⟩ := sort_rows (ord_c2 c) h24
  rw [rowsIn_eq hg] at p1 s1 ⊢
  have hn : (s_l25Rows t l).length ≤ 1000000 := by
    have h2 := (rows_good t l).1
    have h3 := rows24 (l := l) (by rw [l5Rows_eq]; exact hr)
    omega
  obtain ⟨p2, s2⟩ := scan_sorted t l c lo hi hn
  have p3 : (g_slices_SortStableFunc_Row (g_slices_DeleteFunc_Row (s_l25Rows t l) (fun y0 => i_ScanRange_c1 y0 c lo hi)) (fun y0 y1 => i_ScanRange_c2 y0 y1 c)).Perm (s_l30Scan t l c lo hi) := p1.trans p2.symm
  have hap := rows_apart hg hr
  have huniq : ∀ x ∈ s_l25Rows t l, ∀ y ∈ s_l25Rows t l, x.Vals.getD 0 d_Str = y.Vals.getD 0 d_Str → x = y := fun x hx y hy e => by
    obtain ⟨i, hi, rfl⟩ := List.mem_iff_getElem.1 hx
    obtain ⟨j, hj, rfl⟩ := List.mem_iff_getElem.1 hy
    rcases Nat.lt_trichotomy i j with h | h | h
    · exact absurd e (List.pairwise_iff_getElem.1 hap i j hi hj h)
    · subst h; rfl
    · exact absurd e.symm (List.pairwise_iff_getElem.1 hap j i hj hi h)
  refine p3.eq_of_pairwise (le := fun x y => ltE (eC c y) (eC c x) = false) (fun x y hx hy h1 h2 => ?_) (s1.imp fun h => (c2_not _ _ _).1 h) (List.pairwise_map.1 s2)
  have e := ltE_tot h2 h1
  unfold eC at e
  simp only [DEntry.mk.injEq] at e
  exact huniq x (List.mem_filter.1 (p1.mem_iff.1 hx)).1 y (List.mem_filter.1 (p2.mem_iff.1 hy)).1 e.2
theorem ScanRange_eq (t : DTable) (l : List DWrite) (c : Int) (lo hi : Str) : i_ScanRange t l c lo hi = s_ScanRange t l c lo hi := by
  unfold i_ScanRange s_ScanRange
  rw [GoodTable_eq, l5Rows_eq, within_eq, isField_eq, isField_eq]
  cases h : s_GoodTable t
  · rfl
  · cases hr : i_isRows l
    · rfl
    · rw [scan_eq h hr]
theorem scan_cnt (t : DTable) (l : List DWrite) (c : Int) (lo hi : Str) : cntL c_Row (i_ScanRange t l c lo hi).1 ≤ 4 * l.length := by
  rw [ScanRange_eq]
  unfold s_ScanRange
  cases h : s_GoodTable t
  · exact Nat.zero_le _
  cases hr : s_l5Rows l
  · exact Nat.zero_le _
  cases s_l1In c 1 (IntKind.wrap .i64 ((t.Cols.length : Int) - 1))
  · exact Nat.zero_le _
  cases s_l25Field lo
  · exact Nat.zero_le _
  cases s_l25Field hi
  · exact Nat.zero_le _
  simp only [cond_true]
  have hn := (rows_good t l).1
  have h24 := rows24 hr
  obtain ⟨p, _⟩ := scan_sorted t l c lo hi (by omega)
  have hc := (GoodT.of h).cols
  have h1 := cntL_le (c := c_Row) (m := 4) (xs := s_l30Scan t l c lo hi) fun x hx => by
    have := (f_s_l25Good ((rows_good t l).2 x (List.mem_filter.1 (p.mem_iff.1 hx)).1)).1
    unfold c_Row; omega
  have h2 := p.length_eq
  have h3 := List.length_filter_le (fun y => !i_ScanRange_c1 y c lo hi) (s_l25Rows t l)
  omega
theorem true_ScanRange (t : DTable) (l : List DWrite) (c : Int) (lo hi : Str) (hw : wf_Table t) (hw2 : (wfL wf_Write) l) (_ : wfI c) (_ : wfS lo) (_ : wfS hi) : l_FnExactScanRange t l c lo hi = true := by
  unfold l_FnExactScanRange
  cases decide (1048576 < (lo.length : Int))
  case true => rfl
  cases decide (1048576 < (hi.length : Int))
  case true => rfl
  cases h1 : decide (l_szTable t 1048576 < 0)
  case true => rfl
  cases h2 : decide (l_szWriteS l (l_szTable t 1048576) < 0)
  case true => rfl
  have hl := szTable_len hw (of_decide_eq_false h1)
  have hz := szok_Table hw (by decide) (of_decide_eq_false h1)
  have hz2 := szok_WriteS hw2 hz.2 (of_decide_eq_false h2)
  have ho : l.length ≤ 2147483648 := hz2.1.1
  have hc := scan_cnt t l c lo hi
  obtain ⟨_, m1⟩ := mh_Table t 1 (by decide) (by omega)
  obtain ⟨_, m2, _⟩ := mh_WriteS l (l_markTable t 1).1 (by omega) (by omega)
  obtain ⟨m4, m5, _⟩ := mh_RowS (i_ScanRange t l c lo hi).1 1 (by decide) (by omega)
  simp only [cond_false, ← ScanRange_eq, eq_Table, eq_WriteS, eq_RowS, beq_self_eq_true, cond_true, m4]
  rw [m2, decide_eq_false (by omega), cond_false, m5, decide_eq_false (by omega), cond_false, decide_true]; rfl

end Go.Proofs.YtdhfokkkpcelpaaGreatDoor
