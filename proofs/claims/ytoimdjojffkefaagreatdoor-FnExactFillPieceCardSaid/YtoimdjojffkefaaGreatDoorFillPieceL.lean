/- Fill Piece: plain laws of the models. -/
import Derived.Test.YtoimdjojffkefaaGreatDoorFillPieceT
set_option linter.unusedVariables false
set_option linter.unusedSimpArgs false
namespace Go.Proofs.YtoimdjojffkefaaGreatDoor
open Go.RowKit Go.X
theorem szok_Idx {x : DIdx} {L : Int} (hw : wf_Idx x) (hL : 0 ≤ L ∧ L ≤ 1048576) (h : ¬ l_szIdx x L < 0) : ok_Idx x ∧ 0 ≤ l_szIdx x L ∧ l_szIdx x L ≤ 1048576 := by
  unfold l_szIdx at h ⊢
  obtain ⟨a0, e0, h⟩ := szc h
  rw [e0]
  have s0 := szS_ok hw.1 hL a0
  exact ⟨s0.1, s0.2⟩
theorem to_Idx (x : DIdx) : l_toIdx x = x := rfl
theorem eq_Idx (x : DIdx) : l_eqIdx x x = true := by unfold l_eqIdx; simp only [beq_self_eq_true, cond_true, decide_true]
theorem sze_StringS (x : List Str) (L : Int) : l_szStringS x L = szLL (fun s L => IntKind.wrap .i64 (L - (s.length : Int))) d_Str x L := by
  unfold l_szStringS szLL szL
  have : B_l_szStringS_0 x L = fun k y => bif decide (IntKind.wrap .i64 (y - ((x.getD k d_Str).length : Int)) < 0) then .ret (-1) else .cont (IntKind.wrap .i64 (y - ((x.getD k d_Str).length : Int))) := by
    funext k y; rfl
  rw [this]
theorem szok_StringS {x : List Str} {L : Int} (hw : (wfL wfS) x) (hL : 0 ≤ L ∧ L ≤ 1048576) (h : ¬ l_szStringS x L < 0) : (okL okS) x ∧ 0 ≤ l_szStringS x L ∧ l_szStringS x L ≤ 1048576 := by
  rw [sze_StringS] at h ⊢
  exact szLL_ok d_Str szS_ok hw hL h
theorem to_StringS (x : List Str) : l_toStringS x = x := toL_id d_Str (f := fun s => s) (fun _ => rfl) x
theorem eq_StringS (x : List Str) : l_eqStringS x x = true := eqL_refl d_Str (f := fun a b => a == b) (fun _ => beq_self_eq_true _) x
theorem szok_IdxS {x : List DIdx} {L : Int} (hw : (wfL wf_Idx) x) (hL : 0 ≤ L ∧ L ≤ 1048576) (h : ¬ l_szIdxS x L < 0) : (okL ok_Idx) x ∧ 0 ≤ l_szIdxS x L ∧ l_szIdxS x L ≤ 1048576 := szLL_ok d_Idx (f := l_szIdx) szok_Idx hw hL h
theorem to_IdxS (x : List DIdx) : l_toIdxS x = x := toL_id d_Idx (f := fun s => s) (fun _ => rfl) x
theorem eq_IdxS (x : List DIdx) : l_eqIdxS x x = true := eqL_refl d_Idx (f := l_eqIdx) eq_Idx x
theorem szok_Table {x : DTable} {L : Int} (hw : wf_Table x) (hL : 0 ≤ L ∧ L ≤ 1048576) (h : ¬ l_szTable x L < 0) : ok_Table x ∧ 0 ≤ l_szTable x L ∧ l_szTable x L ≤ 1048576 := by
  unfold l_szTable at h ⊢
  obtain ⟨a0, e0, h⟩ := szc h
  rw [e0]
  have s0 := szS_ok hw.1 hL a0
  obtain ⟨a1, e1, h⟩ := szc h
  rw [e1]
  have s1 := szok_StringS hw.2.1 s0.2 a1
  obtain ⟨a2, e2, h⟩ := szc h
  rw [e2]
  have s2 := szok_IdxS hw.2.2 s1.2 a2
  exact ⟨⟨s0.1, s1.1, s2.1⟩, s2.2⟩
theorem to_Table (x : DTable) : l_toTable x = x := rfl
theorem eq_Table (x : DTable) : l_eqTable x x = true := by unfold l_eqTable; simp only [eq_StringS, eq_IdxS, beq_self_eq_true, cond_true, decide_true]
theorem szok_Write {x : DWrite} {L : Int} (hw : wf_Write x) (hL : 0 ≤ L ∧ L ≤ 1048576) (h : ¬ l_szWrite x L < 0) : ok_Write x ∧ 0 ≤ l_szWrite x L ∧ l_szWrite x L ≤ 1048576 := by
  unfold l_szWrite at h ⊢
  obtain ⟨a0, e0, h⟩ := szc h
  rw [e0]
  have s0 := szS_ok hw.1 hL a0
  obtain ⟨a1, e1, h⟩ := szc h
  rw [e1]
  have s1 := szS_ok hw.2 s0.2 a1
  exact ⟨⟨s0.1, s1.1⟩, s1.2⟩
theorem to_Write (x : DWrite) : l_toWrite x = x := rfl
theorem eq_Write (x : DWrite) : l_eqWrite x x = true := by unfold l_eqWrite; simp only [beq_self_eq_true, cond_true, decide_true]
theorem szok_Fill {x : DFill} {L : Int} (hw : wf_Fill x) (hL : 0 ≤ L ∧ L ≤ 1048576) (h : ¬ l_szFill x L < 0) : ok_Fill x ∧ 0 ≤ l_szFill x L ∧ l_szFill x L ≤ 1048576 := by
  unfold l_szFill at h ⊢
  obtain ⟨a0, e0, h⟩ := szc h
  rw [e0]
  have s0 := szS_ok hw hL a0
  exact ⟨s0.1, s0.2⟩
theorem to_Fill (x : DFill) : l_toFill x = x := rfl
theorem eq_Fill (x : DFill) : l_eqFill x x = true := by unfold l_eqFill; simp only [beq_self_eq_true, cond_true, decide_true]
theorem szok_WriteS {x : List DWrite} {L : Int} (hw : (wfL wf_Write) x) (hL : 0 ≤ L ∧ L ≤ 1048576) (h : ¬ l_szWriteS x L < 0) : (okL ok_Write) x ∧ 0 ≤ l_szWriteS x L ∧ l_szWriteS x L ≤ 1048576 := szLL_ok d_Write (f := l_szWrite) szok_Write hw hL h
theorem to_WriteS (x : List DWrite) : l_toWriteS x = x := toL_id d_Write (f := fun s => s) (fun _ => rfl) x
theorem eq_WriteS (x : List DWrite) : l_eqWriteS x x = true := eqL_refl d_Write (f := l_eqWrite) eq_Write x
def mk_Write (_ : DWrite) (k : Int) : Int × DWrite := (IntKind.wrap .i64 ((IntKind.wrap .i64 ((IntKind.wrap .i64 (k + 1)) + 1)) + 1), ⟨l_markText k, l_markText (IntKind.wrap .i64 (k + 1)), decide (Int.tmod (IntKind.wrap .i64 ((IntKind.wrap .i64 (k + 1)) + 1)) 3 = 0)⟩)
theorem mkc_Write (x : DWrite) (k : Int) (h0 : 0 ≤ k) (h1 : k + ((3 : Nat) : Int) ≤ 4611686018427387904) : (mk_Write x k).1 = k + ((3 : Nat) : Int) := by
  unfold mk_Write
  simp only [IntKind.wrap_i64]; omega
theorem mark_WriteS (a : List DWrite) (k : Int) : l_markWriteS a k = mkL mk_Write a k := by
  unfold l_markWriteS
  exact markE (d := d_Write) (mk := mk_Write) (fun i k xs hi => by unfold B_l_markWriteS_0; simp only [List.set_set, getD_set_self hi, mk_Write]) a k
theorem held_WriteS (a : List DWrite) (k : Int) (h0 : 0 ≤ k) (h1 : k + (cntL (fun _ => 3) a : Int) ≤ 4611686018427387904) : l_heldWriteS (l_markWriteS a k).2 k = (l_markWriteS a k).1 := by
  rw [mark_WriteS]
  unfold l_heldWriteS
  exact heldE (d := d_Write) (mk := mk_Write) (c := fun _ => 3) a k mkc_Write (fun i k x hx _ _ => by unfold B_l_heldWriteS_0; simp only [hx, mk_Write, eq_self, decide_true, beq_self_eq_true, cond_true]) h0 h1
theorem mh_WriteS (a : List DWrite) (k : Int) (h0 : 0 ≤ k) (h1 : k + (((3 : Nat) * a.length : Nat) : Int) ≤ 4611686018427387904) : l_heldWriteS (l_markWriteS a k).2 k = (l_markWriteS a k).1 ∧ (l_markWriteS a k).1 = k + (((3 : Nat) * a.length : Nat) : Int) ∧ (l_markWriteS a k).2.length = a.length := by
  rw [← cntL_const] at h1 ⊢
  refine ⟨held_WriteS a k h0 h1, ?_, ?_⟩
  · rw [mark_WriteS]; exact mkL_cnt mkc_Write a k h0 h1
  · rw [mark_WriteS]; exact mkL_length _ _ _
theorem rf_markWriteS (a : List DWrite) (k : Int) (h : k ≤ 9223372036854775807) : (l_markWriteS a k).1 ≤ 9223372036854775807 := by
  unfold l_markWriteS
  refine loopM_val (fun _ (s : Int × List DWrite) => s.1 ≤ 9223372036854775807) (fun (v : Int × List DWrite) => v.1 ≤ 9223372036854775807) h (fun s hs => hs) ?_
  rintro j ⟨k, x⟩ _ _ hk
  exact wrap_le _
theorem rf_heldWriteS (a : List DWrite) (k : Int) (h : k ≤ 9223372036854775807) : l_heldWriteS a k ≤ 9223372036854775807 := by
  unfold l_heldWriteS
  refine loopM_val (fun _ (s : Int) => s ≤ 9223372036854775807) (fun v => v ≤ 9223372036854775807) h (fun s hs => hs) ?_
  intro j k' _ _ hk
  unfold B_l_heldWriteS_0
  dsimp only
  cases (((a.getD j d_Write).Key) == l_markText k') <;> cases (((a.getD j d_Write).Val) == l_markText (IntKind.wrap .i64 (k' + 1))) <;> cases (((a.getD j d_Write).Gone) == decide (Int.tmod (IntKind.wrap .i64 ((IntKind.wrap .i64 (k' + 1)) + 1)) 3 = 0)) <;> first | exact wrap_le _ | exact neg1_le
theorem IndexFunc_Idx (xs : List DIdx) (f : DIdx → Bool) : g_slices_IndexFunc_Idx xs f = idxF f d_Idx xs := rfl
theorem ContainsFunc_Write (xs : List DWrite) (f : DWrite → Bool) : g_slices_ContainsFunc_Write xs f = xs.any f := idxF_any f d_Write xs
theorem ContainsFunc_string (xs : List Str) (f : Str → Bool) : g_slices_ContainsFunc_string xs f = xs.any f := idxF_any f d_Str xs
theorem Contains_string (xs : List Str) (y : Str) : g_slices_Contains_string xs y = xs.any (fun x => y == x) := idxF_any _ d_Str xs
def mk_String (_ : Str) (k : Int) : Int × Str := (IntKind.wrap .i64 (k + 1), l_markText k)
theorem mkc_String (x : Str) (k : Int) (h0 : 0 ≤ k) (h1 : k + ((1 : Nat) : Int) ≤ 4611686018427387904) : (mk_String x k).1 = k + ((1 : Nat) : Int) := by
  unfold mk_String
  simp only [IntKind.wrap_i64]; omega
theorem mark_StringS (a : List Str) (k : Int) : l_markStringS a k = mkL mk_String a k := by
  unfold l_markStringS
  exact markE (d := d_Str) (mk := mk_String) (fun i k xs hi => by unfold B_l_markStringS_0; simp only [List.set_set, getD_set_self hi, mk_String]) a k
theorem held_StringS (a : List Str) (k : Int) (h0 : 0 ≤ k) (h1 : k + (cntL (fun _ => 1) a : Int) ≤ 4611686018427387904) : l_heldStringS (l_markStringS a k).2 k = (l_markStringS a k).1 := by
  rw [mark_StringS]
  unfold l_heldStringS
  exact heldE (d := d_Str) (mk := mk_String) (c := fun _ => 1) a k mkc_String (fun i k x hx _ _ => by unfold B_l_heldStringS_0; simp only [hx, mk_String, eq_self, decide_true, beq_self_eq_true, cond_true]) h0 h1
theorem mh_StringS (a : List Str) (k : Int) (h0 : 0 ≤ k) (h1 : k + (((1 : Nat) * a.length : Nat) : Int) ≤ 4611686018427387904) : l_heldStringS (l_markStringS a k).2 k = (l_markStringS a k).1 ∧ (l_markStringS a k).1 = k + (((1 : Nat) * a.length : Nat) : Int) ∧ (l_markStringS a k).2.length = a.length := by
  rw [← cntL_const] at h1 ⊢
  refine ⟨held_StringS a k h0 h1, ?_, ?_⟩
  · rw [mark_StringS]; exact mkL_cnt mkc_String a k h0 h1
  · rw [mark_StringS]; exact mkL_length _ _ _
theorem rf_markStringS (a : List Str) (k : Int) (h : k ≤ 9223372036854775807) : (l_markStringS a k).1 ≤ 9223372036854775807 := by
  unfold l_markStringS
  refine loopM_val (fun _ (s : Int × List Str) => s.1 ≤ 9223372036854775807) (fun (v : Int × List Str) => v.1 ≤ 9223372036854775807) h (fun s hs => hs) ?_
  rintro j ⟨k, x⟩ _ _ hk
  exact wrap_le _
def mk_Idx (_ : DIdx) (k : Int) : Int × DIdx := (IntKind.wrap .i64 ((IntKind.wrap .i64 ((IntKind.wrap .i64 (k + 1)) + 1)) + 1), ⟨l_markText k, IntKind.wrap .i64 (k + 1), IntKind.wrap .i64 ((IntKind.wrap .i64 (k + 1)) + 1)⟩)
theorem mkc_Idx (x : DIdx) (k : Int) (h0 : 0 ≤ k) (h1 : k + ((3 : Nat) : Int) ≤ 4611686018427387904) : (mk_Idx x k).1 = k + ((3 : Nat) : Int) := by
  unfold mk_Idx
  simp only [IntKind.wrap_i64]; omega
theorem mark_IdxS (a : List DIdx) (k : Int) : l_markIdxS a k = mkL mk_Idx a k := by
  unfold l_markIdxS
  exact markE (d := d_Idx) (mk := mk_Idx) (fun i k xs hi => by unfold B_l_markIdxS_0; simp only [List.set_set, getD_set_self hi, mk_Idx]) a k
theorem held_IdxS (a : List DIdx) (k : Int) (h0 : 0 ≤ k) (h1 : k + (cntL (fun _ => 3) a : Int) ≤ 4611686018427387904) : l_heldIdxS (l_markIdxS a k).2 k = (l_markIdxS a k).1 := by
  rw [mark_IdxS]
  unfold l_heldIdxS
  exact heldE (d := d_Idx) (mk := mk_Idx) (c := fun _ => 3) a k mkc_Idx (fun i k x hx _ _ => by unfold B_l_heldIdxS_0; simp only [hx, mk_Idx, eq_self, decide_true, beq_self_eq_true, cond_true]) h0 h1
theorem mh_IdxS (a : List DIdx) (k : Int) (h0 : 0 ≤ k) (h1 : k + (((3 : Nat) * a.length : Nat) : Int) ≤ 4611686018427387904) : l_heldIdxS (l_markIdxS a k).2 k = (l_markIdxS a k).1 ∧ (l_markIdxS a k).1 = k + (((3 : Nat) * a.length : Nat) : Int) ∧ (l_markIdxS a k).2.length = a.length := by
  rw [← cntL_const] at h1 ⊢
  refine ⟨held_IdxS a k h0 h1, ?_, ?_⟩
  · rw [mark_IdxS]; exact mkL_cnt mkc_Idx a k h0 h1
  · rw [mark_IdxS]; exact mkL_length _ _ _
theorem rf_markIdxS (a : List DIdx) (k : Int) (h : k ≤ 9223372036854775807) : (l_markIdxS a k).1 ≤ 9223372036854775807 := by
  unfold l_markIdxS
  refine loopM_val (fun _ (s : Int × List DIdx) => s.1 ≤ 9223372036854775807) (fun (v : Int × List DIdx) => v.1 ≤ 9223372036854775807) h (fun s hs => hs) ?_
  rintro j ⟨k, x⟩ _ _ hk
  exact wrap_le _
theorem mh_Table (a : DTable) (k : Int) (h0 : 0 ≤ k) (h1 : k + ((1 * a.Cols.length + 3 * a.Idxs.length : Nat) : Int) ≤ 4611686018427387904) : l_heldTable (l_markTable a k).2 k = (l_markTable a k).1 ∧ (l_markTable a k).1 = k + ((1 * a.Cols.length + 3 * a.Idxs.length : Nat) : Int) := by
  obtain ⟨e0, n0, _⟩ := mh_StringS a.Cols k oM oM
  obtain ⟨e1, n1, _⟩ := mh_IdxS a.Idxs (k + ((1 * a.Cols.length : Nat) : Int)) oM oM
  have q1 : l_heldTable (l_markTable a k).2 k = (k + ((1 * a.Cols.length : Nat) : Int)) + ((3 * a.Idxs.length : Nat) : Int) := by unfold l_heldTable l_markTable; simp only [e0, n0, e1, n1, decide_eq_false (show ¬ k + ((1 * a.Cols.length : Nat) : Int) < 0 by omega), decide_eq_false (show ¬ (k + ((1 * a.Cols.length : Nat) : Int)) + ((3 * a.Idxs.length : Nat) : Int) < 0 by omega), cond_false]
  have q2 : (l_markTable a k).1 = (k + ((1 * a.Cols.length : Nat) : Int)) + ((3 * a.Idxs.length : Nat) : Int) := by unfold l_markTable; simp only [n0, n1]
  exact ⟨q1.trans q2.symm, q2.trans oM⟩
theorem rf_markTable (a : DTable) (k : Int) (h : k ≤ 9223372036854775807) : (l_markTable a k).1 ≤ 9223372036854775807 := by
  unfold l_markTable
  exact (rf_markIdxS _ _ (rf_markStringS _ _ h))
theorem within_eq : i_within = s_l1In := rfl
theorem f_l1In {n lo hi : Int} (h : s_l1In n lo hi = true) : lo ≤ n ∧ n ≤ hi := by
  unfold s_l1In at h
  obtain ⟨h1, h2⟩ := of_cond_f h
  exact ⟨of_decide_eq_true h1, of_decide_eq_true h2⟩
theorem f_within {n lo hi : Int} (h : i_within n lo hi = true) : lo ≤ n ∧ n ≤ hi := f_l1In h
theorem indexByte_neg (l : List UInt8) (c : UInt8) : decide (Lib.indexByte l c < 0) = !(l.contains c) := by
  induction l with
  | nil => rfl
  | cons b l ih =>
    have hge := Lib.indexByte_ge l c
    rw [Bool.eq_iff_iff] at ih ⊢
    simp only [decide_eq_true_eq, Bool.not_eq_true', List.contains_cons] at ih ⊢
    unfold Lib.indexByte
    by_cases hb : b = c
    · subst hb; simp
    · have hb1 : (b == c) = false := by simpa using hb
      have hb2 : (c == b) = false := by simpa using fun h => hb h.symm
      rw [hb1, hb2]
      simp only [Bool.false_or, Bool.false_eq_true, if_false]
      split
      · rename_i h
        have : Lib.indexByte l c = -1 := by simpa using h
        rw [← ih]; omega
      · rename_i h
        have : Lib.indexByte l c ≠ -1 := by simpa using h
        constructor
        · intro h; omega
        · intro h; have := ih.2 h; omega
theorem byte_back (b : UInt8) : ((b.toNat : Int)).toNat.toUInt8 = b := by simp
theorem idxB_neg (s : Str) (b : UInt8) : decide (idxB s (b.toNat : Int) < 0) = !(s.contains b) := by
  unfold idxB
  rw [byte_back, indexByte_neg]
def byteOk (more : Str) (b : UInt8) : Bool := i_isLowerOrDigit (b.toNat : Int) || more.contains b
theorem hasBytes_eq (s more : Str) : i_hasBytes s more = s.all (byteOk more) := by
  unfold i_hasBytes
  rw [allE (0 : UInt8) (byteOk more) (r := false) fun k => by
    unfold B_i_hasBytes_0 byteOk g_strings_IndexByte g_internal_stringslite_IndexByte
    rw [idxB_neg]
    cases i_isLowerOrDigit ((s.getD k 0).toNat : Int) <;> cases more.contains (s.getD k 0) <;> rfl]
  cases s.all (byteOk more) <;> rfl
theorem toNat_eq (a b : UInt8) : decide ((a.toNat : Int) = (b.toNat : Int)) = (a == b) := by
  rw [Bool.eq_iff_iff, decide_eq_true_iff, beq_iff_eq]
  constructor
  · intro h; exact UInt8.toNat.inj oM
  · intro h; rw [h]
theorem l3B1 {T : Type} (s more : Str) (k : Nat) (x0 : Bool) (fr : Bool → T) (fd : Bool → T) : loopE (loopM (B_s_l3Bytes_1 s more k) (more.length - 0) 0 x0) fr fd = fd (x0 || more.contains (s.getD k 0)) := by
  rw [orE (0 : UInt8) (fun b => (s.getD k 0) == b) fun j x => by
    unfold B_s_l3Bytes_1
    rw [toNat_eq]
    cases x <;> rfl]
  rw [List.contains_eq_any_beq]
theorem l3Bytes_eq (s more : Str) : s_l3Bytes s more = s.all (byteOk more) := by
  unfold s_l3Bytes
  rw [allE (0 : UInt8) (byteOk more) (r := false) fun k => by
    unfold B_s_l3Bytes_0 byteOk i_isLowerOrDigit
    simp only [l3B1]
    cases decide (97 ≤ ((s.getD k 0).toNat : Int)) <;> cases decide (((s.getD k 0).toNat : Int) ≤ 122) <;> cases decide (48 ≤ ((s.getD k 0).toNat : Int)) <;> cases decide (((s.getD k 0).toNat : Int) ≤ 57) <;> cases more.contains (s.getD k 0) <;> rfl]
  cases s.all (byteOk more) <;> rfl
theorem GoodKey_eq (s : Str) : i_GoodKey s = s_l3Key s := by
  unfold i_GoodKey s_l3Key
  rw [hasBytes_eq, l3Bytes_eq, within_eq]
theorem GoodFill_eq (f : DFill) : i_GoodFill f = s_GoodFill f := by
  unfold i_GoodFill s_GoodFill
  rw [GoodKey_eq]
theorem GoodVal_eq (s : Str) : i_GoodVal s = s_l3Val s := by
  unfold i_GoodVal s_l3Val
  rw [hasBytes_eq, l3Bytes_eq]

theorem writeKeys_eq (l : List DWrite) : i_writeKeys l = l.map (·.Key) := by
  unfold i_writeKeys
  rw [mapE (body := B_i_writeKeys_0 l) (xs := l) d_Write (fun w => w.Key) fun k x _ => rfl]
  rfl
def rising (ks : List Str) (k : Nat) : Bool := bif decide (0 < (k : Int)) then sLt (ks.getD ((IntKind.wrap .i64 ((k : Int) - 1)).toNat) d_Str) (ks.getD k d_Str) else true
theorem areRising_eq (ks : List Str) : i_areRising ks = (List.range ks.length).all fun k => s_l3Key (ks.getD k d_Str) && rising ks k := by
  unfold i_areRising
  rw [loopU (fun k => s_l3Key (ks.getD k d_Str) && rising ks k) (r := false) fun k _ => by
    unfold B_i_areRising_0 rising
    rw [GoodKey_eq, sLe_not]
    cases s_l3Key (ks.getD k d_Str) <;> cases decide (0 < (k : Int)) <;> cases sLt (ks.getD ((IntKind.wrap .i64 ((k : Int) - 1)).toNat) d_Str) (ks.getD k d_Str) <;> rfl]
  cases (List.range ks.length).all fun k => s_l3Key (ks.getD k d_Str) && rising ks k <;> rfl
theorem l3Writes_eq (l : List DWrite) : s_l3Writes l = (((List.range l.length).all fun k => s_l3Write ((l.getD k d_Write).Key) ((l.getD k d_Write).Val) ((l.getD k d_Write).Gone) && rising (l.map (·.Key)) k) && decide ((l.length : Int) ≤ 24)) := by
  have hg : ∀ k, (l.map (·.Key)).getD k d_Str = (l.getD k d_Write).Key := by
    intro k
    simp only [List.getD_eq_getElem?_getD, List.getElem?_map]
    cases l[k]? <;> rfl
  unfold s_l3Writes
  rw [loopU (fun k => s_l3Write ((l.getD k d_Write).Key) ((l.getD k d_Write).Val) ((l.getD k d_Write).Gone) && rising (l.map (·.Key)) k) (r := false) fun k _ => by
    unfold B_s_l3Writes_0 rising
    rw [hg, hg]
    cases s_l3Write ((l.getD k d_Write).Key) ((l.getD k d_Write).Val) ((l.getD k d_Write).Gone) <;> cases decide (0 < (k : Int)) <;> cases sLt (l.getD ((IntKind.wrap .i64 ((k : Int) - 1)).toNat) d_Write).Key (l.getD k d_Write).Key <;> rfl]
  cases ((List.range l.length).all fun k => s_l3Write ((l.getD k d_Write).Key) ((l.getD k d_Write).Val) ((l.getD k d_Write).Gone) && rising (l.map (·.Key)) k) <;> rfl
theorem and_all {α : Type} (l : List α) (p q : α → Bool) : (l.all p && l.all q) = l.all fun x => p x && q x := by
  induction l with
  | nil => rfl
  | cons x l ih =>
    simp only [List.all_cons, ← ih]
    cases p x <;> cases q x <;> cases l.all p <;> rfl
theorem isStored_eq (v : Str) (g : Bool) : i_isStored v g = (s_l3Val v && (!g || v == ([] : Str))) := by
  unfold i_isStored
  rw [GoodVal_eq]
  cases s_l3Val v <;> cases g <;> cases (v == ([] : Str)) <;> rfl
theorem l3Write_eq (k v : Str) (g : Bool) : s_l3Write k v g = (s_l3Key k && i_isStored v g) := by
  rw [isStored_eq]
  unfold s_l3Write
  cases s_l3Key k <;> cases s_l3Val v <;> cases g <;> cases (v == ([] : Str)) <;> rfl
theorem GoodWrites_eq (l : List DWrite) : i_GoodWrites l = s_l3Writes l := by
  have hg : ∀ k, (l.map (·.Key)).getD k d_Str = (l.getD k d_Write).Key := by
    intro k
    simp only [List.getD_eq_getElem?_getD, List.getElem?_map]
    cases l[k]? <;> rfl
  unfold i_GoodWrites
  rw [writeKeys_eq, areRising_eq, l3Writes_eq, ContainsFunc_Write, List.length_map]
  have h1 : (!(l.any fun y => i_GoodWrites_c1 y)) = (List.range l.length).all fun k => i_isStored (l.getD k d_Write).Val (l.getD k d_Write).Gone := by
    rw [List.not_any_eq_all_not, ← range_all d_Write]
    unfold i_GoodWrites_c1
    simp only [Bool.not_not]
  rw [h1]
  have h2 : ((List.range l.length).all fun k => s_l3Write ((l.getD k d_Write).Key) ((l.getD k d_Write).Val) ((l.getD k d_Write).Gone) && rising (l.map (·.Key)) k) = (((List.range l.length).all fun k => s_l3Key ((l.map (·.Key)).getD k d_Str) && rising (l.map (·.Key)) k) && (List.range l.length).all fun k => i_isStored (l.getD k d_Write).Val (l.getD k d_Write).Gone) := by
    rw [and_all]
    congr 1; funext k
    rw [l3Write_eq, hg]
    cases s_l3Key (l.getD k d_Write).Key <;> cases i_isStored (l.getD k d_Write).Val (l.getD k d_Write).Gone <;> cases rising (l.map (·.Key)) k <;> rfl
  rw [h2]
  cases decide ((l.length : Int) ≤ 24) <;> cases ((List.range l.length).all fun k => s_l3Key ((l.map (·.Key)).getD k d_Str) && rising (l.map (·.Key)) k) <;> cases ((List.range l.length).all fun k => i_isStored (l.getD k d_Write).Val (l.getD k d_Write).Gone) <;> rfl
theorem isRows_eq (l : List DWrite) : i_isRows l = (s_l3Writes l && l.all fun w => !w.Gone) := by
  unfold i_isRows
  rw [GoodWrites_eq, ContainsFunc_Write, List.not_any_eq_all_not]
  cases s_l3Writes l <;> rfl
theorem letters_eq : i_areLetters = s_l24Letters := by
  funext s m
  unfold i_areLetters s_l24Letters
  rfl
theorem isField_eq (s : Str) : i_isField s = s_l25Field s := by
  unfold i_isField s_l25Field
  rw [hasBytes_eq, l3Bytes_eq, within_eq]
theorem l25Good_eq (t : DTable) (r : DRow) : s_l25Good t r = (r.Vals.all s_l25Field && decide ((r.Vals.length : Int) = (t.Cols.length : Int))) := by
  unfold s_l25Good
  rw [allE d_Str s_l25Field (r := false) fun k => rfl]
  cases r.Vals.all s_l25Field <;> rfl
theorem isRow_eq (t : DTable) (r : DRow) : i_Table_isRow t r = s_l25Good t r := by
  rw [l25Good_eq]
  unfold i_Table_isRow
  rw [ContainsFunc_string, List.not_any_eq_all_not]
  unfold i_Table_isRow_c1
  simp only [Bool.not_not, isField_eq]
  cases decide ((r.Vals.length : Int) = (t.Cols.length : Int)) <;> cases (r.Vals.all fun x => s_l25Field x) <;> rfl
theorem l24At_neg (l : List Str) (s : Str) : decide (0 ≤ s_l24At l s) = l.any fun x => x == s := by
  have : s_l24At l s = idxF (fun x => x == s) d_Str l := rfl
  rw [this, idxF_any]
def colOk (l : List Str) (k : Nat) : Bool := s_l24Letters (l.getD k d_Str) 3 && !((l.take k).any fun x => x == l.getD k d_Str)
theorem l24Cols_eq (l : List Str) : s_l24Cols l = ((List.range l.length).all (colOk l) && s_l1In (l.length : Int) 2 4) := by
  unfold s_l24Cols
  rw [loopU (colOk l) (r := false) fun k _ => by
    unfold B_s_l24Cols_0 colOk
    rw [l24At_neg]
    cases s_l24Letters (l.getD k d_Str) 3 <;> cases ((l.take k).any fun x => x == l.getD k d_Str) <;> rfl]
  cases (List.range l.length).all (colOk l) <;> rfl
theorem GoodTable_eq (t : DTable) : i_GoodTable t = s_GoodTable t := by
  unfold i_GoodTable s_GoodTable
  rw [l24Cols_eq, letters_eq, within_eq]
  rw [loopU (colOk t.Cols) (r := false) fun k _ => by
    unfold B_i_GoodTable_0 colOk
    rw [Contains_string, letters_eq]
    rw [show ((t.Cols.take k).any fun x => t.Cols.getD k d_Str == x) = ((t.Cols.take k).any fun x => x == t.Cols.getD k d_Str) by congr 1; funext x; rw [Bool.beq_comm]]
    cases s_l24Letters (t.Cols.getD k d_Str) 3 <;> cases ((t.Cols.take k).any fun x => x == t.Cols.getD k d_Str) <;> rfl]
  have hb : B_i_GoodTable_1 t = B_s_GoodTable_0 t := by
    funext k u
    unfold B_i_GoodTable_1 B_s_GoodTable_0 i_isStage
    rw [letters_eq, within_eq, sLe_not]
    cases s_l24Letters ((t.Idxs.getD k d_Idx).Name) 1 <;> cases s_l1In ((t.Idxs.getD k d_Idx).Col) 1 (IntKind.wrap .i64 ((t.Cols.length : Int) - 1)) <;> cases s_l1In ((t.Idxs.getD k d_Idx).Stage) 0 3 <;> cases decide (0 < (k : Int)) <;> cases sLt ((t.Idxs.getD ((IntKind.wrap .i64 ((k : Int) - 1)).toNat) d_Idx).Name) ((t.Idxs.getD k d_Idx).Name) <;> rfl
  rw [hb]
  cases s_l24Letters t.Name 1 <;> cases s_l1In (t.Cols.length : Int) 2 4 <;> cases decide (3 < (t.Idxs.length : Int)) <;> cases (List.range t.Cols.length).all (colOk t.Cols) <;> rfl
theorem GoodRow_eq (t : DTable) (r : DRow) : i_GoodRow t r = s_GoodRow t r := by
  unfold i_GoodRow s_GoodRow
  rw [GoodTable_eq, isRow_eq]
theorem f_s_GoodTable {t : DTable} (h : s_GoodTable t = true) : 2 ≤ (t.Cols.length : Int) ∧ (t.Cols.length : Int) ≤ 4 ∧ (t.Idxs.length : Int) ≤ 3 := by
  unfold s_GoodTable at h
  obtain ⟨_, h⟩ := of_cond_f h
  obtain ⟨h1, h⟩ := of_cond_f h
  rw [l24Cols_eq, Bool.and_eq_true] at h1
  have h2 := f_l1In h1.2
  refine ⟨h2.1, h2.2, ?_⟩
  cases h3 : decide (3 < (t.Idxs.length : Int))
  · have := of_decide_eq_false h3; omega
  · rw [h3] at h; cases h
theorem f_i_GoodTable {t : DTable} (h : i_GoodTable t = true) : 2 ≤ (t.Cols.length : Int) ∧ (t.Cols.length : Int) ≤ 4 ∧ (t.Idxs.length : Int) ≤ 3 := f_s_GoodTable (GoodTable_eq t ▸ h)
theorem f_s_l25Good' {t : DTable} {r : DRow} (h : s_l25Good t r = true) : r.Vals.length = t.Cols.length := by
  rw [l25Good_eq, Bool.and_eq_true] at h
  have := of_decide_eq_true h.2
  omega
theorem findIdx_eq (t : DTable) (s : Str) : i_Table_findIdx t s = s_l24Idx t s := by
  unfold i_Table_findIdx
  rw [IndexFunc_Idx]
  rfl
theorem l24Idx_idxF (t : DTable) (n : Str) : s_l24Idx t n = idxF (fun y => i_Table_findIdx_c1 y n) d_Idx t.Idxs := rfl
theorem l24Idx_spec (t : DTable) (n : Str) : (s_l24Idx t n = -1 ∧ ∀ x ∈ t.Idxs, x.Name ≠ n) ∨ ∃ (k : Nat) (_ : k < t.Idxs.length), s_l24Idx t n = (k : Int) ∧ (t.Idxs.getD k d_Idx).Name = n ∧ ∀ j, j < k → (t.Idxs.getD j d_Idx).Name ≠ n := by
  rw [l24Idx_idxF]
  rcases idxF_spec (fun y => i_Table_findIdx_c1 y n) d_Idx t.Idxs with ⟨h1, h2⟩ | ⟨k, hk, h1, h2, h3⟩
  · exact .inl ⟨h1, fun x hx e => by have := h2 x hx; unfold i_Table_findIdx_c1 at this; rw [e, beq_self_eq_true] at this; cases this⟩
  · refine .inr ⟨k, hk, h1, ?_, fun j hj e => ?_⟩
    · rw [getD_eq hk]; unfold i_Table_findIdx_c1 at h2; exact eq_of_beq h2
    · have := h3 j hj; rw [getD_eq oM] at e; unfold i_Table_findIdx_c1 at this; rw [e, beq_self_eq_true] at this; cases this
theorem rf_s_l24Idx (t : DTable) (n : Str) : -1 ≤ s_l24Idx t n ∧ s_l24Idx t n < (t.Idxs.length : Int) := by
  rcases l24Idx_spec t n with ⟨h, _⟩ | ⟨k, hk, h, _⟩ <;> omega
theorem rf_i_findIdx (t : DTable) (n : Str) : -1 ≤ i_Table_findIdx t n ∧ i_Table_findIdx t n < (t.Idxs.length : Int) := by rw [findIdx_eq]; exact rf_s_l24Idx t n
def idxOk (t : DTable) (k : Nat) : Bool := s_l24Letters (t.Idxs.getD k d_Idx).Name 1 && s_l1In (t.Idxs.getD k d_Idx).Col 1 (IntKind.wrap .i64 ((t.Cols.length : Int) - 1)) && s_l1In (t.Idxs.getD k d_Idx).Stage 0 3 && bif decide (0 < (k : Int)) then sLt (t.Idxs.getD ((IntKind.wrap .i64 ((k : Int) - 1)).toNat) d_Idx).Name (t.Idxs.getD k d_Idx).Name else true
theorem s_GoodTable_eq (t : DTable) : s_GoodTable t = (s_l24Letters t.Name 1 && s_l24Cols t.Cols && decide (t.Idxs.length ≤ 3) && (List.range t.Idxs.length).all (idxOk t)) := by
  unfold s_GoodTable
  rw [loopU (idxOk t) (r := false) fun k _ => by
    unfold B_s_GoodTable_0 idxOk
    cases s_l24Letters (t.Idxs.getD k d_Idx).Name 1 <;> cases s_l1In (t.Idxs.getD k d_Idx).Col 1 (IntKind.wrap .i64 ((t.Cols.length : Int) - 1)) <;> cases s_l1In (t.Idxs.getD k d_Idx).Stage 0 3 <;> cases decide (0 < (k : Int)) <;> cases sLt (t.Idxs.getD ((IntKind.wrap .i64 ((k : Int) - 1)).toNat) d_Idx).Name (t.Idxs.getD k d_Idx).Name <;> rfl]
  have e : decide (t.Idxs.length ≤ 3) = !decide (3 < (t.Idxs.length : Int)) := by
    by_cases h : t.Idxs.length ≤ 3
    · rw [decide_eq_true h, decide_eq_false oM]; rfl
    · rw [decide_eq_false h, decide_eq_true oM]; rfl
  rw [e]
  cases s_l24Letters t.Name 1 <;> cases s_l24Cols t.Cols <;> cases decide (3 < (t.Idxs.length : Int)) <;> cases (List.range t.Idxs.length).all (idxOk t) <;> rfl
def letter (b : UInt8) : Bool := !decide ((b.toNat : Int) < 97) && !decide (122 < (b.toNat : Int))
theorem l24Letters_eq (s : Str) (m : Int) : s_l24Letters s m = (s.all letter && decide (1 ≤ (s.length : Int)) && decide ((s.length : Int) ≤ m)) := by
  unfold s_l24Letters
  rw [allE (0 : UInt8) letter (r := false) fun k => by
    unfold B_s_l24Letters_0 letter
    cases decide (((s.getD k 0).toNat : Int) < 97) <;> cases decide (122 < ((s.getD k 0).toNat : Int)) <;> rfl]
  cases s.all letter <;> cases decide (1 ≤ (s.length : Int)) <;> rfl
theorem letters_len {s : Str} {m : Int} (h : s_l24Letters s m = true) : 1 ≤ (s.length : Int) ∧ (s.length : Int) ≤ m := by
  rw [l24Letters_eq] at h
  simp only [Bool.and_eq_true, decide_eq_true_eq] at h
  exact ⟨h.1.2, h.2⟩
structure GoodT (t : DTable) : Prop where
  name : t.Name.length = 1
  cols : 2 ≤ t.Cols.length ∧ t.Cols.length ≤ 4
  idxs : t.Idxs.length ≤ 3
  idx : ∀ k, k < t.Idxs.length → (t.Idxs.getD k d_Idx).Name.length = 1 ∧ 1 ≤ (t.Idxs.getD k d_Idx).Col ∧ (t.Idxs.getD k d_Idx).Col < (t.Cols.length : Int) ∧ 0 ≤ (t.Idxs.getD k d_Idx).Stage ∧ (t.Idxs.getD k d_Idx).Stage ≤ 3
  rise : ∀ k, k + 1 < t.Idxs.length → (t.Idxs.getD k d_Idx).Name < (t.Idxs.getD (k + 1) d_Idx).Name
theorem GoodT.of {t : DTable} (h : s_GoodTable t = true) : GoodT t := by
  have hf := f_s_GoodTable h
  rw [s_GoodTable_eq] at h
  simp only [Bool.and_eq_true, decide_eq_true_eq, List.all_eq_true, List.mem_range] at h
  obtain ⟨⟨⟨h1, h2⟩, h3⟩, h4⟩ := h
  have h5 : ∀ k, k < t.Idxs.length → _ := fun k hk => h4 k hk
  unfold idxOk at h5
  simp only [Bool.and_eq_true] at h5
  refine ⟨by have := letters_len h1; omega, oM, h3, fun k hk => ?_, fun k hk => ?_⟩
  · obtain ⟨⟨⟨a, b⟩, c⟩, d⟩ := h5 k hk
    have a := letters_len a
    have b := f_l1In b
    have c := f_l1In c
    rw [wrap_in oM] at b
    omega
  · have d := (h5 (k + 1) hk).2
    rw [wrap_in oM, decide_eq_true (show 0 < ((k + 1 : Nat) : Int) by omega)] at d
    have e : (((k + 1 : Nat) : Int) - 1).toNat = k := by omega
    rw [e] at d
    exact (sLt_iff _ _).1 d
theorem f_i_hasIdx' {t : DTable} {n : Str} (h : i_hasIdx t n = true) : (2 ≤ (t.Cols.length : Int) ∧ (t.Cols.length : Int) ≤ 4 ∧ (t.Idxs.length : Int) ≤ 3) ∧ (0 ≤ i_Table_findIdx t n ∧ i_Table_findIdx t n < (t.Idxs.length : Int)) ∧ 1 ≤ (i_Table_idx t n).Col ∧ (i_Table_idx t n).Col < (t.Cols.length : Int) := by
  unfold i_hasIdx at h
  obtain ⟨h1, h2⟩ := of_cond_f h
  have h2 := of_decide_eq_true h2
  have h3 := rf_i_findIdx t n
  rw [GoodTable_eq] at h1
  have hg := GoodT.of h1
  refine ⟨f_s_GoodTable h1, ⟨h2, h3.2⟩, ?_⟩
  unfold i_Table_idx
  have := hg.idx (i_Table_findIdx t n).toNat oM
  omega
theorem f_s_IdxAt' {t : DTable} {n : Str} (h : (s_IdxAt t n).2 = true) : (2 ≤ (t.Cols.length : Int) ∧ (t.Cols.length : Int) ≤ 4 ∧ (t.Idxs.length : Int) ≤ 3) ∧ (0 ≤ s_l24Idx t n ∧ s_l24Idx t n < (t.Idxs.length : Int)) ∧ 1 ≤ (s_IdxAt t n).1.Col ∧ (s_IdxAt t n).1.Col < (t.Cols.length : Int) := by
  unfold s_IdxAt at h ⊢
  cases h1 : s_GoodTable t
  · rw [h1] at h; cases h
  · rw [h1] at h
    simp only [cond_true] at h ⊢
    cases h2 : decide (s_l24Idx t n < 0)
    · simp only [cond_false]
      have h2 := of_decide_eq_false h2
      have h3 := rf_s_l24Idx t n
      have := (GoodT.of h1).idx (s_l24Idx t n).toNat oM
      exact ⟨f_s_GoodTable h1, ⟨by omega, h3.2⟩, by omega⟩
    · rw [h2] at h; cases h
theorem hasIdx_eq (t : DTable) (n : Str) : i_hasIdx t n = (s_IdxAt t n).2 := by
  unfold i_hasIdx s_IdxAt
  rw [GoodTable_eq, findIdx_eq]
  cases s_GoodTable t
  · rfl
  · simp only [cond_true]
    by_cases h : s_l24Idx t n < 0
    · rw [decide_eq_true h, decide_eq_false (show ¬ 0 ≤ s_l24Idx t n by omega)]; rfl
    · rw [decide_eq_false h, decide_eq_true (show 0 ≤ s_l24Idx t n by omega)]; rfl
theorem IdxAt_fst {t : DTable} {n : Str} (h : (s_IdxAt t n).2 = true) : (s_IdxAt t n).1 = i_Table_idx t n ∧ (i_Table_idx t n).Name = n := by
  have hf := f_s_IdxAt' h
  unfold s_IdxAt at h ⊢
  unfold i_Table_idx
  cases h1 : s_GoodTable t
  · rw [h1] at h; cases h
  · simp only [cond_true]
    rw [decide_eq_false (show ¬ s_l24Idx t n < 0 by omega), findIdx_eq]
    refine ⟨rfl, ?_⟩
    rcases l24Idx_spec t n with ⟨h, _⟩ | ⟨k, hk, h, h', _⟩
    · omega
    · rw [h]; exact h'
theorem rf_idxHead (t : DTable) (n : Str) : (i_Table_idxHead t n).length = t.Name.length + n.length + 2 := by
  unfold i_Table_idxHead
  simp only [lN]; omega
def rowShort (r : DRow) : Prop := ∀ v ∈ r.Vals, v.length ≤ 3
theorem rowShort.getD {r : DRow} (h : rowShort r) (k : Nat) : (r.Vals.getD k d_Str).length ≤ 3 := by
  rcases Nat.lt_or_ge k r.Vals.length with hk | hk
  · exact h _ (getD_mem hk)
  · rw [List.getD_eq_getElem?_getD, List.getElem?_eq_none hk]; exact Nat.zero_le _
theorem okS_idxKey {t : DTable} {n : Str} {r : DRow} (h : t.Name.length ≤ 1 ∧ n.length ≤ 1) (hr : rowShort r) {a b : Nat} : okS ((((i_Table_idxHead t n) ++ (r.Vals.getD a d_Str)) ++ ([47] : Str)) ++ (r.Vals.getD b d_Str)) := by
  have h1 := rf_idxHead t n
  have h2 := hr.getD a
  have h3 := hr.getD b
  unfold okS
  simp only [lN]; omega
theorem okS_l25Entry {t : DTable} {x : DIdx} {r : DRow} (h : t.Name.length ≤ 1 ∧ x.Name.length ≤ 1) (hr : rowShort r) {a b : Nat} : okS ((((((t.Name ++ ([46] : Str)) ++ x.Name) ++ ([47] : Str)) ++ (r.Vals.getD a d_Str)) ++ ([47] : Str)) ++ (r.Vals.getD b d_Str)) := by
  have h2 := hr.getD a
  have h3 := hr.getD b
  unfold okS
  simp only [lN]; omega
theorem field_len {s : Str} (h : s_l25Field s = true) : 1 ≤ (s.length : Int) ∧ (s.length : Int) ≤ 3 := by
  unfold s_l25Field at h
  exact f_l1In (of_cond_f h).1
theorem f_s_l25Good {t : DTable} {r : DRow} (h : s_l25Good t r = true) : r.Vals.length = t.Cols.length ∧ rowShort r := by
  refine ⟨f_s_l25Good' h, fun v hv => ?_⟩
  rw [l25Good_eq, Bool.and_eq_true] at h
  have := field_len (List.all_eq_true.1 h.1 v hv)
  omega
theorem f_i_isRow {t : DTable} {r : DRow} (h : i_Table_isRow t r = true) : r.Vals.length = t.Cols.length ∧ rowShort r := f_s_l25Good (isRow_eq t r ▸ h)
theorem f_s_GoodRow {t : DTable} {r : DRow} (h : s_GoodRow t r = true) : (r.Vals.length = t.Cols.length ∧ 2 ≤ (t.Cols.length : Int) ∧ (t.Cols.length : Int) ≤ 4 ∧ (t.Idxs.length : Int) ≤ 3) ∧ t.Name.length = 1 ∧ rowShort r := by
  unfold s_GoodRow at h
  obtain ⟨h1, h2⟩ := of_cond_f h
  exact ⟨⟨(f_s_l25Good h2).1, f_s_GoodTable h1⟩, (GoodT.of h1).name, (f_s_l25Good h2).2⟩
theorem f_i_GoodRow {t : DTable} {r : DRow} (h : i_GoodRow t r = true) : (r.Vals.length = t.Cols.length ∧ 2 ≤ (t.Cols.length : Int) ∧ (t.Cols.length : Int) ≤ 4 ∧ (t.Idxs.length : Int) ≤ 3) ∧ t.Name.length = 1 ∧ rowShort r := f_s_GoodRow (GoodRow_eq t r ▸ h)
theorem f_i_hasIdx {t : DTable} {n : Str} (h : i_hasIdx t n = true) : (2 ≤ (t.Cols.length : Int) ∧ (t.Cols.length : Int) ≤ 4 ∧ (t.Idxs.length : Int) ≤ 3) ∧ (0 ≤ i_Table_findIdx t n ∧ i_Table_findIdx t n < (t.Idxs.length : Int)) ∧ 1 ≤ (i_Table_idx t n).Col ∧ (i_Table_idx t n).Col < (t.Cols.length : Int) ∧ 0 ≤ (i_Table_idx t n).Stage ∧ (i_Table_idx t n).Stage ≤ 3 ∧ t.Name.length = 1 ∧ n.length = 1 := by
  have h0 := f_i_hasIdx' h
  unfold i_hasIdx at h
  obtain ⟨h1, h2⟩ := of_cond_f h
  rw [GoodTable_eq] at h1
  have hg := GoodT.of h1
  have h3 := IdxAt_fst (t := t) (n := n) (by unfold s_IdxAt; rw [h1, cond_true, decide_eq_false (by have := of_decide_eq_true h2; rw [findIdx_eq] at this; omega)]; rfl)
  refine ⟨h0.1, h0.2.1, h0.2.2.1, h0.2.2.2, ?_⟩
  have h4 := hg.idx (i_Table_findIdx t n).toNat oM
  have h5 : (t.Idxs.getD (i_Table_findIdx t n).toNat d_Idx).Name = n := h3.2
  rw [h5] at h4
  unfold i_Table_idx
  exact ⟨h4.2.2.2.1, h4.2.2.2.2, hg.name, h4.1⟩
theorem idx_eq (t : DTable) (n : Str) : i_Table_idx t n = t.Idxs.getD (s_l24Idx t n).toNat d_Idx := by unfold i_Table_idx; rw [findIdx_eq]
theorem l5Rows_eq (l : List DWrite) : s_l5Rows l = i_isRows l := by
  rw [isRows_eq]
  unfold s_l5Rows
  rw [allE d_Write (fun w => !w.Gone) (r := false) fun k => by
    unfold B_s_l5Rows_0
    cases (l.getD k d_Write).Gone <;> rfl]
  cases s_l3Writes l <;> cases (l.all fun w => !w.Gone) <;> rfl
theorem hasIdx_iff (t : DTable) (n : Str) : i_hasIdx t n = true ↔ s_GoodTable t = true ∧ 0 ≤ s_l24Idx t n := by
  unfold i_hasIdx
  rw [GoodTable_eq, findIdx_eq]
  constructor
  · intro h
    obtain ⟨h1, h2⟩ := of_cond_f h
    exact ⟨h1, of_decide_eq_true h2⟩
  · rintro ⟨h1, h2⟩
    rw [h1, decide_eq_true h2]; rfl
theorem szTable_len {t : DTable} (hw : wf_Table t) (h : ¬ l_szTable t 1048576 < 0) : t.Cols.length ≤ 2147483648 ∧ t.Idxs.length ≤ 2147483648 := by
  have := (szok_Table hw (by decide) h).1
  exact ⟨this.2.1.1, this.2.2.1⟩
theorem l3Key_len {s : Str} (h : s_l3Key s = true) : s.length ≤ 12 := by
  unfold s_l3Key at h
  have := f_l1In (of_cond_f h).1
  omega
theorem l3Val_len {s : Str} (h : s_l3Val s = true) : s.length ≤ 24 := by
  unfold s_l3Val at h
  have := of_decide_eq_true (of_cond_f h).1
  omega
theorem l3Write_len {k v : Str} {g : Bool} (h : s_l3Write k v g = true) : k.length ≤ 12 ∧ v.length ≤ 24 := by
  rw [l3Write_eq, isStored_eq] at h
  simp only [Bool.and_eq_true] at h
  exact ⟨l3Key_len h.1, l3Val_len h.2.1⟩
theorem f_l3Writes {l : List DWrite} (h : s_l3Writes l = true) : l.length ≤ 24 ∧ ∀ k, k < l.length → (l.getD k d_Write).Key.length ≤ 12 ∧ (l.getD k d_Write).Val.length ≤ 24 := by
  rw [l3Writes_eq, Bool.and_eq_true, decide_eq_true_eq] at h
  refine ⟨by omega, fun k hk => ?_⟩
  have := List.all_eq_true.1 h.1 k (List.mem_range.2 hk)
  rw [Bool.and_eq_true] at this
  exact l3Write_len this.1
theorem Index_one (s : Str) (c : UInt8) : g_internal_stringslite_Index s [c] = Lib.indexByte s c := by
  unfold g_internal_stringslite_Index g_internal_stringslite_IndexByte idxB
  have h : ((([c] : Str).getD 0 0).toNat : Int).toNat.toUInt8 = c := by simp
  rw [h]
  cases hc : ([c] : Str) == s
  · rfl
  · have : s = [c] := (eq_of_beq hc).symm
    subst this
    simp [Lib.indexByte]
theorem f_HasPrefix {s p : Str} (h : g_internal_stringslite_HasPrefix s p = true) : p.length ≤ s.length := by
  unfold g_internal_stringslite_HasPrefix at h
  have := of_decide_eq_true (of_cond_f h).1
  omega
theorem f_isIdxStore {t : DTable} {n : Str} {l : List DWrite} (h : i_isIdxStore t n l = true) : t.Name.length ≤ 1 ∧ n.length ≤ 1 := by
  unfold i_isIdxStore at h
  have := f_i_hasIdx (of_cond_f h).1
  omega
theorem l1Split_sp (s : Str) (b : UInt8) : s_l1Split s (b.toNat : Int) = sp b s := by
  unfold s_l1Split
  refine loopM_val (fun k (p : List Str × Int) => 0 ≤ p.2 ∧ p.2.toNat ≤ k ∧ b ∉ (s.take k).drop p.2.toNat ∧ p.1 ++ sp b (s.drop p.2.toNat) = sp b s) (fun (v : List Str) => v = sp b s) ⟨by omega, by simp, by simp, by simp⟩ ?_ ?_
  · rintro ⟨x, a⟩ ⟨h1, h2, h3, h4⟩
    dsimp only at h1 h2 h3 h4 ⊢
    rw [show s.take (0 + (s.length - 0)) = s from by rw [List.take_of_length_le oM]] at h3
    rw [sp_none h3] at h4
    exact h4
  · rintro j ⟨x, a⟩ _ hj ⟨h1, h2, h3, h4⟩
    have hj' : j < s.length := by omega
    unfold B_s_l1Split_0
    dsimp only at h1 h2 h3 h4 ⊢
    have ht : (s.take (j + 1)).drop a.toNat = (s.take j).drop a.toNat ++ [s.getD j 0] := by
      rw [getD_eq hj', List.take_succ_eq_append_getElem hj', List.drop_append_of_le_length (by rw [List.length_take]; omega)]
    have hd : s.drop a.toNat = (s.take j).drop a.toNat ++ s.getD j 0 :: s.drop (j + 1) := by
      conv => lhs; rw [← List.take_append_drop j s]
      rw [List.drop_append_of_le_length (by rw [List.length_take]; omega), getD_eq hj', List.drop_eq_getElem_cons hj']
    rw [toNat_eq]
    cases hc : s.getD j 0 == b
    · refine ⟨h1, oM, ?_, h4⟩
      rw [ht]
      intro hm
      rcases List.mem_append.1 hm with hm | hm
      · exact h3 hm
      · rw [← List.mem_singleton.1 hm] at hc; simp at hc
    · have hb : s.getD j 0 = b := eq_of_beq hc
      refine ⟨by omega, by simp, by simp, ?_⟩
      rw [hd, hb, sp_some h3] at h4
      rw [← h4, List.append_assoc]
      show x ++ ([_] ++ sp b (s.drop _)) = _
      rw [show (((j + 1 : Nat) : Int)).toNat = j + 1 from by simp]
      rfl
theorem Cut_some {a r : Str} {c : UInt8} (h : c ∉ a) (hl : a.length ≤ 1073741824) : g_strings_Cut (a ++ c :: r) [c] = (a, r, true) := by
  have h1 : g_internal_stringslite_Index (a ++ c :: r) [c] = (a.length : Int) := by
    rw [Index_one]
    rcases indexByte_split c (a ++ c :: r) with ⟨h2, _⟩ | ⟨a', r', h2, h3, h4⟩
    · simp at h2
    · have : a' :: sp c r' = a :: sp c r := by rw [← sp_some h3, ← sp_some h, h2]
      rw [h4, (List.cons.inj this).1]
  unfold g_strings_Cut g_internal_stringslite_Cut
  rw [h1, decide_eq_true oM]
  simp only [cond_true]
  rw [wrap_in (by simp only [List.length_cons, List.length_nil]; omega)]
  have h2 : ((a.length : Int)).toNat = a.length := by simp
  have h3 : ((a.length : Int) + (([c] : Str).length : Int)).toNat = a.length + 1 := by simp only [List.length_cons, List.length_nil]; omega
  rw [h2, h3]
  simp
theorem slash_field {s : Str} (h : s_l25Field s = true) : (47 : UInt8) ∉ s := by
  unfold s_l25Field at h
  obtain ⟨_, h2⟩ := of_cond_f h
  rw [l3Bytes_eq, List.all_eq_true] at h2
  intro hm
  exact absurd (h2 _ hm) (by decide)
theorem CutPrefix_iff (k p : Str) : (g_strings_CutPrefix k p).2 = p.isPrefixOf k ∧ ((g_strings_CutPrefix k p).2 = true → (g_strings_CutPrefix k p).1 = k.drop p.length) := by
  have h : g_internal_stringslite_HasPrefix k p = p.isPrefixOf k := by
    unfold g_internal_stringslite_HasPrefix
    by_cases hp : p <+: k
    · obtain ⟨r, rfl⟩ := hp
      rw [decide_eq_true (by rw [List.length_append]; omega), cond_true, List.take_left]
      simp
    · rw [show p.isPrefixOf k = false from by rw [Bool.eq_false_iff]; intro e; exact hp (List.isPrefixOf_iff_prefix.1 e)]
      cases hd : decide ((p.length : Int) ≤ (k.length : Int))
      · rfl
      · rw [cond_true, beq_eq_false_iff_ne]
        intro e
        exact hp (e ▸ List.take_prefix ..)
  unfold g_strings_CutPrefix g_internal_stringslite_CutPrefix
  rw [h]
  cases p.isPrefixOf k <;> simp
theorem isRows_w {l : List DWrite} (h : i_isRows l = true) : s_l3Writes l = true := by
  rw [isRows_eq, Bool.and_eq_true] at h
  exact h.1
theorem inter_cons (sep x y : Str) (zs : List Str) : sep.intercalate (x :: y :: zs) = x ++ (sep ++ sep.intercalate (y :: zs)) := by
  simp [List.intercalate, List.intersperse]
theorem inter_one (sep x : Str) : sep.intercalate [x] = x := by simp [List.intercalate]
theorem inter_concat (sep x : Str) : ∀ xs : List Str, 0 < xs.length → sep.intercalate (xs ++ [x]) = (sep.intercalate xs ++ sep) ++ x
  | [], h => by simp at h
  | [y], _ => by show sep.intercalate (y :: x :: []) = _; rw [inter_cons, inter_one, inter_one, List.append_assoc]
  | y :: z :: zs, _ => by
    show sep.intercalate (y :: z :: (zs ++ [x])) = _
    rw [inter_cons, show z :: (zs ++ [x]) = (z :: zs) ++ [x] from rfl, inter_concat sep x (z :: zs) (Nat.succ_pos _), inter_cons]
    simp only [List.append_assoc]
theorem inter_len : ∀ xs : List Str, (∀ x ∈ xs, x.length ≤ 3) → (([44] : Str).intercalate xs).length ≤ 4 * xs.length
  | [], _ => Nat.zero_le _
  | [x], h => by have := h x (by simp); rw [inter_one, List.length_singleton]; omega
  | x :: y :: zs, h => by
    have h1 := h x (by simp)
    have h2 := inter_len (y :: zs) fun z hz => h z (List.mem_cons_of_mem _ hz)
    rw [inter_cons, List.length_append, List.length_append, List.length_cons (as := y :: zs)]
    simp only [List.length_cons, List.length_nil] at h2 ⊢
    omega
theorem join_drop {r : DRow} (h : r.Vals.length ≤ 4) (hr : rowShort r) : (g_strings_Join (r.Vals.drop 1) ([44] : Str)).length ≤ 1073741824 := by
  have := inter_len (r.Vals.drop 1) fun x hx => hr x (List.mem_of_mem_drop hx)
  rw [List.length_drop] at this
  unfold g_strings_Join; omega
theorem Join_eq (xs : List Str) (sep : Str) : s_l24Join xs sep = g_strings_Join xs sep := by
  unfold s_l24Join g_strings_Join
  refine loopM_val (fun k (s : Str) => s = sep.intercalate (xs.take k)) (fun (v : Str) => v = sep.intercalate xs) rfl (fun s h => by rw [h, List.take_of_length_le oM]) ?_
  intro j s _ hj hs
  have hj' : j < xs.length := by omega
  unfold B_s_l24Join_0
  dsimp only
  rw [List.take_succ_eq_append_getElem hj', getD_eq hj']
  by_cases h0 : 0 < j
  · rw [decide_eq_true oM, hs, inter_concat _ _ _ (by rw [List.length_take]; omega)]; rfl
  · have : j = 0 := by omega
    subst this
    rw [decide_eq_false oM, hs]
    show [] ++ _ = _
    simp [List.intercalate]
theorem rowWrite_eq (t : DTable) (r : DRow) : i_Table_rowWrite t r = s_l25Write t r := by
  unfold i_Table_rowWrite s_l25Write
  rw [Join_eq]
theorem f_i_isStage {s : Int} (h : i_isStage s = true) : 0 ≤ s ∧ s ≤ 3 := f_within h
theorem rf_l1Split (s : Str) (b : Int) : 1 ≤ (s_l1Split s b).length ∧ (s_l1Split s b).length ≤ s.length + 1 := by
  unfold s_l1Split
  refine loopM_val (fun k (p : List Str × Int) => p.1.length ≤ k) (fun (v : List Str) => 1 ≤ v.length ∧ v.length ≤ s.length + 1) (Nat.zero_le _) ?_ ?_
  · rintro ⟨x, a⟩ h1
    dsimp only at h1 ⊢
    rw [List.length_append, List.length_singleton]; omega
  · rintro j ⟨x, a⟩ _ hj h1
    dsimp only at h1
    unfold B_s_l1Split_0
    dsimp only
    cases decide (((s.getD j 0).toNat : Int) = b)
    · exact Nat.le_succ_of_le h1
    · show (x ++ _).length ≤ _
      rw [List.length_append, List.length_singleton]; omega
theorem rf_Split (s sep : Str) : 1 ≤ (g_strings_Split s sep).length ∧ (g_strings_Split s sep).length ≤ s.length + 1 := ⟨sp_ne _ _, sp_length _ _⟩
theorem comma_split (s : Str) : s_l1Split s 44 = sp 44 s := l1Split_sp s 44
theorem gt_name {t : DTable} (h : s_GoodTable t = true) : t.Name.length ≤ 1 := Nat.le_of_eq (GoodT.of h).name
theorem okS_nm {t : DTable} (h : t.Name.length ≤ 1) : okS (t.Name ++ ([47] : Str)) := by unfold okS; rw [List.length_append]; show t.Name.length + 1 ≤ _; omega

theorem good_one {t : DTable} {r : DRow} (h : s_l25Good t r = true) {v : Str} (hv : v ∈ r.Vals) : 1 ≤ v.length ∧ v.length ≤ 3 := by
  rw [l25Good_eq, Bool.and_eq_true] at h
  have := field_len (List.all_eq_true.1 h.1 v hv)
  omega
def rowIn (w : DWrite) : DRow := ⟨[w.Key.drop 2] ++ s_l1Split w.Val 44⟩
theorem Split_comma (s : Str) : g_strings_Split s ([44] : Str) = s_l1Split s 44 := (comma_split s).symm
theorem drop_pre {p s k : Str} (h : s = p ++ k) : p.isPrefixOf s = true := by subst h; simp
theorem l25Read_eq (t : DTable) (w : DWrite) : s_l25Read t w = bif decide ((w.Key.length : Int) < 3) then (⟨[]⟩, false) else (rowIn w, s_l25Good t (rowIn w) && (((t.Name ++ ([47] : Str)) ++ w.Key.drop 2 == w.Key) && (((s_l25Write t (rowIn w)).Val == w.Val) && (false == w.Gone)))) := by
  unfold s_l25Read
  cases decide ((w.Key.length : Int) < 3)
  · show (bif s_l25Good t (rowIn w) then _ else _) = _
    cases s_l25Good t (rowIn w) <;> rfl
  · rfl
theorem read_row {t : DTable} (hg : s_GoodTable t = true) (w : DWrite) : i_Table_readRow t w = bif (s_l25Read t w).2 then ((s_l25Read t w).1, true) else (⟨[]⟩, false) := by
  have hn := (GoodT.of hg).name
  have hpl : (t.Name ++ ([47] : Str)).length = 2 := by rw [List.length_append, hn]; rfl
  obtain ⟨c1, c2⟩ := CutPrefix_iff w.Key (t.Name ++ ([47] : Str))
  rw [hpl] at c2
  rw [l25Read_eq]
  unfold i_Table_readRow
  rw [c1]
  cases hp : (t.Name ++ ([47] : Str)).isPrefixOf w.Key
  · rw [cond_false]
    have hne : ((t.Name ++ ([47] : Str)) ++ w.Key.drop 2 == w.Key) = false := by
      cases hh : ((t.Name ++ ([47] : Str)) ++ w.Key.drop 2 == w.Key)
      · rfl
      · rw [drop_pre (eq_of_beq hh).symm] at hp; cases hp
    cases decide ((w.Key.length : Int) < 3)
    · rw [cond_false, hne, Bool.false_and, Bool.and_false]; rfl
    · rfl
  · rw [c1] at c2
    rw [cond_true, c2 hp, Split_comma]
    show (bif i_Table_isRow t (rowIn w) then _ else _) = _
    rw [isRow_eq]
    cases hgd : s_l25Good t (rowIn w)
    · cases decide ((w.Key.length : Int) < 3) <;> rfl
    · have h1 := good_one hgd (v := w.Key.drop 2) (List.mem_cons_self ..)
      rw [List.length_drop] at h1
      rw [decide_eq_false oM, cond_false, cond_true, Bool.true_and, rowWrite_eq]
      show (bif (w.Key == (t.Name ++ ([47] : Str)) ++ w.Key.drop 2) && ((w.Val == (s_l25Write t (rowIn w)).Val) && (w.Gone == false)) then _ else _) = _
      rw [BEq.comm (a := w.Key), BEq.comm (a := w.Val), BEq.comm (a := w.Gone)]
      rfl
theorem read_good {t : DTable} {w : DWrite} (h : (s_l25Read t w).2 = true) : s_l25Good t (s_l25Read t w).1 = true := by
  rw [l25Read_eq] at h ⊢
  cases hd : decide ((w.Key.length : Int) < 3) <;> rw [hd] at h
  · exact (Bool.and_eq_true _ _ ▸ h).1
  · cases h
theorem rowsIn_eq {t : DTable} (hg : s_GoodTable t = true) (l : List DWrite) : i_Table_rowsIn t l = s_l25Rows t l := by
  unfold i_Table_rowsIn s_l25Rows
  have : B_i_Table_rowsIn_0 t l = B_s_l25Rows_0 t l := by
    funext k x
    unfold B_i_Table_rowsIn_0 B_s_l25Rows_0
    rw [read_row hg]
    cases (s_l25Read t (l.getD k d_Write)).2 <;> rfl
  rw [this]
theorem rows_good (t : DTable) (l : List DWrite) : (s_l25Rows t l).length ≤ l.length ∧ ∀ y ∈ s_l25Rows t l, s_l25Good t y = true := by
  unfold s_l25Rows
  refine loopM_val (fun k (p : List DRow) => p.length ≤ k ∧ ∀ y ∈ p, s_l25Good t y = true) (fun (v : List DRow) => v.length ≤ l.length ∧ ∀ y ∈ v, s_l25Good t y = true) ⟨Nat.le_refl _, fun _ h => by cases h⟩ (fun s hs => ⟨by have := hs.1; omega, hs.2⟩) ?_
  intro j x _ _ ⟨h1, h2⟩
  unfold B_s_l25Rows_0
  dsimp only
  cases h : (s_l25Read t (l.getD j d_Write)).2
  · exact ⟨Nat.le_succ_of_le h1, h2⟩
  · refine ⟨by rw [List.length_append, List.length_singleton]; omega, fun y hy => ?_⟩
    rcases List.mem_append.1 hy with hy | hy
    · exact h2 y hy
    · rw [List.mem_singleton.1 hy]; exact read_good h
theorem rows_at (t : DTable) (l : List DWrite) {k : Nat} (hk : k < (s_l25Rows t l).length) : s_l25Good t ((s_l25Rows t l).getD k d_Row) = true := (rows_good t l).2 _ (by rw [getD_eq hk]; exact List.getElem_mem hk)
theorem rowsIn_mem {t : DTable} (hg : s_GoodTable t = true) {l : List DWrite} {y : DRow} (h : y ∈ i_Table_rowsIn t l) : s_l25Good t y = true := (rows_good t l).2 y (rowsIn_eq hg l ▸ h)
theorem key_eq {t : DTable} {n : Str} (h : i_hasIdx t n = true) (r : DRow) : i_Table_idxKey t n r = s_l25Entry t (t.Idxs.getD (s_l24Idx t n).toNat d_Idx) r := by
  obtain ⟨h1, h2⟩ := (hasIdx_iff t n).1 h
  have hn : (s_IdxAt t n).2 = true := by
    unfold s_IdxAt
    rw [h1, decide_eq_false oM]; rfl
  rw [← idx_eq]
  unfold i_Table_idxKey s_l25Entry i_Table_idxHead
  rw [(IdxAt_fst hn).2]
theorem gt_idx {t : DTable} (h : s_GoodTable t = true) {k : Nat} (hk : k < t.Idxs.length) : 0 ≤ (t.Idxs.getD k d_Idx).Col ∧ (t.Idxs.getD k d_Idx).Col < (t.Cols.length : Int) ∧ 0 ≤ (t.Idxs.getD k d_Idx).Stage ∧ (t.Idxs.getD k d_Idx).Stage ≤ 3 ∧ (t.Idxs.getD k d_Idx).Name.length = 1 := by
  obtain ⟨a, b, c, d, e⟩ := (GoodT.of h).idx k hk
  exact ⟨by omega, c, d, e, a⟩
theorem rf_l1Num (n : Int) : (s_l1Num n).length = 1 := rfl
theorem hasIdx_good {t : DTable} {n : Str} (h : i_hasIdx t n = true) : s_GoodTable t = true := by
  unfold i_hasIdx at h
  rw [← GoodTable_eq]
  exact (of_cond_f h).1
theorem asked_good {t : DTable} {n : Str} {l : List DWrite} (h : s_l25Asked t n l = true) : s_GoodTable t = true := by
  unfold s_l25Asked at h
  exact (of_cond_f h).1
theorem idx_top (t : DTable) (n : Str) : s_l24Idx t n < (t.Idxs.length : Int) := by
  have h := rf_i_findIdx t n
  rw [findIdx_eq] at h
  exact h.2
theorem asked_idx {t : DTable} {n : Str} {l : List DWrite} (h : s_l25Asked t n l = true) : 0 ≤ s_l24Idx t n ∧ s_l24Idx t n < (t.Idxs.length : Int) := by
  unfold s_l25Asked at h
  exact ⟨of_decide_eq_true (of_cond_f (of_cond_f h).2).1, idx_top t n⟩
theorem rowsIn_at {t : DTable} {n : Str} (h : i_hasIdx t n = true) (l : List DWrite) {k : Nat} (hk : k < (i_Table_rowsIn t l).length) : ((i_Table_rowsIn t l).getD k d_Row).Vals.length = t.Cols.length ∧ rowShort ((i_Table_rowsIn t l).getD k d_Row) :=
  f_s_l25Good (rowsIn_mem (hasIdx_good h) (l := l) (getD_mem hk))
theorem rowsIn_len {t : DTable} {n : Str} (h : i_hasIdx t n = true) (l : List DWrite) : (i_Table_rowsIn t l).length ≤ l.length := rowsIn_eq (hasIdx_good h) l ▸ (rows_good t l).1
theorem rows_at' (t : DTable) (l : List DWrite) {k : Nat} (hk : k < (s_l25Rows t l).length) : ((s_l25Rows t l).getD k d_Row).Vals.length = t.Cols.length ∧ rowShort ((s_l25Rows t l).getD k d_Row) := f_s_l25Good (rows_at t l hk)
theorem ok_l25Entry {t : DTable} {x : DIdx} {r : DRow} (h : t.Name.length ≤ 1 ∧ x.Name.length ≤ 1) (hr : rowShort r) : okS (s_l25Entry t x r) := okS_l25Entry h hr
theorem rf_l25Write (t : DTable) (r : DRow) (h : t.Name.length ≤ 1) (hl : r.Vals.length ≤ 4) (hr : rowShort r) : (s_l25Write t r).Key.length ≤ 5 ∧ (s_l25Write t r).Val.length ≤ 16 := by
  unfold s_l25Write
  dsimp only
  rw [Join_eq]
  have h1 := inter_len (r.Vals.drop 1) fun x hx => hr x (List.mem_of_mem_drop hx)
  rw [List.length_drop] at h1
  have h2 := hr.getD 0
  simp only [lN]
  unfold g_strings_Join; omega
theorem ok_l25Write {t : DTable} {r : DRow} (h : t.Name.length ≤ 1) (hl : r.Vals.length ≤ 4) (hr : rowShort r) : ok_Write (s_l25Write t r) := by
  have := rf_l25Write t r h hl hr
  exact ⟨by unfold okS; omega, by unfold okS; omega⟩
theorem good_fields {t : DTable} {r : DRow} (h : i_GoodRow t r = true) : s_GoodTable t = true ∧ i_Table_isRow t r = true ∧ (∀ v ∈ r.Vals, s_l25Field v = true) ∧ 2 ≤ r.Vals.length ∧ r.Vals.length = t.Cols.length := by
  have h1 := f_i_GoodRow h
  unfold i_GoodRow at h
  obtain ⟨h2, h3⟩ := of_cond_f h
  have h4 := h3
  rw [isRow_eq, l25Good_eq, Bool.and_eq_true] at h4
  exact ⟨GoodTable_eq t ▸ h2, h3, List.all_eq_true.1 h4.1, oM, h1.1.1⟩
theorem readRow_write {t : DTable} {w : DWrite} (h : (i_ReadRow t w).2 = true) : i_RowWrite t (i_ReadRow t w).1 = (w, true) := by
  unfold i_ReadRow at h ⊢
  cases hg : i_GoodTable t
  · rw [hg] at h; cases h
  · rw [hg] at h
    dsimp only [cond_true] at h ⊢
    unfold i_Table_readRow at h ⊢
    revert h
    generalize (⟨(([(g_strings_CutPrefix w.Key (t.Name ++ ([47] : Str))).1] : List Str) ++ (g_strings_Split w.Val ([44] : Str)))⟩ : DRow) = r
    intro h
    cases hc : (g_strings_CutPrefix w.Key (t.Name ++ ([47] : Str))).2
    · rw [hc] at h; cases h
    · rw [hc] at h
      dsimp only [cond_true] at h ⊢
      cases hr : i_Table_isRow t r
      · rw [hr] at h; cases h
      · rw [hr] at h
        dsimp only [cond_true] at h ⊢
        cases he : (w.Key == (i_Table_rowWrite t r).Key && (w.Val == (i_Table_rowWrite t r).Val && w.Gone == (i_Table_rowWrite t r).Gone))
        · rw [he] at h; cases h
        · dsimp only [cond_true]
          simp only [Bool.and_eq_true, beq_iff_eq] at he
          unfold i_RowWrite i_GoodRow
          rw [hg, cond_true, hr, cond_true]
          have : i_Table_rowWrite t r = w := by
            cases w; cases hq : i_Table_rowWrite t r
            rw [hq] at he
            simp only [DWrite.mk.injEq]
            exact ⟨he.1.symm, he.2.1.symm, he.2.2.symm⟩
          rw [this]
theorem key_back {t : DTable} {n : Str} {r : DRow} (h : i_GoodRow t r = true) (hi : i_hasIdx t n = true) : (0 ≤ (i_Table_idx t n).Col ∧ (i_Table_idx t n).Col < (r.Vals.length : Int)) ∧ i_ReadIdxKey t n (i_Table_idxKey t n r) = (r.Vals.getD ((i_Table_idx t n).Col).toNat d_Str, r.Vals.getD 0 d_Str, true) := by
  obtain ⟨hg, hr, hf, hl, hc⟩ := good_fields h
  have hcol : 0 ≤ (i_Table_idx t n).Col ∧ (i_Table_idx t n).Col < (r.Vals.length : Int) := by
    have := f_i_hasIdx hi
    omega
  refine ⟨hcol, ?_⟩
  have f1 := hf _ (getD_mem (d := d_Str) (i := ((i_Table_idx t n).Col).toNat) oM)
  have f0 := hf _ (getD_mem (d := d_Str) (i := 0) oM)
  obtain ⟨c1, c2⟩ := CutPrefix_iff (i_Table_idxKey t n r) (i_Table_idxHead t n)
  have hk : i_Table_idxKey t n r = i_Table_idxHead t n ++ (r.Vals.getD (((i_Table_idx t n).Col).toNat) d_Str ++ 47 :: r.Vals.getD 0 d_Str) := by
    unfold i_Table_idxKey
    simp only [List.append_assoc]; rfl
  rw [drop_pre hk] at c1
  have c3 := c2 c1
  rw [hk, List.drop_left' rfl] at c3
  have hs := (f_i_GoodRow h).2.2.getD ((i_Table_idx t n).Col).toNat
  have hcut := Cut_some (r := r.Vals.getD 0 d_Str) (slash_field f1) oM
  unfold i_ReadIdxKey
  rw [hi, cond_true]
  have : i_Table_readIdxKey t n (i_Table_idxKey t n r) = (r.Vals.getD ((i_Table_idx t n).Col).toNat d_Str, r.Vals.getD 0 d_Str, true) := by
    unfold i_Table_readIdxKey
    rw [c1, hk, c3, hcut, isField_eq, isField_eq]
    dsimp only [cond_true]
    rw [f1, f0]; rfl
  rw [this]
theorem rowsIn_map (t : DTable) (l : List DWrite) : i_Table_rowsIn t l = (l.filter fun w => (i_Table_readRow t w).2).map fun w => (i_Table_readRow t w).1 := by
  unfold i_Table_rowsIn
  refine loopM_val (fun k (p : List DRow) => p = ((l.take k).filter fun w => (i_Table_readRow t w).2).map fun w => (i_Table_readRow t w).1) (fun (v : List DRow) => v = (l.filter fun w => (i_Table_readRow t w).2).map fun w => (i_Table_readRow t w).1) rfl (fun s h => by rw [h, List.take_of_length_le oM]) ?_
  intro j s _ hj hs
  have hj' : j < l.length := by omega
  unfold B_i_Table_rowsIn_0
  dsimp only
  rw [List.take_succ_eq_append_getElem hj', List.filter_append, List.map_append, ← hs, ← getD_eq (d := d_Write) hj', List.filter_cons]
  cases (i_Table_readRow t (l.getD j d_Write)).2 <;> simp
theorem sLt_trans {a b c : Str} (h1 : sLt a b = true) (h2 : sLt b c = true) : sLt a c = true := by
  unfold sLt at *
  rw [bytesLess_lt, decide_eq_true_eq] at *
  exact List.lt_trans h1 h2
theorem sLt_irrefl (a : Str) : ¬ sLt a a = true := by
  unfold sLt
  rw [bytesLess_lt, decide_eq_true_eq]
  exact List.lt_irrefl a
theorem read_wrote {t : DTable} {w : DWrite} (hg : i_GoodTable t = true) (h : (i_Table_readRow t w).2 = true) : i_GoodRow t (i_Table_readRow t w).1 = true ∧ i_Table_rowWrite t (i_Table_readRow t w).1 = w := by
  have e : i_ReadRow t w = i_Table_readRow t w := by unfold i_ReadRow; rw [hg, cond_true]
  have h1 := readRow_write (t := t) (w := w) (by rw [e]; exact h)
  rw [e] at h1
  unfold i_RowWrite at h1
  cases hr : i_GoodRow t (i_Table_readRow t w).1
  · rw [hr] at h1; cases h1
  · rw [hr] at h1
    exact ⟨rfl, (Prod.mk.inj h1).1⟩
theorem row_key (t : DTable) (r : DRow) : (i_Table_rowWrite t r).Key = (t.Name ++ ([47] : Str)) ++ r.Vals.getD 0 d_Str := rfl
theorem rf_l5Text (n : Int) : (s_l5Text n).length ≤ 2 := by
  unfold s_l5Text
  cases decide (n < 0)
  · exact Nat.le_succ 1
  · show (([45] : Str) ++ s_l1Num _).length ≤ 2
    rw [List.length_append, rf_l1Num]; exact Nat.le_refl 2
theorem ok_l5Text (n : Int) : okS (s_l5Text n) := by
  have := rf_l5Text n
  unfold okS; omega
theorem tell_key (rows : List DWrite) (k : Str) : (s_l5Tell rows k).Key = k := by
  unfold s_l5Tell
  refine loopM_val (fun _ _ => True) (fun (v : DGot) => v.Key = k) trivial (fun _ _ => rfl) (fun j s _ _ _ => ?_)
  unfold B_s_l5Tell_0
  dsimp only
  cases ((rows.getD j d_Write).Key == k)
  · trivial
  · rfl
theorem stands_not {buf : List DWrite} {got : List DGot} {k : Str} (h : (s_l5Stands buf got k).2.2 = false) : (got.any fun g => g.Key == k) = false := by
  revert h
  unfold s_l5Stands
  refine loopM_val (fun _ _ => True) (fun (v : Str × Bool × Bool) => v.2.2 = false → (got.any fun g => g.Key == k) = false) trivial (fun _ _ => ?_) (fun j s _ _ _ => ?_)
  · refine loopM_val (fun j _ => ((got.take j).any fun g => g.Key == k) = false) (fun (v : Str × Bool × Bool) => v.2.2 = false → (got.any fun g => g.Key == k) = false) rfl (fun s hs _ => ?_) (fun j s _ hj hs => ?_)
    · rw [List.take_of_length_le oM] at hs; exact hs
    · have hj' : j < got.length := by omega
      unfold B_s_l5Stands_1
      dsimp only
      cases h1 : ((got.getD j d_Got).Key == k)
      · show ((got.take (j + 1)).any fun g => g.Key == k) = false
        have hs : ((got.take j).any fun g => g.Key == k) = false := hs
        rw [List.take_succ_eq_append_getElem hj', List.any_append, hs, ← getD_eq (d := d_Got) hj', List.any_cons, h1]; rfl
      · exact fun h => by cases h
  · unfold B_s_l5Stands_0
    cases ((buf.getD j d_Write).Key == k)
    · trivial
    · exact fun h => by cases h
theorem step_asks {l : List DOp} {got : List DGot} (h : (s_l5Step l got).1 = 1) : ∃ o ∈ l, (s_l5Step l got).2.1 = o.Key ∧ (got.any fun g => g.Key == o.Key) = false := by
  revert h
  unfold s_l5Step
  refine loopM_val (fun _ _ => True) (fun (v : Int × Str × List DWrite) => v.1 = 1 → ∃ o ∈ l, v.2.1 = o.Key ∧ (got.any fun g => g.Key == o.Key) = false) trivial (fun _ _ h => ?_) (fun j s _ hj _ => ?_)
  · cases h
  · have hm : l.getD j d_Op ∈ l := getD_mem (d := d_Op) oM
    unfold B_s_l5Step_0
    dsimp only
    cases hk : (s_l5Stands s got (l.getD j d_Op).Key).2.2
    · have hn := stands_not hk
      cases decide ((l.getD j d_Op).Kind = 2)
      · cases decide ((l.getD j d_Op).Kind = 3)
        · exact fun _ => ⟨_, hm, rfl, hn⟩
        · cases s_l5Gives (l.getD j d_Op) ((s_l5Stands s got (l.getD j d_Op).Key).1) ((s_l5Stands s got (l.getD j d_Op).Key).2.1)
          · trivial
          · exact fun h => by cases h
      · cases s_l5Gives (l.getD j d_Op) ((s_l5Stands s got (l.getD j d_Op).Key).1) ((s_l5Stands s got (l.getD j d_Op).Key).2.1)
        · trivial
        · exact fun h => by cases h
    · cases s_l5Gives (l.getD j d_Op) ((s_l5Stands s got (l.getD j d_Op).Key).1) ((s_l5Stands s got (l.getD j d_Op).Key).2.1)
      · cases decide ((l.getD j d_Op).Kind = 2)
        · cases decide ((l.getD j d_Op).Kind = 3)
          · cases decide ((l.getD j d_Op).Kind = 4)
            · trivial
            · cases (s_l5Stands s got (l.getD j d_Op).Key).2.1 <;> trivial
          · trivial
        · trivial
      · exact fun h => by cases h
theorem filter_less {α : Type} {p q : α → Bool} (hpq : ∀ x, q x = true → p x = true) : ∀ {l : List α}, (∃ x ∈ l, p x = true ∧ q x = false) → (l.filter q).length < (l.filter p).length
  | [], h => by obtain ⟨x, hx, _⟩ := h; cases hx
  | y :: l, h => by
    have hle : ∀ l : List α, (l.filter q).length ≤ (l.filter p).length := fun l => by
      induction l with
      | nil => exact Nat.le_refl _
      | cons y l ih => cases hq : q y <;> cases hp : p y <;> simp [hq, hp] <;> first | omega | (have := hpq y hq; rw [hp] at this; cases this)
    obtain ⟨x, hx, h1, h2⟩ := h
    rcases List.mem_cons.1 hx with rfl | hx
    · have := hle l; simp [h1, h2]; omega
    · have ih := filter_less hpq ⟨x, hx, h1, h2⟩
      cases hq : q y <;> cases hp : p y <;> simp [hq, hp] <;> first | omega | (have := hpq y hq; rw [hp] at this; cases this)
theorem ask_less {rows : List DWrite} {l : List DOp} {got : List DGot} (h : (s_l5Step l got).1 = 1) : (l.filter fun o => !((got ++ ([(s_l5Tell rows ((s_l5Step l got).2.1))] : List DGot)).any fun g => g.Key == o.Key)).length < (l.filter fun o => !(got.any fun g => g.Key == o.Key)).length := by
  obtain ⟨o, ho, hk, hn⟩ := step_asks h
  refine filter_less (fun x hx => ?_) ⟨o, ho, by rw [hn]; rfl, ?_⟩
  · rw [List.any_append, Bool.not_or, Bool.and_eq_true] at hx; exact hx.1
  · rw [List.any_append, hk]
    simp [tell_key]
theorem asks_0 (l : List DOp) : ([] : List DGot).length + (l.filter fun o => !(([] : List DGot).any fun g => g.Key == o.Key)).length ≤ l.length := by
  rw [List.length_nil, Nat.zero_add]; exact List.length_filter_le _ _
theorem l5Rows_len {l : List DWrite} (h : s_l5Rows l = true) : l.length ≤ 24 := by
  rw [l5Rows_eq] at h
  exact (f_l3Writes (isRows_w h)).1
theorem run_one {rows : List DWrite} {f : List DOp} {got : List DGot} {x : List DWrite} {d : Bool} (hr : s_l5Rows rows = true) (hf : s_l5Good f = true) (ha : s_l5Alone rows f = (got, x, d)) : s_RunInTurn rows [f] = bif d && s_l5Rows (s_l5PutRows rows x) then (s_l5PutRows rows x, [true], true) else (rows, [false], true) := by
  unfold s_RunInTurn
  rw [hr, cond_true]
  have b0 : B_s_RunInTurn_0 rows [f] 0 () = .cont () := by
    unfold B_s_RunInTurn_0
    show (bif s_l5Good f then _ else _) = _
    rw [hf]; rfl
  have e0 : loopM (B_s_RunInTurn_0 rows [f]) (([f] : List (List DOp)).length - 0) 0 () = .done () := by
    show loopM (B_s_RunInTurn_0 rows [f]) 1 0 () = _
    simp only [loopM, b0]
  have b1 : B_s_RunInTurn_1 rows [f] 0 (rows, []) = .cont (bif d && s_l5Rows (s_l5PutRows rows x) then (s_l5PutRows rows x, [true]) else (rows, [false])) := by
    unfold B_s_RunInTurn_1
    show (bif (s_l5Alone rows f).2.2 then bif s_l5Rows (s_l5PutRows rows (s_l5Alone rows f).2.1) then _ else _ else _) = _
    rw [ha]
    cases d
    · rfl
    · cases h : s_l5Rows (s_l5PutRows rows x)
      · simp only [cond_true, cond_false, Bool.true_and, h]
        show Out.cont (rows, [] ++ [s_l5Rows (s_l5PutRows rows (s_l5Alone rows f).2.1)]) = _
        rw [ha]; simp only [h]; rfl
      · simp only [cond_true, cond_false, Bool.true_and, h]
        show Out.cont (s_l5PutRows rows (s_l5Alone rows f).2.1, [] ++ [s_l5Rows (s_l5PutRows rows (s_l5Alone rows f).2.1)]) = _
        rw [ha]; simp only [h]; rfl
  have e1 : loopM (B_s_RunInTurn_1 rows [f]) (([f] : List (List DOp)).length - 0) 0 ((([] : List DWrite) ++ rows), ([] : List Bool)) = .done (bif d && s_l5Rows (s_l5PutRows rows x) then (s_l5PutRows rows x, [true]) else (rows, [false])) := by
    show loopM (B_s_RunInTurn_1 rows [f]) 1 0 (rows, []) = _
    simp only [loopM, b1]
  rw [e0, e1]
  cases d && s_l5Rows (s_l5PutRows rows x) <;> rfl

theorem kb_field {s : Str} (h : s_l25Field s = true) : ∀ b ∈ s, ∀ more : Str, byteOk more b = true := by
  unfold s_l25Field at h
  obtain ⟨_, h2⟩ := of_cond_f h
  rw [l3Bytes_eq, List.all_eq_true] at h2
  intro b hb more
  have := h2 b hb
  unfold byteOk at this ⊢
  rw [Bool.or_eq_true] at this ⊢
  rcases this with h | h
  · exact Or.inl h
  · cases h
theorem kb_letters {s : Str} {m : Int} (h : s_l24Letters s m = true) : ∀ b ∈ s, byteOk ([46, 47] : Str) b = true := by
  rw [l24Letters_eq, Bool.and_eq_true, Bool.and_eq_true, List.all_eq_true] at h
  intro b hb
  have h1 := h.1.1 b hb
  unfold letter at h1
  rw [Bool.and_eq_true, Bool.not_eq_true', Bool.not_eq_true', decide_eq_false_iff_not, decide_eq_false_iff_not] at h1
  unfold byteOk i_isLowerOrDigit
  rw [decide_eq_true (show (97 : Int) ≤ (b.toNat : Int) by omega), decide_eq_true (show (b.toNat : Int) ≤ 122 by omega)]; rfl
theorem idx_letters {t : DTable} {n : Str} (h : i_hasIdx t n = true) : s_l24Letters t.Name 1 = true ∧ s_l24Letters n 1 = true := by
  have h2 := IdxAt_fst (hasIdx_eq t n ▸ h)
  obtain ⟨h3, h4⟩ := (hasIdx_iff t n).1 h
  have h5 := rf_s_l24Idx t n
  rw [idx_eq] at h2
  rw [s_GoodTable_eq] at h3
  simp only [Bool.and_eq_true, List.all_eq_true, List.mem_range] at h3
  have h6 := h3.2 (s_l24Idx t n).toNat oM
  unfold idxOk at h6
  simp only [Bool.and_eq_true] at h6
  have h7 := h6.1.1.1
  rw [h2.2] at h7
  exact ⟨h3.1.1.1, h7⟩
theorem l3Key_of {s : Str} (h1 : 1 ≤ s.length) (h2 : s.length ≤ 12) (h : ∀ b ∈ s, byteOk ([46, 47] : Str) b = true) : s_l3Key s = true := by
  unfold s_l3Key s_l1In
  rw [decide_eq_true oM, cond_true, decide_eq_true oM, cond_true, l3Bytes_eq, List.all_eq_true]; exact h
theorem l3Val_of {s : Str} (h2 : s.length ≤ 24) (h : ∀ b ∈ s, byteOk ([46, 45, 44, 95] : Str) b = true) : s_l3Val s = true := by
  unfold s_l3Val
  rw [decide_eq_true oM, cond_true, l3Bytes_eq, List.all_eq_true]; exact h
theorem inter_bytes : ∀ (xs : List Str), ∀ b ∈ ([44] : Str).intercalate xs, b = 44 ∨ ∃ x ∈ xs, b ∈ x
  | [], b, h => by simp [List.intercalate] at h
  | [x], b, h => by rw [inter_one] at h; exact Or.inr ⟨x, by simp, h⟩
  | x :: y :: zs, b, h => by
    rw [inter_cons] at h
    rcases List.mem_append.1 h with h | h
    · exact Or.inr ⟨x, by simp, h⟩
    · rcases List.mem_append.1 h with h | h
      · exact Or.inl (List.mem_singleton.1 h)
      · rcases inter_bytes (y :: zs) b h with h | ⟨z, hz, h⟩
        · exact Or.inl h
        · exact Or.inr ⟨z, List.mem_cons_of_mem _ hz, h⟩
theorem fieldD {t : DTable} {r : DRow} (h : i_GoodRow t r = true) {k : Nat} (hk : k < r.Vals.length) : s_l25Field (r.Vals.getD k d_Str) = true := (good_fields h).2.2.1 _ (getD_mem hk)
theorem rowKey_ok {t : DTable} {r : DRow} {n : Str} (h : i_GoodRow t r = true) (hi : i_hasIdx t n = true) : s_l3Key (i_Table_rowWrite t r).Key = true ∧ s_l3Val (i_Table_rowWrite t r).Val = true ∧ s_l3Key (i_Table_idxKey t n r) = true := by
  obtain ⟨hg, hr, hf, hl, hc⟩ := good_fields h
  obtain ⟨hn1, hn2⟩ := idx_letters hi
  have ln1 := letters_len hn1
  have ln2 := letters_len hn2
  have hcol := (key_back h hi).1
  have f0 := fieldD h (k := 0) oM
  have f1 := fieldD h (k := ((i_Table_idx t n).Col).toNat) oM
  have l0 := field_len f0
  have l1 := field_len f1
  have hc4 := (GoodT.of hg).cols
  refine ⟨?_, ?_, ?_⟩
  · rw [row_key]
    refine l3Key_of (by simp only [lN]; omega) (by simp only [lN]; omega) fun b hb => ?_
    simp only [List.mem_append, List.mem_singleton] at hb
    rcases hb with (hb | hb) | hb
    · exact kb_letters hn1 b hb
    · rw [hb]; decide
    · exact kb_field f0 b hb _
  · show s_l3Val (g_strings_Join (r.Vals.drop 1) ([44] : Str)) = true
    unfold g_strings_Join
    have hs : ∀ x ∈ r.Vals.drop 1, s_l25Field x = true := fun x hx => hf x (List.mem_of_mem_drop hx)
    have h1 := inter_len (r.Vals.drop 1) fun x hx => by have := field_len (hs x hx); omega
    rw [List.length_drop] at h1
    refine l3Val_of oM fun b hb => ?_
    rcases inter_bytes _ b hb with hb | ⟨x, hx, hb⟩
    · rw [hb]; decide
    · exact kb_field (hs x hx) b hb _
  · unfold i_Table_idxKey i_Table_idxHead
    refine l3Key_of (by simp only [lN]; omega) (by simp only [lN]; omega) fun b hb => ?_
    simp only [List.mem_append, List.mem_singleton] at hb
    rcases hb with (((((hb | hb) | hb) | hb) | hb) | hb) | hb
    · exact kb_letters hn1 b hb
    · rw [hb]; decide
    · exact kb_letters hn2 b hb
    · rw [hb]; decide
    · exact kb_field f1 b hb _
    · rw [hb]; decide
    · exact kb_field f0 b hb _
theorem good_ops (l : List DOp) (h : l.all s_l5Op = true) (hl : l.length ≤ 8) : s_l5Good l = true := by
  unfold s_l5Good
  rw [allE d_Op s_l5Op (r := false) fun k => rfl, h, cond_true, decide_eq_true oM]
theorem op_is {k v : Str} (hk : s_l3Key k = true) (hv : s_l3Val v = true) : s_l5Op ⟨7, k, v, 0⟩ = true := by
  unfold s_l5Op
  show (bif s_l3Key k then bif s_l3Val v then true else false else _) = true
  rw [hk, hv]; rfl
theorem op_put {k v : Str} (hk : s_l3Key k = true) (hv : s_l3Val v = true) : s_l5Op ⟨2, k, v, 0⟩ = true := by
  unfold s_l5Op
  show (bif s_l3Key k then bif s_l3Val v then true else false else _) = true
  rw [hk, hv]; rfl
theorem val_nil : s_l3Val ([] : Str) = true := rfl
def eR (y : DRow) : DEntry := ⟨y.Vals.getD 1 d_Str, y.Vals.getD 0 d_Str⟩
theorem sLt_tot {a b : Str} (h1 : sLt a b = false) (h2 : sLt b a = false) : a = b := by
  have h3 : sLe a b = true := by rw [sLe_not, h2]; rfl
  unfold sLe at h3
  rw [h1, Bool.false_or] at h3
  exact eq_of_beq h3
theorem cS_neg (x y : Str) : decide (cS x y < 0) = sLt x y := by
  unfold cS
  cases sLt x y
  · cases sLe x y <;> rfl
  · rfl
theorem cS_zero (x y : Str) : decide (cS x y = 0) = decide (x = y) := by
  by_cases h : x = y
  · subst h
    rw [decide_eq_true rfl]
    unfold cS
    have h1 : sLt x x = false := by cases h : sLt x x; rfl; exact absurd h (sLt_irrefl x)
    have h2 : sLe x x = true := by unfold sLe; rw [beq_self_eq_true, Bool.or_true]
    rw [h1, h2]; rfl
  · rw [decide_eq_false h]
    unfold cS
    cases h1 : sLt x y
    · cases h2 : sLe x y
      · rfl
      · unfold sLe at h2
        rw [h1, Bool.false_or] at h2
        exact absurd (eq_of_beq h2) h
    · rfl
theorem sLt_irr (a : Str) : sLt a a = false := by cases h : sLt a a; rfl; exact absurd h (sLt_irrefl a)
theorem sLt_asym {a b : Str} (h : sLt a b = true) : sLt b a = false := by
  cases h2 : sLt b a
  · rfl
  · exact absurd (sLt_trans h h2) (sLt_irrefl _)
theorem bs_mid {i j : Int} (h0 : 0 ≤ i) (h1 : i < j) (h2 : j ≤ 2147483648) : IntKind.wrap .i64 (Int.fdiv (IntKind.wrap .u64 (IntKind.wrap .i64 (i + j))) 2) = (i + j) / 2 := by
  rw [show IntKind.wrap .i64 (i + j) = i + j from wrap_in oM, show IntKind.wrap .u64 (i + j) = i + j by simp [IntKind.wrap, IntKind.bits, IntKind.signed]; omega, Int.fdiv_eq_ediv_of_nonneg _ oM]
  exact wrap_in oM
theorem bs_rng (l : List DWrite) (k : Str) (f : DWrite → Str → Int) (hl : l.length ≤ 2147483648) : (0 ≤ (g_slices_BinarySearchFunc_string l k f).1 ∧ (g_slices_BinarySearchFunc_string l k f).1 ≤ (l.length : Int)) ∧ ((g_slices_BinarySearchFunc_string l k f).2 = true → (g_slices_BinarySearchFunc_string l k f).1 < (l.length : Int)) := by
  unfold g_slices_BinarySearchFunc_string
  refine loopW_val (body := B_g_slices_BinarySearchFunc_string_0 l k f) (fun (p : Int × Int) => 0 ≤ p.1 ∧ p.1 ≤ p.2 ∧ p.2 ≤ (l.length : Int)) (fun p => (p.2 - p.1).toNat) (fun (v : Int × Bool) => (0 ≤ v.1 ∧ v.1 ≤ (l.length : Int)) ∧ (v.2 = true → v.1 < (l.length : Int))) ?_ _ (0, (l.length : Int)) ⟨oM, (by show (0 : Int) ≤ (l.length : Int); omega), Int.le_refl _⟩ (by show ((l.length : Int) - 0).toNat < _; omega)
  rintro ⟨a, b⟩ ⟨h0, h1, h2⟩
  dsimp only at h0 h1 h2
  unfold B_g_slices_BinarySearchFunc_string_0
  dsimp only
  cases hd : decide (a < b)
  · dsimp only [cond_false]
    show (0 ≤ (bif decide (a < (l.length : Int)) then _ else _ : Int × Bool).1 ∧ _) ∧ _
    cases hd2 : decide (a < (l.length : Int))
    · exact ⟨⟨h0, by show a ≤ _; omega⟩, fun h => by cases h⟩
    · have := of_decide_eq_true hd2
      exact ⟨⟨h0, by show a ≤ _; omega⟩, fun _ => this⟩
  · have hlt := of_decide_eq_true hd
    have hm := bs_mid h0 hlt oM
    rw [hm]
    have hw : IntKind.wrap .i64 ((a + b) / 2 + 1) = (a + b) / 2 + 1 := wrap_in oM
    dsimp only [cond_true]
    show Out.sat _ _ _ (bif _ then _ else _)
    cases decide (f (l.getD ((a + b) / 2).toNat d_Write) k < 0)
    · exact ⟨⟨h0, by show a ≤ (a + b) / 2; omega, by show (a + b) / 2 ≤ _; omega⟩, by show ((a + b) / 2 - a).toNat < (b - a).toNat; omega⟩
    · rw [hw]
      exact ⟨⟨by show 0 ≤ (a + b) / 2 + 1; omega, by show (a + b) / 2 + 1 ≤ b; omega, h2⟩, by show (b - ((a + b) / 2 + 1)).toNat < (b - a).toNat; omega⟩
theorem rf_findWrite0 (l : List DWrite) (k : Str) (hl : l.length ≤ 2147483648) : (0 ≤ (i_findWrite l k).1 ∧ (i_findWrite l k).1 ≤ (l.length : Int)) ∧ ((i_findWrite l k).2 = true → (i_findWrite l k).1 < (l.length : Int)) := bs_rng l k _ hl
theorem f_findWrite {l : List DWrite} {k : Str} (h : (i_findWrite l k).2 = true) (hl : l.length ≤ 2147483648) : (i_findWrite l k).1 < (l.length : Int) := (rf_findWrite0 l k hl).2 h
theorem clone_len (l : List DWrite) : (g_slices_Clone_Write l).length = l.length := rfl
theorem isRows_len {l : List DWrite} (h : i_isRows l = true) : l.length ≤ 24 := (f_l3Writes (isRows_w h)).1
theorem noadd_100 {l : List DOp} (hl : l.length ≤ 100) (h : ∀ y ∈ l, y.Kind ≠ 4) : ∀ x ∈ ([l] : List (List DOp)), x.length ≤ 100 ∧ ∀ y ∈ x, y.Kind ≠ 4 := fun x hx => by rw [List.mem_singleton.1 hx]; exact ⟨hl, h⟩
theorem putWrite_len (l : List DWrite) (w : DWrite) : (i_putWrite l w).length ≤ l.length + 1 := by
  unfold i_putWrite
  cases (i_findWrite l w.Key).2
  · show (l.take _ ++ w :: l.drop _).length ≤ _
    rw [List.length_append, List.length_cons, List.length_take, List.length_drop]; omega
  · show (l.set _ _).length ≤ _
    rw [List.length_set]; omega
theorem current_not {buf : List DWrite} {got : List DGot} {k : Str} (h : (i_current k buf got).2.2 = false) : (got.any fun g => g.Key == k) = false := by
  revert h
  unfold i_current
  cases (i_findWrite buf k).2
  · rw [cond_false]
    refine loopM_val (fun j _ => ((got.take j).any fun g => g.Key == k) = false) (fun (v : Str × Bool × Bool) => v.2.2 = false → (got.any fun g => g.Key == k) = false) rfl (fun s hs _ => ?_) (fun j s _ hj hs => ?_)
    · rw [List.take_of_length_le oM] at hs; exact hs
    · have hj' : j < got.length := by omega
      unfold B_i_current_0
      dsimp only
      cases h1 : ((got.getD j d_Got).Key == k)
      · show ((got.take (j + 1)).any fun g => g.Key == k) = false
        have hs : ((got.take j).any fun g => g.Key == k) = false := hs
        rw [List.take_succ_eq_append_getElem hj', List.any_append, hs, ← getD_eq (d := d_Got) hj', List.any_cons, h1]; rfl
      · exact fun h => by cases h
  · exact fun h => by cases h
theorem step_asks' {l : List DOp} {got : List DGot} (h : (i_stepOps l got).1 = 1) : ∃ o ∈ l, (i_stepOps l got).2.1 = o.Key ∧ (got.any fun g => g.Key == o.Key) = false := by
  revert h
  unfold i_stepOps
  refine loopM_val (fun _ _ => True) (fun (v : Int × Str × List DWrite) => v.1 = 1 → ∃ o ∈ l, v.2.1 = o.Key ∧ (got.any fun g => g.Key == o.Key) = false) trivial (fun _ _ h => ?_) (fun j s _ hj _ => ?_)
  · cases h
  · have hm : l.getD j d_Op ∈ l := getD_mem (d := d_Op) oM
    unfold B_i_stepOps_0
    dsimp only
    cases decide ((l.getD j d_Op).Kind = 2)
    · cases decide ((l.getD j d_Op).Kind = 3)
      · cases hk : (i_current (l.getD j d_Op).Key s got).2.2
        · exact fun _ => ⟨_, hm, rfl, current_not hk⟩
        · cases i_Op_holds (l.getD j d_Op) ((i_current (l.getD j d_Op).Key s got).1) ((i_current (l.getD j d_Op).Key s got).2.1)
          · exact fun h => by cases h
          · trivial
      · trivial
    · trivial
theorem gotOf_key (rows : List DWrite) (k : Str) : (i_gotOf rows k).Key = k := by
  unfold i_gotOf
  cases (i_findWrite rows k).2 <;> rfl
theorem ask_less' {rows : List DWrite} {l : List DOp} {got : List DGot} (_ : ∀ y ∈ l, y.Kind ≠ 4) (h : (i_stepOps l got).1 = 1) : (l.filter fun o => !((got ++ ([(i_gotOf rows ((i_stepOps l got).2.1))] : List DGot)).any fun g => g.Key == o.Key)).length < (l.filter fun o => !(got.any fun g => g.Key == o.Key)).length := by
  obtain ⟨o, ho, hk, hn⟩ := step_asks' h
  refine filter_less (fun x hx => ?_) ⟨o, ho, by rw [hn]; rfl, ?_⟩
  · rw [List.any_append, Bool.not_or, Bool.and_eq_true] at hx; exact hx.1
  · rw [List.any_append, hk]
    simp [gotOf_key]
theorem putRows_24 (r w : List DWrite) : (i_putRows r w).1.length ≤ 24 := by
  unfold i_putRows
  refine loopM_val (fun _ _ => True) (fun (v : List DWrite × Bool) => v.1.length ≤ 24) trivial (fun s _ => ?_) (fun j s _ _ _ => ?_)
  · cases hd : decide (24 < ((g_slices_DeleteFunc_Write s fun y0 => i_putRows_c1 y0).length : Int))
    · have := of_decide_eq_false hd
      show (g_slices_DeleteFunc_Write s fun y0 => i_putRows_c1 y0).length ≤ 24
      omega
    · exact Nat.zero_le _
  · trivial
theorem runOps_len (s : List DWrite) (o : List DOp) : (i_runOps s o).1.length ≤ s.length ∨ (i_runOps s o).1.length ≤ 24 := by
  unfold i_runOps
  cases (i_runAlone s o).2.2
  · exact .inl (Nat.le_refl _)
  · cases (i_putRows s (i_runAlone s o).2.1).2
    · exact .inl (Nat.le_refl _)
    · exact .inr (putRows_24 _ _)
theorem del_ops {l : List DTask} {f : DTask → Bool} {n : Nat} (h : ∀ y ∈ l, y.ops.length ≤ 100 ∧ ∀ o ∈ y.ops, o.Kind ≠ 4) (hn : n < (g_slices_DeleteFunc_task (g_slices_Clone_task l) f).length) : ((g_slices_DeleteFunc_task (g_slices_Clone_task l) f).getD n d_Task).ops.length ≤ 100 ∧ ∀ o ∈ ((g_slices_DeleteFunc_task (g_slices_Clone_task l) f).getD n d_Task).ops, o.Kind ≠ 4 :=
  h _ (List.mem_filter.1 (getD_mem hn)).1

def Up (l : List DWrite) : Prop := l.Pairwise fun a b => sLt a.Key b.Key = true
structure Pos (l : List DWrite) (k : Str) (i : Nat) : Prop where
  le : i ≤ l.length
  lo : ∀ j (h : j < l.length), j < i → sLt l[j].Key k = true
  hi : ∀ j (h : j < l.length), i ≤ j → sLt l[j].Key k = false
theorem Pos.uniq {l : List DWrite} {k : Str} {i i' : Nat} (h : Pos l k i) (h' : Pos l k i') : i = i' := by
  rcases Nat.lt_trichotomy i i' with h1 | h1 | h1
  · have hl : i < l.length := by have := h'.le; omega
    have a := h'.lo i hl h1
    rw [h.hi i hl (Nat.le_refl _)] at a; cases a
  · exact h1
  · have hl : i' < l.length := by have := h.le; omega
    have a := h.lo i' hl h1
    rw [h'.hi i' hl (Nat.le_refl _)] at a; cases a
theorem Up.lt {l : List DWrite} (h : Up l) {i j : Nat} (hi : i < l.length) (hj : j < l.length) (hij : i < j) : sLt l[i].Key l[j].Key = true := List.pairwise_iff_getElem.1 h i j hi hj hij
theorem Up.down {l : List DWrite} (h : Up l) {m : Nat} {k : Str} (hm : m < l.length) (hk : sLt l[m].Key k = true) : ∀ j (h : j < l.length), j ≤ m → sLt l[j].Key k = true := fun j hj hjm => by
  rcases Nat.lt_or_ge j m with hlt | hge
  · exact sLt_trans (h.lt hj hm hlt) hk
  · obtain rfl : j = m := by omega
    exact hk
theorem Up.up {l : List DWrite} (h : Up l) {m : Nat} {k : Str} (hm : m < l.length) (hk : sLt l[m].Key k = false) : ∀ j (h : j < l.length), m ≤ j → sLt l[j].Key k = false := fun j hj hjm => by
  cases hh : sLt l[j].Key k
  · rfl
  · rw [h.down hj hh m hm hjm] at hk; cases hk
def fnd (l : List DWrite) (k : Str) (i : Nat) : Bool := decide (i < l.length) && ((l.getD i d_Write).Key == k)
theorem fnd_iff {l : List DWrite} {k : Str} {i : Nat} : fnd l k i = true ↔ ∃ h : i < l.length, l[i].Key = k := by
  unfold fnd
  rw [Bool.and_eq_true, decide_eq_true_eq]
  constructor
  · rintro ⟨h, e⟩; refine ⟨h, ?_⟩; rw [getD_eq h] at e; exact eq_of_beq e
  · rintro ⟨h, e⟩; refine ⟨h, ?_⟩; rw [getD_eq h, e]; exact beq_self_eq_true _
theorem Pos.fnd_at {l : List DWrite} (hu : Up l) {k : Str} {j : Nat} (hj : j < l.length) (e : l[j].Key = k) : Pos l k j where
  le := by omega
  lo i hi hij := e ▸ hu.lt hi hj hij
  hi i hi hij := hu.up hj (by rw [e]; exact sLt_irr k) i hi hij
theorem cmp_cS (x y : Str) : g_cmp_Compare_string x y = cS x y := by
  unfold g_cmp_Compare_string g_cmp_isNaN_string cS
  rw [beq_self_eq_true, beq_self_eq_true]; rfl
theorem find_spec {l : List DWrite} (hu : Up l) (hl : l.length ≤ 2147483648) (k : Str) : ∃ i, Pos l k i ∧ i_findWrite l k = ((i : Int), fnd l k i) := by
  have hf : (fun y0 y1 => i_findWrite_c1 y0 y1) = fun (y0 : DWrite) (y1 : Str) => cS y0.Key y1 := by funext y0 y1; exact cmp_cS _ _
  unfold i_findWrite
  rw [hf]
  suffices h : ∃ i, Pos l k i ∧ g_slices_BinarySearchFunc_string l k (fun y0 y1 => cS y0.Key y1) = ((i : Int), fnd l k i) by
    obtain ⟨i, h1, h2⟩ := h; exact ⟨i, h1, by rw [h2]⟩
  unfold g_slices_BinarySearchFunc_string
  refine loopW_val (body := B_g_slices_BinarySearchFunc_string_0 l k fun y0 y1 => cS y0.Key y1) (fun (p : Int × Int) => (0 ≤ p.1 ∧ p.1 ≤ p.2 ∧ p.2 ≤ (l.length : Int)) ∧ (∀ j (h : j < l.length), (j : Int) < p.1 → sLt l[j].Key k = true) ∧ ∀ j (h : j < l.length), p.2 ≤ (j : Int) → sLt l[j].Key k = false) (fun p => (p.2 - p.1).toNat) (fun (v : Int × Bool) => ∃ i, Pos l k i ∧ v = ((i : Int), fnd l k i)) ?_ _ (0, (l.length : Int)) ⟨⟨by omega, (by show (0 : Int) ≤ (l.length : Int); omega), Int.le_refl _⟩, fun j _ h => by dsimp only at h; omega, fun j h h2 => by dsimp only at h2; omega⟩ (by show ((l.length : Int) - 0).toNat < _; omega)
  rintro ⟨a, b⟩ ⟨⟨h0, h1, h2⟩, h3, h4⟩
  dsimp only at h0 h1 h2 h3 h4
  unfold B_g_slices_BinarySearchFunc_string_0
  dsimp only
  cases hd : decide (a < b)
  · have hge := of_decide_eq_false hd
    have hp : Pos l k a.toNat := ⟨by omega, fun j h hj => h3 j h oM, fun j h hj => h4 j h oM⟩
    dsimp only [cond_false]
    show ∃ i, Pos l k i ∧ (bif decide (a < (l.length : Int)) then (a, decide (cS (l.getD a.toNat d_Write).Key k = 0)) else (a, false)) = ((i : Int), fnd l k i)
    refine ⟨a.toNat, hp, ?_⟩
    rw [show ((a.toNat : Nat) : Int) = a by omega]
    unfold fnd
    by_cases hl2 : a < (l.length : Int)
    · rw [decide_eq_true hl2, decide_eq_true (show a.toNat < l.length by omega), cS_zero]
      show (a, _) = (a, _)
      congr 1
      rw [Bool.eq_iff_iff, decide_eq_true_eq, Bool.true_and]
      exact ⟨fun e => by rw [e]; exact beq_self_eq_true _, eq_of_beq⟩
    · rw [decide_eq_false hl2, decide_eq_false (show ¬ a.toNat < l.length by omega)]; rfl
  · have hlt := of_decide_eq_true hd
    have hm := bs_mid h0 hlt oM
    rw [hm, cS_neg]
    have hw : IntKind.wrap .i64 ((a + b) / 2 + 1) = (a + b) / 2 + 1 := wrap_in oM
    have hml : ((a + b) / 2).toNat < l.length := by omega
    rw [getD_eq hml]
    dsimp only [cond_true]
    show Out.sat _ _ _ (bif _ then _ else _)
    cases hs : sLt l[((a + b) / 2).toNat].Key k
    · exact ⟨⟨⟨h0, by show a ≤ (a + b) / 2; omega, by show (a + b) / 2 ≤ _; omega⟩, h3, fun j h hj => hu.up hml hs j h (by dsimp only at hj; omega)⟩, by show ((a + b) / 2 - a).toNat < (b - a).toNat; omega⟩
    · rw [hw]
      exact ⟨⟨⟨by show 0 ≤ (a + b) / 2 + 1; omega, by show (a + b) / 2 + 1 ≤ b; omega, h2⟩, fun j h hj => hu.down hml hs j h (by dsimp only at hj; omega), h4⟩, by show (b - ((a + b) / 2 + 1)).toNat < (b - a).toNat; omega⟩
theorem pos_ex {l : List DWrite} (hu : Up l) (hl : l.length ≤ 2147483648) (k : Str) : ∃ i, Pos l k i := by
  obtain ⟨i, h, _⟩ := find_spec hu hl k; exact ⟨i, h⟩
def putU (l : List DWrite) (w : DWrite) (i : Nat) : List DWrite := bif fnd l w.Key i then l.set i w else l.take i ++ w :: l.drop i
theorem putWrite_U {l : List DWrite} (hu : Up l) (hl : l.length ≤ 2147483648) (w : DWrite) {i : Nat} (hp : Pos l w.Key i) : i_putWrite l w = putU l w i := by
  obtain ⟨i', h, e⟩ := find_spec hu hl w.Key
  obtain rfl := hp.uniq h
  unfold i_putWrite putU
  rw [e]; rfl
theorem putW_U {l : List DWrite} (hu : Up l) (hl : l.length ≤ 1000000) (w : DWrite) {i : Nat} (hp : Pos l w.Key i) : s_l5PutW l w = putU l w i := by
  unfold s_l5PutW
  refine loopW_val (body := B_s_l5PutW_0 l w) (fun (x : Int) => (0 ≤ x ∧ x ≤ (l.length : Int)) ∧ ∀ j (h : j < l.length), x ≤ (j : Int) → sLt w.Key l[j].Key = true) (fun x => x.toNat) (fun (v : List DWrite) => v = putU l w i) ?_ _ _ ⟨⟨by omega, Int.le_refl _⟩, fun j h h2 => by omega⟩ oM
  rintro x ⟨⟨h0, h1⟩, h2⟩
  unfold B_s_l5PutW_0
  dsimp only
  have hi := hp.le
  have key : (0 < x → ∀ h : x.toNat - 1 < l.length, sLe l[x.toNat - 1].Key w.Key = true) → ((bif decide (0 < x) then (bif (l.getD (IntKind.wrap .i64 (x - 1)).toNat d_Write).Key == w.Key then ((([] : List DWrite) ++ l).set (IntKind.wrap .i64 (x - 1)).toNat w) else (((([] : List DWrite) ++ (l.take x.toNat)) ++ ([w] : List DWrite)) ++ (([] : List DWrite) ++ (l.drop x.toNat)))) else (((([] : List DWrite) ++ (l.take x.toNat)) ++ ([w] : List DWrite)) ++ (([] : List DWrite) ++ (l.drop x.toNat)))) : List DWrite) = putU l w i := fun hx => by
    have hins : ∀ q : Nat, (((([] : List DWrite) ++ (l.take q)) ++ ([w] : List DWrite)) ++ (([] : List DWrite) ++ (l.drop q))) = l.take q ++ w :: l.drop q := fun q => by simp
    rw [hins]
    by_cases hx0 : 0 < x
    · rw [decide_eq_true hx0, cond_true, wrap_in oM, show (x - 1).toNat = x.toNat - 1 by omega]
      have hxl : x.toNat - 1 < l.length := by omega
      have hle := hx hx0 hxl
      rw [getD_eq hxl]
      unfold sLe at hle
      cases he : (l[x.toNat - 1].Key == w.Key)
      · rw [he, Bool.or_false] at hle
        have e : i = x.toNat := hp.uniq ⟨by omega, fun j h hj => hu.down hxl hle j h oM, fun j h hj => sLt_asym (h2 j h oM)⟩
        have hnf : fnd l w.Key i = false := by
          rw [← Bool.not_eq_true, fnd_iff]
          rintro ⟨h, h3⟩
          have := h2 i h oM
          rw [h3] at this; exact sLt_irrefl _ this
        unfold putU
        rw [hnf, e]; rfl
      · have e : i = x.toNat - 1 := hp.uniq (Pos.fnd_at hu hxl (eq_of_beq he))
        have hf : fnd l w.Key i = true := fnd_iff.2 ⟨by omega, by subst e; exact eq_of_beq he⟩
        unfold putU
        rw [hf, e]; rfl
    · rw [decide_eq_false hx0, cond_false]
      have e : i = x.toNat := hp.uniq ⟨by omega, fun j h hj => by omega, fun j h hj => sLt_asym (h2 j h oM)⟩
      have hnf : fnd l w.Key i = false := by
        rw [← Bool.not_eq_true, fnd_iff]
        rintro ⟨h, h3⟩
        have := h2 i h oM
        rw [h3] at this; exact sLt_irrefl _ this
      unfold putU
      rw [hnf, e]; rfl
  cases hd : decide (0 < x)
  · exact key fun h => absurd h (of_decide_eq_false hd)
  · have hx0 := of_decide_eq_true hd
    have hxl : x.toNat - 1 < l.length := by omega
    rw [cond_true, wrap_in oM, show (x - 1).toNat = x.toNat - 1 by omega, getD_eq hxl]
    cases hs : sLe l[x.toNat - 1].Key w.Key
    · rw [cond_false]
      rw [sLe_not] at hs
      have hs : sLt w.Key l[x.toNat - 1].Key = true := by simpa using hs
      refine ⟨⟨⟨by omega, by omega⟩, fun j h hj => ?_⟩, by omega⟩
      rcases Nat.lt_or_ge j x.toNat with hlt | hge
      · obtain rfl : j = x.toNat - 1 := by omega
        exact hs
      · exact h2 j h oM
    · rw [cond_true]
      exact key fun _ _ => hs
theorem put_eq {l : List DWrite} (hu : Up l) (hl : l.length ≤ 1000000) (w : DWrite) : i_putWrite l w = s_l5PutW l w := by
  obtain ⟨i, hp⟩ := pos_ex hu oM w.Key
  rw [putWrite_U hu oM w hp, putW_U hu hl w hp]
theorem putU_mem {l : List DWrite} {w y : DWrite} {i : Nat} (h : y ∈ putU l w i) : y ∈ l ∨ y = w := by
  unfold putU at h
  cases hf : fnd l w.Key i
  · rw [hf, cond_false] at h
    rcases List.mem_append.1 h with h | h
    · exact .inl (List.mem_of_mem_take h)
    · rcases List.mem_cons.1 h with h | h
      · exact .inr h
      · exact .inl (List.mem_of_mem_drop h)
  · rw [hf, cond_true] at h
    exact List.mem_or_eq_of_mem_set h
theorem putU_up {l : List DWrite} (hu : Up l) {w : DWrite} {i : Nat} (hp : Pos l w.Key i) : Up (putU l w i) := by
  unfold putU
  cases hf : fnd l w.Key i
  · rw [cond_false]
    have hne : ∀ h : i < l.length, l[i].Key ≠ w.Key := fun h e => by rw [fnd_iff.2 ⟨h, e⟩] at hf; cases hf
    unfold Up
    have h0 := hu
    unfold Up at h0
    rw [← List.take_append_drop i l, List.pairwise_append] at h0
    obtain ⟨h1, h2, h3⟩ := h0
    rw [List.pairwise_append, List.pairwise_cons]
    have hd : ∀ y ∈ l.drop i, sLt w.Key y.Key = true := fun y hy => by
      obtain ⟨j, hj, rfl⟩ := List.mem_iff_getElem.1 hy
      rw [List.length_drop] at hj
      rw [List.getElem_drop]
      have hil : i + j < l.length := by omega
      cases hs : sLt w.Key l[i + j].Key
      · have e := sLt_tot hs (hp.hi (i + j) hil oM)
        rcases Nat.eq_zero_or_pos j with h0 | h0
        · subst h0; exact absurd e.symm (hne oM)
        · have h4 := hu.lt (show i < l.length by omega) hil oM
          rw [← e, hp.hi i oM (Nat.le_refl _)] at h4; cases h4
      · rfl
    have ht : ∀ x ∈ l.take i, sLt x.Key w.Key = true := fun x hx => by
      obtain ⟨j, hj, rfl⟩ := List.mem_iff_getElem.1 hx
      rw [List.length_take] at hj
      rw [List.getElem_take]
      exact hp.lo j oM oM
    refine ⟨h1, ⟨hd, h2⟩, fun a ha b hb => ?_⟩
    rcases List.mem_cons.1 hb with rfl | hb
    · exact ht a ha
    · exact h3 a ha b hb
  · rw [cond_true]
    obtain ⟨h, e⟩ := fnd_iff.1 hf
    unfold Up
    have hm : (l.set i w).map (·.Key) = l.map (·.Key) := by
      rw [List.map_set]
      apply List.ext_getElem (by simp)
      intro j h1 h2
      rw [List.getElem_set]
      split
      · rename_i hij; subst hij; rw [List.getElem_map]; exact e.symm
      · rfl
    have h1 : ((l.set i w).map (·.Key)).Pairwise fun a b => sLt a b = true := by rw [hm]; exact List.pairwise_map.2 hu
    exact List.pairwise_map.1 h1
theorem putW_up {l : List DWrite} (hu : Up l) (hl : l.length ≤ 1000000) (w : DWrite) : Up (s_l5PutW l w) ∧ (∀ y ∈ s_l5PutW l w, y ∈ l ∨ y = w) ∧ (s_l5PutW l w).length ≤ l.length + 1 := by
  obtain ⟨i, hp⟩ := pos_ex hu oM w.Key
  refine ⟨by rw [putW_U hu hl w hp]; exact putU_up hu hp, fun y hy => by rw [putW_U hu hl w hp] at hy; exact putU_mem hy, ?_⟩
  rw [← put_eq hu hl w]; exact putWrite_len l w
theorem scan_spec {l : List DWrite} (hu : Up l) (k : Str) {ρ : Type} {body : Nat → Unit → Out ρ Unit} (f : DWrite → ρ) (e : ρ) {i : Nat} (hp : Pos l k i) (hb : ∀ j, body j () = bif (l.getD j d_Write).Key == k then .ret (f (l.getD j d_Write)) else .cont ()) :
    loopE (loopM body (l.length - 0) 0 ()) (fun r => r) (fun _ => e) = bif fnd l k i then f (l.getD i d_Write) else e := by
  refine loopM_val (fun j _ => ∀ q (h : q < l.length), q < j → l[q].Key ≠ k) (fun v => v = bif fnd l k i then f (l.getD i d_Write) else e) (fun q _ h => absurd h (Nat.not_lt_zero _)) (fun s hs => ?_) (fun j s _ hj hs => ?_)
  · have : fnd l k i = false := by
      rw [← Bool.not_eq_true, fnd_iff]
      rintro ⟨h, h3⟩
      exact hs i h oM h3
    rw [this]; rfl
  · have hj' : j < l.length := by omega
    cases s
    rw [hb]
    cases hk : ((l.getD j d_Write).Key == k)
    · intro q h hq hqk
      rcases Nat.lt_or_ge q j with hlt | hge
      · exact hs q h hlt hqk
      · obtain rfl : q = j := by omega
        rw [getD_eq hj', hqk, beq_self_eq_true] at hk; cases hk
    · rw [getD_eq hj'] at hk
      have e1 := hp.uniq (Pos.fnd_at hu hj' (eq_of_beq hk))
      subst e1
      show f (l.getD i d_Write) = _
      rw [fnd_iff.2 ⟨hj', eq_of_beq hk⟩]; rfl
theorem current_eq {buf : List DWrite} (hu : Up buf) (hl : buf.length ≤ 1000000) (got : List DGot) (k : Str) : i_current k buf got = s_l5Stands buf got k := by
  obtain ⟨i, hp, e⟩ := find_spec hu oM k
  unfold i_current s_l5Stands
  rw [e, scan_spec hu k (body := B_s_l5Stands_0 buf got k) (fun w => (w.Val, !w.Gone, true)) _ hp fun j => rfl]
  cases hf : fnd buf k i
  · rfl
  · rfl
theorem gotOf_eq {rows : List DWrite} (hu : Up rows) (hl : rows.length ≤ 1000000) (k : Str) : i_gotOf rows k = s_l5Tell rows k := by
  obtain ⟨i, hp, e⟩ := find_spec hu oM k
  unfold i_gotOf s_l5Tell
  rw [e, scan_spec hu k (body := B_s_l5Tell_0 rows k) (fun w => (⟨k, w.Val, true⟩ : DGot)) _ hp fun j => rfl]
  cases hf : fnd rows k i <;> rfl
def plainOps (l : List DOp) : Prop := ∀ y ∈ l, y.Kind = 2 ∨ y.Kind = 3 ∨ y.Kind = 6 ∨ y.Kind = 7
theorem gives_put {o : DOp} (h : o.Kind = 2 ∨ o.Kind = 3) (v : Str) (th : Bool) : s_l5Gives o v th = false := by
  unfold s_l5Gives
  rw [decide_eq_false (show ¬ o.Kind = 4 by omega), decide_eq_false (show ¬ o.Kind = 5 by omega), decide_eq_false (show ¬ o.Kind = 6 by omega), decide_eq_false (show ¬ o.Kind = 7 by omega)]; rfl
theorem holds_eq {o : DOp} (h : o.Kind = 6 ∨ o.Kind = 7) (v : Str) (th : Bool) : i_Op_holds o v th = !s_l5Gives o v th := by
  unfold i_Op_holds s_l5Gives
  rw [decide_eq_false (show ¬ o.Kind = 4 by omega), decide_eq_false (show ¬ o.Kind = 5 by omega)]
  rcases h with h | h
  · rw [decide_eq_true h]; rfl
  · rw [decide_eq_false (show ¬ o.Kind = 6 by omega), decide_eq_true h]
    cases th
    · rfl
    · cases v == o.Val <;> rfl
theorem loopM_congrI {ρ σ : Type} {b b' : Nat → σ → Out ρ σ} (I : Nat → σ → Prop) : ∀ (n k : Nat) (s : σ), I k s → (∀ j s, k ≤ j → j < k + n → I j s → b j s = b' j s ∧ ∀ s', b j s = .cont s' → I (j + 1) s') → loopM b n k s = loopM b' n k s
  | 0, _, _, _, _ => rfl
  | n + 1, k, s, h0, h => by
    obtain ⟨h1, h2⟩ := h k s (Nat.le_refl _) oM h0
    simp only [loopM]
    rw [← h1]
    cases hb : b k s with
    | ret r => rfl
    | brk s => rfl
    | cont s' => exact loopM_congrI I n (k + 1) s' (h2 s' hb) fun j s h3 h4 => h j s oM oM
theorem step_body {l : List DOp} (hk : plainOps l) (hl : l.length ≤ 1000) (got : List DGot) {j : Nat} (hj : j < l.length) {x : List DWrite} (hu : Up x) (hx : x.length ≤ j) :
    B_i_stepOps_0 l got j x = B_s_l5Step_0 l got j x ∧ ∀ s', B_i_stepOps_0 l got j x = .cont s' → (Up s' ∧ s'.length ≤ j + 1) ∧ ∀ y ∈ s', y ∈ x ∨ (y.Key = (l.getD j d_Op).Key ∧ ((y.Val = (l.getD j d_Op).Val ∧ y.Gone = false ∧ (l.getD j d_Op).Kind = 2) ∨ (y.Val = [] ∧ y.Gone = true ∧ (l.getD j d_Op).Kind = 3))) := by
  have hko := hk _ (getD_mem (d := d_Op) hj)
  unfold B_i_stepOps_0 B_s_l5Step_0
  dsimp only
  generalize l.getD j d_Op = o at *
  have hc := current_eq hu oM got o.Key
  rw [hc]
  rcases hko with h2 | h3 | h67
  · have hg := gives_put (.inl h2) (s_l5Stands x got o.Key).1 (s_l5Stands x got o.Key).2.1
    have hp := putW_up hu oM (⟨o.Key, o.Val, false⟩ : DWrite)
    rw [decide_eq_true h2, hg, cond_true, put_eq hu oM]
    refine ⟨by cases (s_l5Stands x got o.Key).2.2 <;> rfl, fun s' hs => ?_⟩
    cases hs
    refine ⟨⟨hp.1, by omega⟩, fun y hy => ?_⟩
    rcases hp.2.1 y hy with h | rfl
    · exact .inl h
    · exact .inr ⟨rfl, .inl ⟨rfl, rfl, h2⟩⟩
  · have hg := gives_put (.inr h3) (s_l5Stands x got o.Key).1 (s_l5Stands x got o.Key).2.1
    have hp := putW_up hu oM (⟨o.Key, [], true⟩ : DWrite)
    rw [decide_eq_false (show ¬ o.Kind = 2 by omega), decide_eq_true h3, hg, cond_true, cond_false, put_eq hu oM]
    refine ⟨by cases (s_l5Stands x got o.Key).2.2 <;> rfl, fun s' hs => ?_⟩
    cases hs
    refine ⟨⟨hp.1, by omega⟩, fun y hy => ?_⟩
    rcases hp.2.1 y hy with h | rfl
    · exact .inl h
    · exact .inr ⟨rfl, .inr ⟨rfl, rfl, h3⟩⟩
  · rw [decide_eq_false (show ¬ o.Kind = 2 by omega), decide_eq_false (show ¬ o.Kind = 3 by omega), decide_eq_false (show ¬ o.Kind = 4 by omega), holds_eq h67]
    cases (s_l5Stands x got o.Key).2.2
    · exact ⟨rfl, fun s' hs => by cases hs⟩
    · cases s_l5Gives o (s_l5Stands x got o.Key).1 (s_l5Stands x got o.Key).2.1
      · exact ⟨rfl, fun s' hs => by cases hs; exact ⟨⟨hu, by omega⟩, fun y hy => .inl hy⟩⟩
      · exact ⟨rfl, fun s' hs => by cases hs⟩
theorem step_eq {l : List DOp} (hk : plainOps l) (hl : l.length ≤ 1000) (got : List DGot) : i_stepOps l got = s_l5Step l got := by
  unfold i_stepOps s_l5Step
  have h := loopM_congrI (b := B_i_stepOps_0 l got) (b' := B_s_l5Step_0 l got) (fun j (x : List DWrite) => Up x ∧ x.length ≤ j) (l.length - 0) 0 [] ⟨List.Pairwise.nil, Nat.le_refl _⟩ fun j s _ hj hI => by
    obtain ⟨h1, h2⟩ := step_body hk hl got (j := j) oM hI.1 hI.2
    exact ⟨h1, fun s' hs => (h2 s' hs).1⟩
  rw [h]
def Wrt (l : List DOp) (x : List DWrite) : Prop := Up x ∧ x.length ≤ l.length ∧ ∀ y ∈ x, ∃ o ∈ l, y.Key = o.Key ∧ ((y.Val = o.Val ∧ y.Gone = false ∧ o.Kind = 2) ∨ (y.Val = [] ∧ y.Gone = true ∧ o.Kind = 3))
theorem Wrt.nil (l : List DOp) : Wrt l [] := ⟨List.Pairwise.nil, Nat.zero_le _, fun _ h => by cases h⟩
theorem step_wrt {l : List DOp} (hk : plainOps l) (hl : l.length ≤ 1000) (got : List DGot) : Wrt l (s_l5Step l got).2.2 := by
  rw [← step_eq hk hl got]
  unfold i_stepOps
  refine loopM_val (fun j (x : List DWrite) => Up x ∧ x.length ≤ j ∧ ∀ y ∈ x, ∃ o ∈ l, y.Key = o.Key ∧ ((y.Val = o.Val ∧ y.Gone = false ∧ o.Kind = 2) ∨ (y.Val = [] ∧ y.Gone = true ∧ o.Kind = 3))) (fun (v : Int × Str × List DWrite) => Wrt l v.2.2) ⟨List.Pairwise.nil, Nat.le_refl _, fun _ h => by cases h⟩ (fun s hs => ⟨hs.1, by have := hs.2.1; show s.length ≤ _; omega, hs.2.2⟩) (fun j s _ hj hI => ?_)
  have hj' : j < l.length := by omega
  obtain ⟨_, h2⟩ := step_body hk hl got hj' hI.1 hI.2.1
  have hr : ∀ r, B_i_stepOps_0 l got j s = .ret r → r.2.2 = [] := fun r hr => by
    unfold B_i_stepOps_0 at hr
    dsimp only at hr
    revert hr
    cases decide ((l.getD j d_Op).Kind = 2)
    · cases decide ((l.getD j d_Op).Kind = 3)
      · cases (i_current (l.getD j d_Op).Key s got).2.2
        · intro h; cases h; rfl
        · cases i_Op_holds (l.getD j d_Op) ((i_current (l.getD j d_Op).Key s got).1) ((i_current (l.getD j d_Op).Key s got).2.1)
          · intro h; cases h; rfl
          · intro h; cases h
      · intro h; cases h
    · intro h; cases h
  have hbk : ∀ r, B_i_stepOps_0 l got j s ≠ .brk r := fun r hr => by
    unfold B_i_stepOps_0 at hr
    dsimp only at hr
    revert hr
    cases decide ((l.getD j d_Op).Kind = 2)
    · cases decide ((l.getD j d_Op).Kind = 3)
      · cases (i_current (l.getD j d_Op).Key s got).2.2
        · intro h; cases h
        · cases i_Op_holds (l.getD j d_Op) ((i_current (l.getD j d_Op).Key s got).1) ((i_current (l.getD j d_Op).Key s got).2.1)
          · intro h; cases h
          · intro h; cases h
      · intro h; cases h
    · intro h; cases h
  cases hb : B_i_stepOps_0 l got j s with
  | ret r => show Wrt l r.2.2; rw [hr r hb]; exact Wrt.nil l
  | brk s' => exact absurd hb (hbk s')
  | cont s' =>
    obtain ⟨⟨a, b⟩, c⟩ := h2 s' hb
    refine ⟨a, b, fun y hy => ?_⟩
    rcases c y hy with h | h
    · exact hI.2.2 y h
    · exact ⟨_, getD_mem (d := d_Op) hj', h⟩
theorem alone_eq {rows : List DWrite} (hu : Up rows) (hr : rows.length ≤ 1000000) {l : List DOp} (hk : plainOps l) (hl : l.length ≤ 1000) : i_runAlone rows l = s_l5Alone rows l := by
  have hb : B_i_runAlone_0 rows l = B_s_l5Alone_0 rows l := by
    funext x
    unfold B_i_runAlone_0 B_s_l5Alone_0
    dsimp only
    rw [step_eq hk hl x, gotOf_eq hu hr]
  unfold i_runAlone s_l5Alone
  rw [hb]
theorem alone_wrt (rows : List DWrite) {l : List DOp} (hk : plainOps l) (hl : l.length ≤ 1000) : Wrt l (s_l5Alone rows l).2.1 := by
  unfold s_l5Alone
  refine loopW_val (body := B_s_l5Alone_0 rows l) (fun _ => True) (fun (x : List DGot) => (l.filter fun o => !(x.any fun g => g.Key == o.Key)).length) (fun (v : List DGot × List DWrite × Bool) => Wrt l v.2.1) ?_ _ _ trivial (Nat.lt_succ_self _)
  intro x _
  unfold B_s_l5Alone_0
  dsimp only
  cases hd : decide ((s_l5Step l x).1 = 1)
  · exact step_wrt hk hl x
  · exact ⟨trivial, ask_less (rows := rows) (of_decide_eq_true hd)⟩
theorem fold_up : ∀ (w rows : List DWrite), Up rows → rows.length + w.length ≤ 1000000 → Up (w.foldl s_l5PutW rows) ∧ (∀ y ∈ w.foldl s_l5PutW rows, y ∈ rows ∨ y ∈ w) ∧ w.foldl i_putWrite rows = w.foldl s_l5PutW rows
  | [], rows, h, _ => ⟨h, fun y hy => .inl hy, rfl⟩
  | x :: w, rows, h, hl => by
    rw [List.length_cons] at hl
    obtain ⟨a, b, c⟩ := putW_up h oM x
    obtain ⟨a2, b2, c2⟩ := fold_up w (s_l5PutW rows x) a oM
    refine ⟨a2, fun y hy => ?_, ?_⟩
    · rcases b2 y hy with h | h
      · rcases b y h with h | h
        · exact .inl h
        · exact .inr (by rw [h]; exact List.mem_cons_self ..)
      · exact .inr (List.mem_cons_of_mem _ h)
    · rw [List.foldl_cons, List.foldl_cons, put_eq h oM, c2]
theorem fold_loop {T : Type} (f : List DWrite → DWrite → List DWrite) {body : Nat → List DWrite → Out T (List DWrite)} (w rows : List DWrite) (hb : ∀ j x, body j x = .cont (f x (w.getD j d_Write))) {U : Type} (fr : T → U) (fd : List DWrite → U) : loopE (loopM body (w.length - 0) 0 rows) fr fd = fd (w.foldl f rows) := by
  refine loopM_val (fun k (p : List DWrite) => p = (w.take k).foldl f rows) (fun v => v = fd (w.foldl f rows)) rfl (fun s hs => by rw [hs, List.take_of_length_le oM]) (fun j s _ hj hs => ?_)
  have hj' : j < w.length := by omega
  rw [hb]
  show f s (w.getD j d_Write) = _
  rw [List.take_succ_eq_append_getElem hj', List.foldl_append, ← hs, ← getD_eq (d := d_Write) hj']; rfl
theorem l5PutRows_fold (rows w : List DWrite) : s_l5PutRows rows w = (w.foldl s_l5PutW rows).filter fun y => !y.Gone := by
  unfold s_l5PutRows
  rw [fold_loop s_l5PutW (body := B_s_l5PutRows_0 rows w) w _ fun j x => rfl]
  rw [List.nil_append]
  generalize w.foldl s_l5PutW rows = l
  refine loopM_val (fun k (p : List DWrite) => p = (l.take k).filter fun y => !y.Gone) (fun (v : List DWrite) => v = l.filter fun y => !y.Gone) rfl (fun s h => by rw [h, List.take_of_length_le oM]) ?_
  intro j s _ hj hs
  have hj' : j < l.length := by omega
  unfold B_s_l5PutRows_1
  dsimp only
  rw [List.take_succ_eq_append_getElem hj', List.filter_append, ← hs, ← getD_eq (d := d_Write) hj', List.filter_cons]
  cases (l.getD j d_Write).Gone <;> simp
theorem putRows_eq {rows w : List DWrite} (hu : Up rows) (hl : rows.length + w.length ≤ 1000000) : i_putRows rows w = bif decide (24 < ((s_l5PutRows rows w).length : Int)) then ([], false) else (s_l5PutRows rows w, true) := by
  unfold i_putRows
  rw [fold_loop i_putWrite (body := B_i_putRows_0 rows w) w _ fun j x => rfl]
  have hc : g_slices_Clone_Write rows = rows := rfl
  rw [hc, (fold_up w rows hu hl).2.2, l5PutRows_fold]; rfl
theorem rows_up {l : List DWrite} (h : s_l5Rows l = true) : Up l := by
  have h1 := isRows_w (l5Rows_eq l ▸ h)
  rw [l3Writes_eq, Bool.and_eq_true, List.all_eq_true] at h1
  have h24 : l.length ≤ 24 := by have := of_decide_eq_true h1.2; omega
  have step : ∀ i (hi : i + 1 < l.length), sLt l[i].Key l[i + 1].Key = true := fun i hi => by
    have h3 := h1.1 (i + 1) (List.mem_range.2 hi)
    rw [Bool.and_eq_true] at h3
    have h4 := h3.2
    unfold rising at h4
    rw [decide_eq_true oM, cond_true, wrap_in oM, show (((i + 1 : Nat) : Int) - 1).toNat = i by omega, getD_eq (by rw [List.length_map]; omega), getD_eq (by rw [List.length_map]; exact hi), List.getElem_map, List.getElem_map] at h4
    exact h4
  have all : ∀ d i (hj : i + d + 1 < l.length), sLt l[i].Key l[i + d + 1].Key = true := by
    intro d
    induction d with
    | zero => exact fun i hj => step i hj
    | succ d ih => exact fun i hj => sLt_trans (ih i oM) (step (i + d + 1) oM)
  refine List.pairwise_iff_getElem.2 fun i j hi hj hij => ?_
  obtain ⟨d, rfl⟩ : ∃ d, j = i + d + 1 := ⟨j - i - 1, by omega⟩
  exact all d i hj
theorem rows_iff (l : List DWrite) : s_l5Rows l = true ↔ (∀ y ∈ l, s_l3Write y.Key y.Val y.Gone = true) ∧ (∀ y ∈ l, y.Gone = false) ∧ Up l ∧ l.length ≤ 24 := by
  constructor
  · intro h
    have hu := rows_up h
    rw [l5Rows_eq, isRows_eq, Bool.and_eq_true, l3Writes_eq, Bool.and_eq_true, List.all_eq_true, List.all_eq_true] at h
    refine ⟨fun y hy => ?_, fun y hy => by simpa using h.2 y hy, hu, by have := of_decide_eq_true h.1.2; omega⟩
    obtain ⟨j, hj, rfl⟩ := List.mem_iff_getElem.1 hy
    have h1 := h.1.1 j (List.mem_range.2 hj)
    rw [Bool.and_eq_true, getD_eq hj] at h1
    exact h1.1
  · rintro ⟨h1, h2, hu, h4⟩
    rw [l5Rows_eq, isRows_eq, Bool.and_eq_true, l3Writes_eq, Bool.and_eq_true, List.all_eq_true, List.all_eq_true]
    refine ⟨⟨fun j hj => ?_, decide_eq_true oM⟩, fun y hy => by rw [h2 y hy]; rfl⟩
    have hj := List.mem_range.1 hj
    rw [Bool.and_eq_true, getD_eq hj]
    refine ⟨h1 _ (List.getElem_mem hj), ?_⟩
    unfold rising
    by_cases h0 : 0 < j
    · rw [decide_eq_true oM, cond_true, wrap_in oM, getD_eq (by rw [List.length_map]; omega), getD_eq (by rw [List.length_map]; exact hj), List.getElem_map, List.getElem_map]
      exact hu.lt _ _ oM
    · rw [decide_eq_false oM]; rfl
theorem goodOps_op {l : List DOp} (h : s_l5Good l = true) : (∀ o ∈ l, s_l5Op o = true) ∧ l.length ≤ 8 := by
  unfold s_l5Good at h
  rw [allE d_Op s_l5Op (r := false) fun k => by unfold B_s_l5Good_0; rfl] at h
  obtain ⟨h1, h2⟩ := of_cond_f h
  exact ⟨List.all_eq_true.1 h1, by have := of_decide_eq_true h2; omega⟩
theorem wrt_write {l : List DOp} (hg : ∀ o ∈ l, s_l5Op o = true) {x : List DWrite} (h : Wrt l x) : ∀ y ∈ x, s_l3Write y.Key y.Val y.Gone = true := fun y hy => by
  obtain ⟨o, ho, hk, h2⟩ := h.2.2 y hy
  have hg := hg o ho
  unfold s_l5Op at hg
  obtain ⟨g1, g2⟩ := of_cond_f hg
  unfold s_l3Write
  rw [hk, g1]
  rcases h2 with ⟨hv, hn, h2⟩ | ⟨hv, hn, _⟩
  · rw [decide_eq_true h2, cond_true] at g2
    rw [hv, hn, (of_cond_f g2).1]; rfl
  · rw [hv, hn]; rfl
theorem putRows_good {rows w : List DWrite} (hr : s_l5Rows rows = true) (hw : ∀ y ∈ w, s_l3Write y.Key y.Val y.Gone = true) (hl : w.length ≤ 1000) : s_l5Rows (s_l5PutRows rows w) = decide ((s_l5PutRows rows w).length ≤ 24) := by
  obtain ⟨h1, h2, h3, h4⟩ := (rows_iff rows).1 hr
  obtain ⟨a, b, _⟩ := fold_up w rows h3 oM
  by_cases hlen : (s_l5PutRows rows w).length ≤ 24
  · rw [decide_eq_true hlen, rows_iff]
    rw [l5PutRows_fold] at hlen ⊢
    refine ⟨fun y hy => ?_, fun y hy => ?_, List.Pairwise.filter _ a, hlen⟩
    · rcases b y (List.mem_filter.1 hy).1 with h | h
      · exact h1 y h
      · exact hw y h
    · simpa using (List.mem_filter.1 hy).2
  · rw [decide_eq_false hlen, ← Bool.not_eq_true, rows_iff]
    exact fun h => hlen h.2.2.2
theorem runOps_eq {rows : List DWrite} {l : List DOp} (hr : s_l5Rows rows = true) (hg : s_l5Good l = true) (hk : plainOps l) : i_runOps rows l = s_l26Do rows l ∧ s_l5Rows (s_l26Do rows l).1 = true := by
  obtain ⟨h1, h2, h3, h4⟩ := (rows_iff rows).1 hr
  obtain ⟨g1, g2⟩ := goodOps_op hg
  have hw := alone_wrt rows hk oM
  have hx := wrt_write g1 hw
  have hgood := putRows_good hr hx (by have := hw.2.1; omega)
  have hput := putRows_eq (w := (s_l5Alone rows l).2.1) h3 (by have := hw.2.1; omega)
  have hrun := run_one hr hg (show s_l5Alone rows l = ((s_l5Alone rows l).1, (s_l5Alone rows l).2.1, (s_l5Alone rows l).2.2) from rfl)
  unfold i_runOps s_l26Do
  rw [alone_eq h3 oM hk oM, hput, hrun, hgood]
  by_cases hlen : (s_l5PutRows rows (s_l5Alone rows l).2.1).length ≤ 24
  · rw [decide_eq_false (show ¬ (24 : Int) < _ by omega)]
    rw [decide_eq_true hlen] at hgood ⊢
    cases (s_l5Alone rows l).2.2
    · exact ⟨rfl, hr⟩
    · exact ⟨rfl, hgood⟩
  · rw [decide_eq_true (show (24 : Int) < _ by omega), decide_eq_false hlen]
    cases (s_l5Alone rows l).2.2 <;> exact ⟨rfl, hr⟩

def OpOk (y : DOp) : Prop := s_l5Op y = true ∧ (y.Kind = 2 ∨ y.Kind = 3 ∨ y.Kind = 6 ∨ y.Kind = 7)
theorem ok_good {l : List DOp} (h : s_l5Good l = true) : okL ok_Op l := by
  obtain ⟨h1, h2⟩ := goodOps_op h
  refine okL.mk oM fun y hy => ?_
  have hg := h1 y hy
  unfold s_l5Op at hg
  obtain ⟨g1, g2⟩ := of_cond_f hg
  have hk := l3Key_len g1
  have hv : y.Val.length ≤ 24 := by
    have e0 : ∀ {c : Bool}, (bif y.Val == ([] : Str) then c else false) = true → y.Val.length ≤ 24 := fun h => by rw [eq_of_beq (of_cond_f h).1]; exact Nat.zero_le _
    revert g2
    cases decide (y.Kind = 2)
    · cases decide (y.Kind = 7)
      · cases decide (y.Kind = 4)
        · cases decide (y.Kind = 5)
          · cases decide (y.Kind = 1)
            · cases decide (y.Kind = 3)
              · intro g2; first | exact e0 g2 | exact e0 (of_cond_f g2).2 | exact e0 (of_cond_f g2).1 | (revert g2; cases decide (y.Kind = 6) <;> intro g2 <;> first | exact e0 g2 | cases g2)
              · exact e0
            · exact e0
          · exact e0
        · exact e0
      · exact fun g2 => l3Val_len (of_cond_f g2).1
    · exact fun g2 => l3Val_len (of_cond_f g2).1
  exact ⟨by show _ ≤ _; omega, by show _ ≤ _; omega⟩
theorem pieceOf {t : DTable} {n : Str} {st : List DWrite} {f : DFill} {m : Int} (h : i_arePiece t n st f m = true) : i_hasIdx t n = true ∧ i_isRows st = true ∧ i_GoodFill f = true ∧ i_within m 1 24 = true := by
  unfold i_arePiece i_isIdxStore at h
  obtain ⟨h1, h2⟩ := of_cond_f h
  obtain ⟨h3, h4⟩ := of_cond_f h1
  obtain ⟨h5, h6⟩ := of_cond_f h2
  exact ⟨h3, h4, h5, h6⟩
theorem piece_len {t : DTable} {n : Str} {st : List DWrite} {f : DFill} {m : Int} (h : i_arePiece t n st f m = true) : st.length ≤ 100 := by
  have := isRows_len (pieceOf h).2.1; omega
theorem append_map {α β : Type} (d : α) (f : α → β) (l : List α) {body : Nat → List β → Out (List β) (List β)} (hb : ∀ k x, body k x = .cont (x ++ [f (l.getD k d)])) : loopE (loopM body (l.length - 0) 0 []) (fun r => r) (fun x => x) = l.map f := by
  refine loopM_val (fun k (x : List β) => x = (l.take k).map f) (fun v => v = l.map f) rfl (fun s hs => by rw [hs, List.take_of_length_le oM]) (fun j s _ hj hs => ?_)
  have hj' : j < l.length := by omega
  rw [hb]
  show s ++ [f (l.getD j d)] = _
  rw [List.take_succ_eq_append_getElem hj', List.map_append, ← hs, ← getD_eq (d := d) hj']; rfl
theorem fills_map (t : DTable) (n : Str) (st : List DWrite) : i_Table_fills t n st = (i_Table_rowsIn t st).map fun r => ⟨(i_Table_rowWrite t r).Key, i_Table_fillOps t n r⟩ := by
  unfold i_Table_fills
  exact append_map d_Row (fun r => (⟨(i_Table_rowWrite t r).Key, i_Table_fillOps t n r⟩ : DTask)) _ fun k x => rfl
def TaskOk (y : DTask) : Prop := s_l3Key y.key = true ∧ s_l5Good y.ops = true ∧ plainOps y.ops
theorem ops_good {l : List DOp} (h : ∀ y ∈ l, OpOk y) (hl : l.length ≤ 8) : s_l5Good l = true ∧ plainOps l := ⟨good_ops _ (List.all_eq_true.2 fun y hy => (h y hy).1) hl, fun y hy => (h y hy).2⟩
theorem rowGood2 {t : DTable} (hg : s_GoodTable t = true) {r : DRow} (h : s_l25Good t r = true) : i_GoodRow t r = true := by
  rw [GoodRow_eq]
  unfold s_GoodRow
  rw [hg, h]; rfl
theorem fill_task {t : DTable} {n : Str} (hi : i_hasIdx t n = true) {r : DRow} (h : i_GoodRow t r = true) : TaskOk ⟨(i_Table_rowWrite t r).Key, i_Table_fillOps t n r⟩ := by
  obtain ⟨h1, h2, h3⟩ := rowKey_ok h hi
  refine ⟨h1, ops_good (fun y hy => ?_) (nb rfl)⟩
  unfold i_Table_fillOps at hy
  rcases List.mem_cons.1 hy with rfl | hy
  · exact ⟨op_is h1 h2, .inr (.inr (.inr rfl))⟩
  · rw [List.mem_singleton.1 hy]; exact ⟨op_put h3 val_nil, .inl rfl⟩
theorem fills_ok {t : DTable} {n : Str} (hi : i_hasIdx t n = true) (st : List DWrite) : ∀ y ∈ i_Table_fills t n st, TaskOk y := fun y hy => by
  rw [fills_map] at hy
  obtain ⟨r, hr, rfl⟩ := List.mem_map.1 hy
  have hg := hasIdx_good hi
  exact fill_task hi (rowGood2 hg (rowsIn_mem hg hr))
theorem tasks_ops {l : List DTask} (h : ∀ y ∈ l, TaskOk y) : ∀ y ∈ l, y.ops.length ≤ 100 ∧ ∀ o ∈ y.ops, o.Kind ≠ 4 := fun y hy => by
  obtain ⟨_, h2, h3⟩ := h y hy
  exact ⟨by have := (goodOps_op h2).2; omega, fun o ho => by have := h3 o ho; omega⟩
theorem tasks_ok {l : List DTask} (h : ∀ y ∈ l, TaskOk y) (hl : l.length ≤ 24) : okL ok_Task l := okL.mk oM fun y hy => by
  obtain ⟨h1, h2, _⟩ := h y hy
  exact ⟨by have := l3Key_len h1; show _ ≤ _; omega, ok_good h2⟩
theorem fills_ops {t : DTable} {n : Str} {st : List DWrite} {f : DFill} {m : Int} (h : i_arePiece t n st f m = true) : ∀ y ∈ i_Table_fills t n st, y.ops.length ≤ 100 ∧ ∀ o ∈ y.ops, o.Kind ≠ 4 := tasks_ops (fills_ok (pieceOf h).1 st)
theorem ok_fills {t : DTable} {n : Str} {st : List DWrite} {f : DFill} {m : Int} (h : i_arePiece t n st f m = true) : okL ok_Task (i_Table_fills t n st) := tasks_ok (fills_ok (pieceOf h).1 st) (by
  have h1 := rowsIn_len (pieceOf h).1 st
  have h2 := isRows_len (pieceOf h).2.1
  rw [fills_map, List.length_map]; omega)
theorem noadd_l26Fill (t : DTable) (x : DIdx) (r : DRow) : ∀ y ∈ s_l26Fill t x r, y.Kind ≠ 4 := fun y hy => by
  unfold s_l26Fill at hy
  rcases List.mem_cons.1 hy with rfl | hy
  · exact (show (7 : Int) ≠ 4 by decide)
  · rw [List.mem_singleton.1 hy]; exact (show (2 : Int) ≠ 4 by decide)
theorem lt_min2 {a b c : Int} (h : decide (a < min b c) = true) : a < b ∧ a < c := Int.lt_min.1 (of_decide_eq_true h)
theorem turn_len (s : List DWrite) (o : List (List DOp)) : (s_RunInTurn s o).1.length ≤ s.length ∨ (s_RunInTurn s o).1.length ≤ 24 := by
  unfold s_RunInTurn
  cases s_l5Rows s
  · exact .inr (Nat.zero_le _)
  · cases decide (20 < (o.length : Int))
    · refine loopM_val (fun _ (_ : Unit) => True) (fun (v : List DWrite × List Bool × Bool) => v.1.length ≤ s.length ∨ v.1.length ≤ 24) trivial (fun _ _ => ?_) (fun j _ _ _ _ => ?_)
      · refine loopM_val (fun _ (x : List DWrite × List Bool) => x.1.length ≤ s.length ∨ x.1.length ≤ 24) (fun (v : List DWrite × List Bool × Bool) => v.1.length ≤ s.length ∨ v.1.length ≤ 24) (.inl (Nat.le_refl _)) (fun _ h => h) (fun j x _ _ h => ?_)
        obtain ⟨x, y⟩ := x
        unfold B_s_RunInTurn_1
        dsimp only
        cases (s_l5Alone x (o.getD j d_LOp)).2.2
        · exact h
        · cases hr : s_l5Rows (s_l5PutRows x (s_l5Alone x (o.getD j d_LOp)).2.1)
          · exact h
          · exact .inr (l5Rows_len hr)
      · unfold B_s_RunInTurn_0
        cases s_l5Good (o.getD j d_LOp)
        · exact .inr (Nat.zero_le _)
        · trivial
    · exact .inr (Nat.zero_le _)
theorem l26Do_len (s : List DWrite) (o : List DOp) : (s_l26Do s o).1.length ≤ s.length ∨ (s_l26Do s o).1.length ≤ 24 := by
  have h := turn_len s [o]
  unfold s_l26Do
  cases decide ((((s_RunInTurn s [o]).2.1).length : Int) = 1) <;> exact h
theorem asked_len {t : DTable} {n : Str} {l : List DWrite} (h : s_l25Asked t n l = true) : l.length ≤ 24 := by
  unfold s_l25Asked at h
  have h1 := (of_cond_f (of_cond_f h).2).2
  rw [l5Rows_eq] at h1
  exact isRows_len h1
theorem del_len (l : List DTask) (f : DTask → Bool) : (g_slices_DeleteFunc_task (g_slices_Clone_task l) f).length ≤ l.length := List.length_filter_le _ _
def UpK (l : List Str) : Prop := l.Pairwise fun a b => sLt a b = true
theorem sLe_tr {a b c : Str} (h1 : sLe a b = true) (h2 : sLe b c = true) : sLe a c = true := by
  rw [sLe_not] at *
  cases h : sLt c a
  · rfl
  · cases hb : sLt b a
    · cases hc : sLt c b
      · have e1 : a = b := by
          cases hab : sLt a b
          · exact sLt_tot hab hb
          · rw [sLt_trans h hab] at hc; cases hc
        rw [e1] at h; rw [h] at hc; cases hc
      · rw [hc] at h2; cases h2
    · rw [hb] at h1; cases h1
theorem sLe_of_lt {a b : Str} (h : sLt a b = true) : sLe a b = true := by unfold sLe; rw [h]; rfl
theorem not_sLe {a b : Str} (h : sLe a b = false) : sLt b a = true := by
  rw [sLe_not] at h
  simpa using h
theorem sLe_false {a b : Str} (h : sLt b a = true) : sLe a b = false := by rw [sLe_not, h]; rfl
theorem left_any (l : List Str) (z : Str) : s_l29Left l z = l.any fun y => !(sLe y z) := by
  unfold s_l29Left
  refine loopM_val (fun k (_ : Unit) => ∀ j (h : j < l.length), j < k → sLe l[j] z = true) (fun v => v = l.any fun y => !(sLe y z)) (fun j _ h => absurd h (Nat.not_lt_zero _)) (fun _ hs => ?_) (fun j u _ hj hs => ?_)
  · refine (Bool.eq_false_iff.2 fun h => ?_).symm
    obtain ⟨y, hy, h2⟩ := List.any_eq_true.1 h
    obtain ⟨i, hi, rfl⟩ := List.mem_iff_getElem.1 hy
    rw [hs i hi oM] at h2; cases h2
  · have hj' : j < l.length := by omega
    cases u
    unfold B_s_l29Left_0
    cases h : sLe (l.getD j d_Str) z
    · refine (List.any_eq_true.2 ⟨l.getD j d_Str, getD_mem hj', ?_⟩).symm
      rw [h]; rfl
    · intro i hi hij
      rcases Nat.lt_or_ge i j with hlt | hge
      · exact hs i hi hlt
      · obtain rfl : i = j := by omega
        rw [← getD_eq (d := d_Str) hi]; exact h
theorem within_1_24 {m : Int} (h : i_within m 1 24 = true) : 1 ≤ m ∧ m ≤ 24 := by
  unfold i_within at h
  first | exact ⟨of_decide_eq_true (of_cond_f h).1, of_decide_eq_true (of_cond_f h).2⟩ | simpa using h
def isR (t : DTable) (w : DWrite) : Bool := (i_Table_readRow t w).2
theorem fills_tasks {t : DTable} (hg : s_GoodTable t = true) (n : Str) (st : List DWrite) : (i_Table_fills t n st).map (·.key) = (st.filter (isR t)).map (·.Key) := by
  rw [fills_map, rowsIn_map, List.map_map, List.map_map]
  refine List.map_congr_left fun w hw => ?_
  have := (read_wrote (by rw [GoodTable_eq]; exact hg) (List.mem_filter.1 hw).2).2
  show (i_Table_rowWrite t (i_Table_readRow t w).1).Key = w.Key
  rw [this]
theorem rowKeys_eq {t : DTable} (hg : s_GoodTable t = true) (st : List DWrite) : s_l29RowKeys t st = (st.filter (isR t)).map (·.Key) := by
  unfold s_l29RowKeys
  rw [append_map (body := B_s_l29RowKeys_0 t st) d_Row (fun r => (s_l25Write t r).Key) (s_l25Rows t st) fun k x => rfl, ← rowsIn_eq hg, rowsIn_map, List.map_map]
  refine List.map_congr_left fun w hw => ?_
  have := (read_wrote (by rw [GoodTable_eq]; exact hg) (List.mem_filter.1 hw).2).2
  show (s_l25Write t (i_Table_readRow t w).1).Key = w.Key
  rw [← rowWrite_eq, this]
def frun : List DTask → Nat → List DWrite → Str → List DWrite × Str × Nat
  | [], _, x, z => (x, z, 0)
  | _ :: _, 0, x, z => (x, z, 0)
  | y :: l, b + 1, x, z => bif (s_l26Do x y.ops).2 then ((frun l b (s_l26Do x y.ops).1 y.key).1, (frun l b (s_l26Do x y.ops).1 y.key).2.1, (frun l b (s_l26Do x y.ops).1 y.key).2.2 + 1) else (x, z, 0)
theorem frun_le : ∀ (l : List DTask) (b : Nat) (x : List DWrite) (z : Str), (frun l b x z).2.2 ≤ l.length ∧ (frun l b x z).2.1 = ((l.take (frun l b x z).2.2).map (·.key)).getLastD z
  | [], _, _, _ => ⟨Nat.le_refl _, rfl⟩
  | _ :: _, 0, _, _ => ⟨Nat.zero_le _, rfl⟩
  | y :: l, b + 1, x, z => by
    obtain ⟨h1, h2⟩ := frun_le l b (s_l26Do x y.ops).1 y.key
    unfold frun
    cases (s_l26Do x y.ops).2
    · exact ⟨Nat.zero_le _, rfl⟩
    · refine ⟨by rw [List.length_cons]; exact Nat.succ_le_succ h1, ?_⟩
      show (frun l b (s_l26Do x y.ops).1 y.key).2.1 = _
      rw [h2]
      show _ = (((y :: l).take ((frun l b (s_l26Do x y.ops).1 y.key).2.2 + 1)).map (·.key)).getLastD z
      rw [List.take_succ_cons, List.map_cons, List.getLastD_cons]
theorem entry_norow {t : DTable} (hg : s_GoodTable t = true) {n : Str} (hi : i_hasIdx t n = true) (r : DRow) (w : DWrite) (h : w.Key = i_Table_idxKey t n r) : isR t w = false := by
  unfold isR
  rw [read_row hg]
  have hn := (GoodT.of hg).name
  have h2 : (s_l25Read t w).2 = false := by
    rw [l25Read_eq]
    cases decide ((w.Key.length : Int) < 3)
    · show (_ && (_ && _)) = false
      have : ((t.Name ++ ([47] : Str)) ++ w.Key.drop 2 == w.Key) = false := by
        cases hb : ((t.Name ++ ([47] : Str)) ++ w.Key.drop 2 == w.Key)
        · rfl
        · exfalso
          have e := eq_of_beq hb
          rw [h, key_eq hi] at e
          unfold s_l25Entry at e
          obtain ⟨c, hc⟩ : ∃ c, t.Name = [c] := by
            match t.Name, hn with
            | [c], _ => exact ⟨c, rfl⟩
          rw [hc] at e
          simp at e
      rw [this]
      cases s_l25Good t (rowIn w) <;> rfl
    · rfl
  rw [h2]; rfl
theorem putU_rows {t : DTable} {l : List DWrite} {w : DWrite} (hw : ∀ y : DWrite, y.Key = w.Key → isR t y = false) (i : Nat) : (putU l w i).filter (isR t) = l.filter (isR t) := by
  unfold putU
  cases hf : fnd l w.Key i
  · rw [cond_false, List.filter_append, List.filter_cons, hw w rfl]
    show (l.take i).filter _ ++ (l.drop i).filter _ = _
    rw [← List.filter_append, List.take_append_drop]
  · rw [cond_true]
    obtain ⟨h, e⟩ := fnd_iff.1 hf
    have hs : l.set i w = l.take i ++ w :: l.drop (i + 1) := List.set_eq_take_append_cons_drop ▸ (if_pos h)
    have ht : l = l.take i ++ l[i] :: l.drop (i + 1) := by rw [← List.drop_eq_getElem_cons h, List.take_append_drop]
    rw [hs, List.filter_append, List.filter_cons, hw w rfl]
    conv => rhs; rw [ht]
    rw [List.filter_append, List.filter_cons, hw l[i] e]
    rfl
theorem fold_rows {t : DTable} : ∀ (ws l : List DWrite), Up l → l.length + ws.length ≤ 1000000 → (∀ w ∈ ws, ∀ y : DWrite, y.Key = w.Key → isR t y = false) → (ws.foldl s_l5PutW l).filter (isR t) = l.filter (isR t)
  | [], _, _, _, _ => rfl
  | w :: ws, l, hu, hl, hw => by
    rw [List.length_cons] at hl
    obtain ⟨i, hp⟩ := pos_ex hu oM w.Key
    have h1 := putW_up hu oM w
    rw [List.foldl_cons, fold_rows ws _ h1.1 oM fun w hw2 => hw w (List.mem_cons_of_mem _ hw2), putW_U hu oM w hp, putU_rows (hw w (List.mem_cons_self ..))]
theorem putRows_rows {t : DTable} {l ws : List DWrite} (hu : Up l) (hg : ∀ y ∈ l, y.Gone = false) (hl : l.length + ws.length ≤ 1000000) (hw : ∀ w ∈ ws, w.Gone = false ∧ ∀ y : DWrite, y.Key = w.Key → isR t y = false) : (s_l5PutRows l ws).filter (isR t) = l.filter (isR t) := by
  rw [l5PutRows_fold]
  obtain ⟨_, h2, _⟩ := fold_up ws l hu hl
  have e : (ws.foldl s_l5PutW l).filter (fun y => !y.Gone) = ws.foldl s_l5PutW l := List.filter_eq_self.2 fun y hy => by
    rcases h2 y hy with h | h
    · rw [hg y h]; rfl
    · rw [(hw y h).1]; rfl
  rw [e, fold_rows ws l hu hl fun w h => (hw w h).2]
theorem fill_run {t : DTable} {n : Str} (hi : i_hasIdx t n = true) {st : List DWrite} (hr : s_l5Rows st = true) {r : DRow} (h : i_GoodRow t r = true) :
    i_runOps st (i_Table_fillOps t n r) = s_l26Do st (i_Table_fillOps t n r) ∧ s_l5Rows (s_l26Do st (i_Table_fillOps t n r)).1 = true ∧ (s_l26Do st (i_Table_fillOps t n r)).1.filter (isR t) = st.filter (isR t) := by
  obtain ⟨_, g2, g3⟩ := fill_task hi h
  have g2 : s_l5Good (i_Table_fillOps t n r) = true := g2
  have g3 : plainOps (i_Table_fillOps t n r) := g3
  obtain ⟨e1, e2⟩ := runOps_eq hr g2 g3
  refine ⟨e1, e2, ?_⟩
  obtain ⟨k1, k2, hu, k4⟩ := (rows_iff st).1 hr
  have hw : Wrt (i_Table_fillOps t n r) (s_l5Alone st (i_Table_fillOps t n r)).2.1 := alone_wrt st g3 (by have := (goodOps_op g2).2; omega)
  have hrun := run_one hr g2 (show s_l5Alone st (i_Table_fillOps t n r) = ((s_l5Alone st (i_Table_fillOps t n r)).1, (s_l5Alone st (i_Table_fillOps t n r)).2.1, (s_l5Alone st (i_Table_fillOps t n r)).2.2) from rfl)
  have hput := putRows_rows (t := t) hu k2 (by have := hw.2.1; have := (goodOps_op g2).2; omega) (ws := (s_l5Alone st (i_Table_fillOps t n r)).2.1) fun w hwm => by
    obtain ⟨o, ho, hk, h2⟩ := hw.2.2 w hwm
    unfold i_Table_fillOps at ho
    rcases List.mem_cons.1 ho with rfl | ho
    · rcases h2 with ⟨_, _, h2⟩ | ⟨_, _, h2⟩
      · exact absurd h2 (show ¬ (7 : Int) = 2 by decide)
      · exact absurd h2 (show ¬ (7 : Int) = 3 by decide)
    · rw [List.mem_singleton.1 ho] at hk h2
      rcases h2 with ⟨_, h2, _⟩ | ⟨_, _, h2⟩
      · exact ⟨h2, fun y hy => entry_norow (hasIdx_good hi) hi r y (hy.trans hk)⟩
      · exact absurd h2 (show ¬ (2 : Int) = 3 by decide)
  unfold s_l26Do
  rw [hrun]
  cases ((s_l5Alone st (i_Table_fillOps t n r)).2.2 && s_l5Rows (s_l5PutRows st (s_l5Alone st (i_Table_fillOps t n r)).2.1))
  · rfl
  · exact hput
theorem frun_stop (l : List DTask) (x : List DWrite) (z : Str) : frun l 0 x z = (x, z, 0) := by cases l <;> rfl
theorem frun_nil (b : Nat) (x : List DWrite) (z : Str) : frun [] b x z = (x, z, 0) := by cases b <;> rfl
theorem piece_frun {T : List DTask} {P : List DWrite → Prop} (hP : ∀ x, P x → ∀ y ∈ T, i_runOps x y.ops = s_l26Do x y.ops ∧ P (s_l26Do x y.ops).1) {st : List DWrite} (h0 : P st) (f : DFill) (b : Nat) (hl : T.length ≤ 1000) :
    i_piece T st f b = ((frun (T.filter fun y => !(sLe y.key f.Last)) b st f.Last).1, ⟨(frun (T.filter fun y => !(sLe y.key f.Last)) b st f.Last).2.1, f.Over || decide ((frun (T.filter fun y => !(sLe y.key f.Last)) b st f.Last).2.2 = (T.filter fun y => !(sLe y.key f.Last)).length)⟩) := by
  have hrest : g_slices_DeleteFunc_task (g_slices_Clone_task T) (fun y0 => i_piece_c1 y0 f) = T.filter fun y => !(sLe y.key f.Last) := rfl
  generalize hF : (T.filter fun y => !(sLe y.key f.Last)) = F at *
  have hmF : ∀ y ∈ F, y ∈ T := fun y h => by rw [← hF] at h; exact (List.mem_filter.1 h).1
  have hlF : F.length ≤ 1000 := by rw [← hF]; exact Nat.le_trans (List.length_filter_le _ _) hl
  generalize hR : frun F b st f.Last = R
  unfold i_piece
  rw [hrest]
  refine loopW_val (body := B_i_piece_0 T st f b) (fun (s : List DWrite × Int × Str) => ∃ j : Nat, s.2.1 = j ∧ j ≤ min b F.length ∧ P s.1 ∧ R = ((frun (F.drop j) (b - j) s.1 s.2.2).1, (frun (F.drop j) (b - j) s.1 s.2.2).2.1, (frun (F.drop j) (b - j) s.1 s.2.2).2.2 + j)) (fun s => ((F.length : Int) - s.2.1).toNat) (fun (v : List DWrite × DFill) => v = (R.1, ⟨R.2.1, f.Over || decide (R.2.2 = F.length)⟩)) ?_ _ _ ⟨0, rfl, Nat.zero_le _, h0, by rw [← hR]; rfl⟩ (by show ((F.length : Int) - 0).toNat < _; omega)
  rintro ⟨x, c, z⟩ ⟨j, hc, hj, hPx, hRx⟩
  dsimp only at hc hPx hRx
  subst hc
  have fin : ∀ q : Nat, q = j → R = (x, z, q) → (bif f.Over then (g_slices_Clone_Write x, (⟨z, true⟩ : DFill)) else (g_slices_Clone_Write x, (⟨z, decide ((j : Int) = (F.length : Int))⟩ : DFill))) = (R.1, ⟨R.2.1, f.Over || decide (R.2.2 = F.length)⟩) := fun q hq hR => by
    subst hq
    rw [hR]
    have hd : decide ((q : Int) = (F.length : Int)) = decide (q = F.length) := by rw [Bool.eq_iff_iff, decide_eq_true_eq, decide_eq_true_eq]; omega
    rw [hd]
    cases f.Over <;> rfl
  unfold B_i_piece_0
  dsimp only
  rw [hrest]
  by_cases hlt : j < min b F.length
  · have hjF : j < F.length := by omega
    rw [decide_eq_true (show (j : Int) < min (b : Int) (F.length : Int) by omega), cond_true, Int.toNat_natCast, getD_eq hjF]
    obtain ⟨e1, e2⟩ := hP x hPx F[j] (hmF _ (List.getElem_mem hjF))
    rw [e1]
    have hw : IntKind.wrap .i64 ((j : Int) + 1) = ((j + 1 : Nat) : Int) := by rw [wrap_in oM]; rfl
    obtain ⟨c, hc⟩ : ∃ c, b - j = c + 1 := ⟨b - j - 1, by omega⟩
    rw [List.drop_eq_getElem_cons hjF, hc] at hRx
    unfold frun at hRx
    cases hd : (s_l26Do x F[j].ops).2
    · rw [hd] at hRx
      exact fin j rfl (by rw [hRx]; show (x, z, 0 + j) = _; rw [Nat.zero_add])
    · rw [hd, cond_true] at hRx
      refine ⟨⟨j + 1, hw, oM, e2, ?_⟩, ?_⟩
      · rw [hRx, show b - (j + 1) = c by omega]
        show (_, _, _ + 1 + j) = (_, _, _ + (j + 1))
        rw [Nat.add_assoc, Nat.add_comm 1 j]
      · show ((F.length : Int) - IntKind.wrap .i64 ((j : Int) + 1)).toNat < ((F.length : Int) - (j : Int)).toNat
        rw [hw]; omega
  · rw [decide_eq_false (show ¬ (j : Int) < min (b : Int) (F.length : Int) by omega), cond_false]
    refine fin j rfl ?_
    rw [hRx]
    by_cases hb : b ≤ F.length
    · rw [show b - j = 0 by omega, frun_stop, Nat.zero_add]
    · rw [List.drop_of_length_le (show F.length ≤ j by omega), frun_nil, Nat.zero_add]
def flr : List DTask → Int → List DWrite → Str → Int × List DWrite × Str
  | [], c, x, z => (c, x, z)
  | y :: l, c, x, z => bif decide (c = 0) then flr l c x z else bif sLe y.key z then flr l c x z else bif (s_l26Do x y.ops).2 then flr l (IntKind.wrap .i64 (c - 1)) (s_l26Do x y.ops).1 y.key else (c, x, z)
def taskF (t : DTable) (n : Str) (r : DRow) : DTask := ⟨(s_l25Write t r).Key, s_l26Fill t (t.Idxs.getD (s_l24Idx t n).toNat d_Idx) r⟩
theorem fill_flr (t : DTable) (n : Str) (st : List DWrite) (f : DFill) (m : Int) : s_l29Fill t n st f m = ((flr ((s_l25Rows t st).map (taskF t n)) m st f.Last).2.1, ⟨(flr ((s_l25Rows t st).map (taskF t n)) m st f.Last).2.2, f.Over || !(s_l29Left (s_l29RowKeys t (flr ((s_l25Rows t st).map (taskF t n)) m st f.Last).2.1) (flr ((s_l25Rows t st).map (taskF t n)) m st f.Last).2.2)⟩) := by
  unfold s_l29Fill
  generalize hR : flr ((s_l25Rows t st).map (taskF t n)) m st f.Last = R
  have fin : ∀ s : Int × List DWrite × Str, s = R → (bif f.Over then (s.2.1, (⟨s.2.2, true⟩ : DFill)) else (s.2.1, (⟨s.2.2, !(s_l29Left (s_l29RowKeys t s.2.1) s.2.2)⟩ : DFill))) = (R.2.1, ⟨R.2.2, f.Over || !(s_l29Left (s_l29RowKeys t R.2.1) R.2.2)⟩) := fun s h => by
    subst h
    cases f.Over <;> rfl
  refine loopM_val (fun j (s : Int × List DWrite × Str) => flr (((s_l25Rows t st).drop j).map (taskF t n)) s.1 s.2.1 s.2.2 = R) (fun (v : List DWrite × DFill) => v = _) hR (fun s hs => ?_) (fun j s _ hj hs => ?_)
  · rw [List.drop_of_length_le oM] at hs
    exact fin s hs
  · have hj' : j < (s_l25Rows t st).length := by omega
    rw [List.drop_eq_getElem_cons hj', ← getD_eq (d := d_Row) hj', List.map_cons] at hs
    obtain ⟨c, x, z⟩ := s
    unfold flr at hs
    unfold B_s_l29Fill_0
    dsimp only at hs ⊢
    cases h1 : decide (c = 0)
    · rw [h1, cond_false] at hs
      cases h2 : sLe (taskF t n ((s_l25Rows t st).getD j d_Row)).key z
      · rw [h2, cond_false] at hs
        rw [show sLe (s_l25Write t ((s_l25Rows t st).getD j d_Row)).Key z = false from h2]
        cases h3 : (s_l26Do x (taskF t n ((s_l25Rows t st).getD j d_Row)).ops).2
        · rw [h3, cond_false] at hs
          rw [show (s_l26Do x (s_l26Fill t (t.Idxs.getD (s_l24Idx t n).toNat d_Idx) ((s_l25Rows t st).getD j d_Row))).2 = false from h3]
          exact fin _ hs
        · rw [h3, cond_true] at hs
          rw [show (s_l26Do x (s_l26Fill t (t.Idxs.getD (s_l24Idx t n).toNat d_Idx) ((s_l25Rows t st).getD j d_Row))).2 = true from h3]
          exact hs
      · rw [h2, cond_true] at hs
        rw [show sLe (s_l25Write t ((s_l25Rows t st).getD j d_Row)).Key z = true from h2]
        exact hs
    · rw [h1, cond_true] at hs; exact hs
theorem filter_lowT {l : List DTask} {k z : Str} (h : ∀ y ∈ l, sLt k y.key = true) (hk : sLe k z = false ∨ k = z) : (l.filter fun y => !(sLe y.key z)) = l := List.filter_eq_self.2 fun y hy => by
  have h1 := h y hy
  have : sLt z y.key = true := by
    rcases hk with hk | rfl
    · exact sLt_trans (not_sLe hk) h1
    · exact h1
  rw [sLe_false this]; rfl
theorem flr_frun : ∀ (T : List DTask), T.Pairwise (fun a b => sLt a.key b.key = true) → ∀ (b : Nat) (x : List DWrite) (z : Str), b ≤ 24 →
    (flr T b x z).2 = ((frun (T.filter fun y => !(sLe y.key z)) b x z).1, (frun (T.filter fun y => !(sLe y.key z)) b x z).2.1)
  | [], _, b, x, z, _ => by rw [show ([] : List DTask).filter _ = [] from rfl, frun_nil]; rfl
  | y :: l, hu, b, x, z, hb => by
    obtain ⟨hu1, hu2⟩ := List.pairwise_cons.1 hu
    unfold flr
    cases b with
    | zero =>
      rw [show decide (((0 : Nat) : Int) = 0) = true from rfl, cond_true, flr_frun l hu2 0 x z hb, frun_stop, frun_stop]
    | succ b =>
      rw [show decide (((b + 1 : Nat) : Int) = 0) = false from decide_eq_false oM, cond_false]
      cases hz : sLe y.key z
      · have hw : IntKind.wrap .i64 (((b + 1 : Nat) : Int) - 1) = (b : Int) := by rw [wrap_in oM]; omega
        have e1 := filter_lowT (z := y.key) hu1 (.inr rfl)
        have e2 := filter_lowT (z := z) hu1 (.inl hz)
        rw [cond_false, List.filter_cons, hz, e2]
        show _ = ((frun (y :: l) (b + 1) x z).1, (frun (y :: l) (b + 1) x z).2.1)
        unfold frun
        cases (s_l26Do x y.ops).2
        · rfl
        · rw [cond_true, cond_true, hw, flr_frun l hu2 b _ _ oM, e1]
      · rw [cond_true, flr_frun l hu2 (b + 1) x z hb, List.filter_cons, hz]
        rfl
theorem frun_inv {P : List DWrite → Prop} : ∀ (l : List DTask), (∀ x, P x → ∀ y ∈ l, P (s_l26Do x y.ops).1) → ∀ (b : Nat) (x : List DWrite) (z : Str), P x → P (frun l b x z).1
  | [], _, b, x, z, h => by rw [frun_nil]; exact h
  | _ :: _, _, 0, x, z, h => h
  | y :: l, hP, b + 1, x, z, h => by
    unfold frun
    cases (s_l26Do x y.ops).2
    · exact h
    · exact frun_inv l (fun x hx y hy => hP x hx y (List.mem_cons_of_mem _ hy)) b _ _ (hP x h y (List.mem_cons_self ..))
theorem left_over2 {E : List Str} (hu : UpK E) {z : Str} {c : Nat} (hc : c ≤ (E.filter fun y => !(sLe y z)).length) :
    s_l29Left E (((E.filter fun y => !(sLe y z)).take c).getLastD z) = !decide (c = (E.filter fun y => !(sLe y z)).length) := by
  have hF : ∀ y, y ∈ (E.filter fun y => !(sLe y z)) ↔ y ∈ E ∧ sLe y z = false := fun y => by rw [List.mem_filter]; simp
  have huF : UpK (E.filter fun y => !(sLe y z)) := List.Pairwise.filter _ hu
  generalize (E.filter fun y => !(sLe y z)) = F at *
  rw [left_any]
  by_cases hlen : c = F.length
  · rw [decide_eq_true hlen, hlen, List.take_length]
    refine Bool.eq_false_iff.2 fun h => ?_
    obtain ⟨y, hyE, h2⟩ := List.any_eq_true.1 h
    have : sLe y (F.getLastD z) = true := by
      cases h3 : sLe y z
      · obtain ⟨i, hi, rfl⟩ := List.mem_iff_getElem.1 ((hF y).2 ⟨hyE, h3⟩)
        obtain ⟨q, hq⟩ : ∃ q, F.length = q + 1 := ⟨F.length - 1, by omega⟩
        have e : F.getLastD z = F[q]'oM := by
          conv => lhs; rw [← List.take_length (l := F), hq, List.take_succ_eq_append_getElem oM]
          exact List.getLastD_concat ..
        rw [e]
        rcases Nat.lt_or_ge i q with hlt | hge
        · exact sLe_of_lt (List.pairwise_iff_getElem.1 huF i q hi oM hlt)
        · obtain rfl : i = q := by omega
          unfold sLe; rw [beq_self_eq_true, Bool.or_true]
      · cases hl : F.getLast? with
        | none => rw [List.getLastD_eq_getLast?, hl]; exact h3
        | some q =>
          rw [List.getLastD_eq_getLast?, hl]
          have hq := (hF q).1 (List.mem_of_getLast? hl)
          exact sLe_tr h3 (sLe_of_lt (not_sLe hq.2))
    rw [this] at h2; cases h2
  · rw [decide_eq_false hlen]
    have hcF : c < F.length := by omega
    refine List.any_eq_true.2 ⟨F[c], ((hF _).1 (List.getElem_mem hcF)).1, ?_⟩
    cases c with
    | zero =>
      show (!(sLe F[0] z)) = true
      rw [((hF _).1 (List.getElem_mem hcF)).2]; rfl
    | succ c => rw [List.take_succ_eq_append_getElem oM, List.getLastD_concat, sLe_false (List.pairwise_iff_getElem.1 huF c (c + 1) oM oM oM)]; rfl
theorem fills_taskF {t : DTable} {n : Str} (hi : i_hasIdx t n = true) (st : List DWrite) : i_Table_fills t n st = (s_l25Rows t st).map (taskF t n) := by
  rw [fills_map, rowsIn_eq (hasIdx_good hi)]
  refine List.map_congr_left fun r _ => ?_
  unfold taskF i_Table_fillOps s_l26Fill
  rw [rowWrite_eq, key_eq hi]
theorem piece_cond (t : DTable) (n : Str) (st : List DWrite) (f : DFill) (m : Int) : (bif s_l25Asked t n st then bif s_GoodFill f then s_l29Many m else false else false) = i_arePiece t n st f m := by
  have h1 : s_l25Asked t n st = i_isIdxStore t n st := by
    unfold i_isIdxStore s_l25Asked i_hasIdx
    rw [GoodTable_eq, findIdx_eq, ← l5Rows_eq]
    cases s_GoodTable t <;> rfl
  have h3 : s_l29Many m = i_within m 1 24 := rfl
  unfold i_arePiece
  rw [h1, GoodFill_eq, h3]
theorem FillPiece_eq (t : DTable) (n : Str) (st : List DWrite) (f : DFill) (m : Int) : i_FillPiece t n st f m = s_FillPiece t n st f m ∧ (i_FillPiece t n st f m).1.length ≤ 24 := by
  have hcond := piece_cond t n st f m
  unfold i_FillPiece s_FillPiece
  cases h : i_arePiece t n st f m
  · rw [h] at hcond
    refine ⟨?_, Nat.zero_le _⟩
    revert hcond
    cases s_l25Asked t n st
    · intro _; rfl
    · cases s_GoodFill f
      · intro _; rfl
      · cases s_l29Many m
        · intro _; rfl
        · intro h; cases h
  · rw [h] at hcond
    obtain ⟨c1, c2⟩ := of_cond_f hcond
    obtain ⟨c3, c4⟩ := of_cond_f c2
    rw [c1, c3, c4]
    obtain ⟨hi, hr, _, hm⟩ := pieceOf h
    obtain ⟨hm1, hm2⟩ := within_1_24 hm
    obtain ⟨b, rfl⟩ : ∃ b : Nat, m = (b : Int) := ⟨m.toNat, by omega⟩
    have hr5 : s_l5Rows st = true := by rw [l5Rows_eq]; exact hr
    have hg := hasIdx_good hi
    have hst := isRows_len hr
    have hlen := rowsIn_len hi st
    have hk := fills_tasks hg n st
    have hP : ∀ x, (s_l5Rows x = true ∧ x.filter (isR t) = st.filter (isR t)) → ∀ y ∈ i_Table_fills t n st, i_runOps x y.ops = s_l26Do x y.ops ∧ (s_l5Rows (s_l26Do x y.ops).1 = true ∧ (s_l26Do x y.ops).1.filter (isR t) = st.filter (isR t)) := fun x hx y hy => by
      rw [fills_map] at hy
      obtain ⟨r, hrm, rfl⟩ := List.mem_map.1 hy
      obtain ⟨a1, a2, a3⟩ := fill_run hi hx.1 (rowGood2 hg (rowsIn_mem hg hrm))
      exact ⟨a1, a2, a3.trans hx.2⟩
    have hup : (i_Table_fills t n st).Pairwise (fun a b => sLt a.key b.key = true) := by
      have : UpK ((i_Table_fills t n st).map (·.key)) := by
        rw [hk]
        exact List.pairwise_map.2 (List.Pairwise.filter _ ((rows_iff st).1 hr5).2.2.1)
      exact List.pairwise_map.1 this
    have e1 := piece_frun hP ⟨hr5, rfl⟩ f b (by rw [fills_map, List.length_map]; omega)
    have e2 := flr_frun _ hup b st f.Last oM
    have e3 := fill_flr t n st f b
    rw [← fills_taskF hi st] at e3
    have hF : (((i_Table_fills t n st).filter fun y => !(sLe y.key f.Last)).map (·.key)) = ((i_Table_fills t n st).map (·.key)).filter fun y => !(sLe y f.Last) := by rw [List.filter_map]; rfl
    have hinv := frun_inv (P := fun x => s_l5Rows x = true ∧ x.filter (isR t) = st.filter (isR t)) ((i_Table_fills t n st).filter fun y => !(sLe y.key f.Last)) (fun x hx y hy => (hP x hx y (List.mem_filter.1 hy).1).2) b st f.Last ⟨hr5, rfl⟩
    obtain ⟨hcl, hz⟩ := frun_le ((i_Table_fills t n st).filter fun y => !(sLe y.key f.Last)) b st f.Last
    have hlF : ((i_Table_fills t n st).filter fun y => !(sLe y.key f.Last)).length = (((i_Table_fills t n st).map (·.key)).filter fun y => !(sLe y f.Last)).length := by rw [← hF, List.length_map]
    have hLe := left_over2 (E := (i_Table_fills t n st).map (·.key)) (List.pairwise_map.2 hup) (z := f.Last) (c := (frun ((i_Table_fills t n st).filter fun y => !(sLe y.key f.Last)) b st f.Last).2.2) (by rw [← hlF]; exact hcl)
    rw [← hlF, ← hF, ← List.map_take, ← hz] at hLe
    refine ⟨?_, ?_⟩
    · show ((i_piece (i_Table_fills t n st) st f b).1, (i_piece (i_Table_fills t n st) st f b).2, true) = ((s_l29Fill t n st f b).1, (s_l29Fill t n st f b).2, true)
      rw [e1, e3, e2]
      dsimp only
      rw [rowKeys_eq hg, hinv.2, ← hk, hLe, Bool.not_not]
    · show (i_piece (i_Table_fills t n st) st f b).1.length ≤ 24
      rw [e1]
      exact ((rows_iff _).1 hinv.1).2.2.2
theorem true_FillPiece (t : DTable) (n : Str) (l : List DWrite) (f : DFill) (m : Int) (hw : wf_Table t) (_ : wfS n) (hl : wfL wf_Write l) (_ : wf_Fill f) (_ : wfI m) : l_FnExactFillPiece t n l f m = true := by
  unfold l_FnExactFillPiece
  cases h0 : decide (1048576 < (n.length : Int))
  case true => rfl
  cases h1 : decide (l_szTable t 1048576 < 0)
  case true => rfl
  cases h2 : decide (l_szWriteS l (l_szTable t 1048576) < 0)
  case true => rfl
  cases h3 : decide (l_szFill f (l_szWriteS l (l_szTable t 1048576)) < 0)
  case true => rfl
  have hlt := szTable_len hw (of_decide_eq_false h1)
  have hll := (szok_WriteS hl (szok_Table hw (by decide) (of_decide_eq_false h1)).2 (of_decide_eq_false h2)).1.1
  have hc := (FillPiece_eq t n l f m).2
  obtain ⟨_, h3⟩ := mh_Table t 1 (by decide) oM
  obtain ⟨_, h4, _⟩ := mh_WriteS l (l_markTable t 1).1 oM oM
  obtain ⟨h5, h6, _⟩ := mh_WriteS (i_FillPiece t n l f m).1 1 (by decide) oM
  simp only [cond_false, ← (FillPiece_eq t n l f m).1, eq_Table, eq_WriteS, eq_Fill, beq_self_eq_true, cond_true, h5]
  rw [h4, decide_eq_false oM, cond_false, h6, decide_eq_false oM, cond_false, decide_true]; rfl

end Go.Proofs.YtoimdjojffkefaaGreatDoor
