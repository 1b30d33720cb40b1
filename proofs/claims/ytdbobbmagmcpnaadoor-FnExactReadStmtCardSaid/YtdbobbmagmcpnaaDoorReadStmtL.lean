/- Read Stmt: plain laws of the models. -/
import Derived.Test.YtdbobbmagmcpnaaDoorReadStmtT
set_option linter.unusedVariables false
set_option linter.unusedSimpArgs false
namespace Go.Proofs.YtdbobbmagmcpnaaDoor
open Go.RowKit Go.X
theorem szok_Idx {x : DIdx} {L : Int} (hw : wf_Idx x) (hL : 0 ≤ L ∧ L ≤ 1048576) (h : ¬ l_szIdx x L < 0) : ok_Idx x ∧ 0 ≤ l_szIdx x L ∧ l_szIdx x L ≤ 1048576 := by
  unfold l_szIdx at h ⊢
  obtain ⟨a0, e0, h⟩ := szc h
  rw [e0]
  have s0 := szS_ok hw.1 hL a0
  exact ⟨s0.1, s0.2⟩
theorem to_Idx (x : DIdx) : l_toIdx x = x := rfl
theorem eq_Idx (x : DIdx) : l_eqIdx x x = true := by unfold l_eqIdx; simp only [beq_self_eq_true, cond_true, decide_true]
theorem sze_StringS (x : List Str) (L : Int) : l_szStringS x L = szLL (fun s L => IntKind.wrap .i64 (L - (s.length : Int))) d_Str x L := by
  unfold l_szStringS szLL szL
  have : B_l_szStringS_0 x L = fun k y => bif decide (IntKind.wrap .i64 (y - ((x.getD k d_Str).length : Int)) < 0) then .ret (-1) else .cont (IntKind.wrap .i64 (y - ((x.getD k d_Str).length : Int))) := by
    funext k y; rfl
  rw [this]
theorem szok_StringS {x : List Str} {L : Int} (hw : (wfL wfS) x) (hL : 0 ≤ L ∧ L ≤ 1048576) (h : ¬ l_szStringS x L < 0) : (okL okS) x ∧ 0 ≤ l_szStringS x L ∧ l_szStringS x L ≤ 1048576 := by
  rw [sze_StringS] at h ⊢
  exact szLL_ok d_Str szS_ok hw hL h
theorem to_StringS (x : List Str) : l_toStringS x = x := toL_id d_Str (f := fun s => s) (fun _ => rfl) x
theorem eq_StringS (x : List Str) : l_eqStringS x x = true := eqL_refl d_Str (f := fun a b => a == b) (fun _ => beq_self_eq_true _) x
theorem szok_IdxS {x : List DIdx} {L : Int} (hw : (wfL wf_Idx) x) (hL : 0 ≤ L ∧ L ≤ 1048576) (h : ¬ l_szIdxS x L < 0) : (okL ok_Idx) x ∧ 0 ≤ l_szIdxS x L ∧ l_szIdxS x L ≤ 1048576 := szLL_ok d_Idx (f := l_szIdx) szok_Idx hw hL h
theorem to_IdxS (x : List DIdx) : l_toIdxS x = x := toL_id d_Idx (f := fun s => s) (fun _ => rfl) x
theorem eq_IdxS (x : List DIdx) : l_eqIdxS x x = true := eqL_refl d_Idx (f := l_eqIdx) eq_Idx x
theorem szok_Table {x : DTable} {L : Int} (hw : wf_Table x) (hL : 0 ≤ L ∧ L ≤ 1048576) (h : ¬ l_szTable x L < 0) : ok_Table x ∧ 0 ≤ l_szTable x L ∧ l_szTable x L ≤ 1048576 := by
  unfold l_szTable at h ⊢
  obtain ⟨a0, e0, h⟩ := szc h
  rw [e0]
  have s0 := szS_ok hw.1 hL a0
  obtain ⟨a1, e1, h⟩ := szc h
  rw [e1]
  have s1 := szok_StringS hw.2.1 s0.2 a1
  obtain ⟨a2, e2, h⟩ := szc h
  rw [e2]
  have s2 := szok_IdxS hw.2.2 s1.2 a2
  exact ⟨⟨s0.1, s1.1, s2.1⟩, s2.2⟩
theorem to_Table (x : DTable) : l_toTable x = x := rfl
theorem eq_Table (x : DTable) : l_eqTable x x = true := by unfold l_eqTable; simp only [eq_StringS, eq_IdxS, beq_self_eq_true, cond_true, decide_true]
theorem eq_Row (x : DRow) : l_eqRow x x = true := by unfold l_eqRow; simp only [eq_StringS, beq_self_eq_true, cond_true, decide_true]
theorem eq_RowAct (x : DRowAct) : l_eqRowAct x x = true := by unfold l_eqRowAct; simp only [eq_Row, beq_self_eq_true, cond_true, decide_true]
theorem eq_Stmt (x : DStmt) : l_eqStmt x x = true := by unfold l_eqStmt; simp only [eq_RowAct, beq_self_eq_true, cond_true, decide_true]
def mk_String (_ : Str) (k : Int) : Int × Str := (IntKind.wrap .i64 (k + 1), l_markText k)
theorem mkc_String (x : Str) (k : Int) (h0 : 0 ≤ k) (h1 : k + ((1 : Nat) : Int) ≤ 4611686018427387904) : (mk_String x k).1 = k + ((1 : Nat) : Int) := by
  unfold mk_String
  simp only [IntKind.wrap_i64]; omega
theorem mark_StringS (a : List Str) (k : Int) : l_markStringS a k = mkL mk_String a k := by
  unfold l_markStringS
  exact markE (d := d_Str) (mk := mk_String) (fun i k xs hi => by unfold B_l_markStringS_0; simp only [List.set_set, getD_set_self hi, mk_String]) a k
theorem held_StringS (a : List Str) (k : Int) (h0 : 0 ≤ k) (h1 : k + (cntL (fun _ => 1) a : Int) ≤ 4611686018427387904) : l_heldStringS (l_markStringS a k).2 k = (l_markStringS a k).1 := by
  rw [mark_StringS]
  unfold l_heldStringS
  exact heldE (d := d_Str) (mk := mk_String) (c := fun _ => 1) a k mkc_String (fun i k x hx _ _ => by unfold B_l_heldStringS_0; simp only [hx, mk_String, eq_self, decide_true, beq_self_eq_true, cond_true]) h0 h1
theorem mh_StringS (a : List Str) (k : Int) (h0 : 0 ≤ k) (h1 : k + (((1 : Nat) * a.length : Nat) : Int) ≤ 4611686018427387904) : l_heldStringS (l_markStringS a k).2 k = (l_markStringS a k).1 ∧ (l_markStringS a k).1 = k + (((1 : Nat) * a.length : Nat) : Int) ∧ (l_markStringS a k).2.length = a.length := by
  rw [← cntL_const] at h1 ⊢
  refine ⟨held_StringS a k h0 h1, ?_, ?_⟩
  · rw [mark_StringS]; exact mkL_cnt mkc_String a k h0 h1
  · rw [mark_StringS]; exact mkL_length _ _ _
theorem rf_markStringS (a : List Str) (k : Int) (h : k ≤ 9223372036854775807) : (l_markStringS a k).1 ≤ 9223372036854775807 := by
  unfold l_markStringS
  refine loopM_val (fun _ (s : Int × List Str) => s.1 ≤ 9223372036854775807) (fun (v : Int × List Str) => v.1 ≤ 9223372036854775807) h (fun s hs => hs) ?_
  rintro j ⟨k, x⟩ _ _ hk
  exact wrap_le _
theorem rf_heldStringS (a : List Str) (k : Int) (h : k ≤ 9223372036854775807) : l_heldStringS a k ≤ 9223372036854775807 := by
  unfold l_heldStringS
  refine loopM_val (fun _ (s : Int) => s ≤ 9223372036854775807) (fun v => v ≤ 9223372036854775807) h (fun s hs => hs) ?_
  intro j k' _ _ hk
  unfold B_l_heldStringS_0
  dsimp only
  cases ((a.getD j d_Str) == l_markText k') <;> first | exact wrap_le _ | exact neg1_le
theorem mh_Row (a : DRow) (k : Int) (h0 : 0 ≤ k) (h1 : k + ((1 * a.Vals.length : Nat) : Int) ≤ 4611686018427387904) : l_heldRow (l_markRow a k).2 k = (l_markRow a k).1 ∧ (l_markRow a k).1 = k + ((1 * a.Vals.length : Nat) : Int) := by
  obtain ⟨e0, n0, _⟩ := mh_StringS a.Vals k (by omega) (by omega)
  have q1 : l_heldRow (l_markRow a k).2 k = k + ((1 * a.Vals.length : Nat) : Int) := by unfold l_heldRow l_markRow; simp only [e0, n0, decide_eq_false (show ¬ k + ((1 * a.Vals.length : Nat) : Int) < 0 by omega), cond_false]
  have q2 : (l_markRow a k).1 = k + ((1 * a.Vals.length : Nat) : Int) := by unfold l_markRow; simp only [n0]
  exact ⟨q1.trans q2.symm, q2.trans (by omega)⟩
theorem rf_markRow (a : DRow) (k : Int) (h : k ≤ 9223372036854775807) : (l_markRow a k).1 ≤ 9223372036854775807 := by
  unfold l_markRow
  exact (rf_markStringS _ _ h)
theorem rf_heldRow (a : DRow) (k : Int) (h : k ≤ 9223372036854775807) : l_heldRow a k ≤ 9223372036854775807 := by
  unfold l_heldRow
  cases decide (l_heldStringS a.Vals k < 0) <;> first | exact neg1_le | exact (rf_heldStringS _ _ h)
theorem mh_RowAct (a : DRowAct) (k : Int) (h0 : 0 ≤ k) (h1 : k + ((1 * a.Old.Vals.length + 1 * a.New.Vals.length : Nat) : Int) ≤ 4611686018427387904) : l_heldRowAct (l_markRowAct a k).2 k = (l_markRowAct a k).1 ∧ (l_markRowAct a k).1 = k + ((1 * a.Old.Vals.length + 1 * a.New.Vals.length : Nat) : Int) := by
  obtain ⟨e0, n0⟩ := mh_Row a.Old k (by omega) (by omega)
  obtain ⟨e1, n1⟩ := mh_Row a.New (k + ((1 * a.Old.Vals.length : Nat) : Int)) (by omega) (by omega)
  have z0 : (⟨(l_markRow a.Old k).2.Vals⟩ : DRow) = (l_markRow a.Old k).2 := rfl
  have z1 : (⟨(l_markRow a.New (k + ((1 * a.Old.Vals.length : Nat) : Int))).2.Vals⟩ : DRow) = (l_markRow a.New (k + ((1 * a.Old.Vals.length : Nat) : Int))).2 := rfl
  have q1 : l_heldRowAct (l_markRowAct a k).2 k = (k + ((1 * a.Old.Vals.length : Nat) : Int)) + ((1 * a.New.Vals.length : Nat) : Int) := by unfold l_heldRowAct l_markRowAct; simp only [z0, z1, e0, n0, e1, n1, decide_eq_false (show ¬ k + ((1 * a.Old.Vals.length : Nat) : Int) < 0 by omega), decide_eq_false (show ¬ (k + ((1 * a.Old.Vals.length : Nat) : Int)) + ((1 * a.New.Vals.length : Nat) : Int) < 0 by omega), cond_false]
  have q2 : (l_markRowAct a k).1 = (k + ((1 * a.Old.Vals.length : Nat) : Int)) + ((1 * a.New.Vals.length : Nat) : Int) := by unfold l_markRowAct; simp only [n0, n1]
  exact ⟨q1.trans q2.symm, q2.trans (by omega)⟩
theorem rf_markRowAct (a : DRowAct) (k : Int) (h : k ≤ 9223372036854775807) : (l_markRowAct a k).1 ≤ 9223372036854775807 := by
  unfold l_markRowAct
  exact (rf_markRow _ _ (rf_markRow _ _ h))
theorem rf_heldRowAct (a : DRowAct) (k : Int) (h : k ≤ 9223372036854775807) : l_heldRowAct a k ≤ 9223372036854775807 := by
  unfold l_heldRowAct
  cases decide (l_heldRow a.Old k < 0) <;> cases decide (l_heldRow a.New (l_heldRow a.Old k) < 0) <;> first | exact neg1_le | exact (rf_heldRow _ _ (rf_heldRow _ _ h))
theorem mh_Stmt (a : DStmt) (k : Int) (h0 : 0 ≤ k) (h1 : k + ((1 * a.Act.Old.Vals.length + 1 * a.Act.New.Vals.length : Nat) : Int) ≤ 4611686018427387904) : l_heldStmt (l_markStmt a k).2 k = (l_markStmt a k).1 ∧ (l_markStmt a k).1 = k + ((1 * a.Act.Old.Vals.length + 1 * a.Act.New.Vals.length : Nat) : Int) := by
  obtain ⟨e0, n0⟩ := mh_RowAct a.Act k (by omega) (by omega)
  have z0 : (⟨a.Act.Kind, (l_markRowAct a.Act k).2.Old, (l_markRowAct a.Act k).2.New⟩ : DRowAct) = (l_markRowAct a.Act k).2 := rfl
  have q1 : l_heldStmt (l_markStmt a k).2 k = k + ((1 * a.Act.Old.Vals.length + 1 * a.Act.New.Vals.length : Nat) : Int) := by unfold l_heldStmt l_markStmt; simp only [z0, e0, n0, decide_eq_false (show ¬ k + ((1 * a.Act.Old.Vals.length + 1 * a.Act.New.Vals.length : Nat) : Int) < 0 by omega), cond_false]
  have q2 : (l_markStmt a k).1 = k + ((1 * a.Act.Old.Vals.length + 1 * a.Act.New.Vals.length : Nat) : Int) := by unfold l_markStmt; simp only [n0]
  exact ⟨q1.trans q2.symm, q2.trans (by omega)⟩
theorem rf_markStmt (a : DStmt) (k : Int) (h : k ≤ 9223372036854775807) : (l_markStmt a k).1 ≤ 9223372036854775807 := by
  unfold l_markStmt
  exact (rf_markRowAct _ _ h)
theorem rf_heldStmt (a : DStmt) (k : Int) (h : k ≤ 9223372036854775807) : l_heldStmt a k ≤ 9223372036854775807 := by
  unfold l_heldStmt
  cases decide (l_heldRowAct a.Act k < 0) <;> first | exact neg1_le | exact (rf_heldRowAct _ _ h)
theorem IndexFunc_Idx (xs : List DIdx) (f : DIdx → Bool) : g_slices_IndexFunc_Idx xs f = idxF f d_Idx xs := rfl
theorem ContainsFunc_string (xs : List Str) (f : Str → Bool) : g_slices_ContainsFunc_string xs f = xs.any f := idxF_any f d_Str xs
theorem Contains_string (xs : List Str) (y : Str) : g_slices_Contains_string xs y = xs.any (fun x => y == x) := idxF_any _ d_Str xs
def mk_Idx (_ : DIdx) (k : Int) : Int × DIdx := (IntKind.wrap .i64 ((IntKind.wrap .i64 ((IntKind.wrap .i64 (k + 1)) + 1)) + 1), ⟨l_markText k, IntKind.wrap .i64 (k + 1), IntKind.wrap .i64 ((IntKind.wrap .i64 (k + 1)) + 1)⟩)
theorem mkc_Idx (x : DIdx) (k : Int) (h0 : 0 ≤ k) (h1 : k + ((3 : Nat) : Int) ≤ 4611686018427387904) : (mk_Idx x k).1 = k + ((3 : Nat) : Int) := by
  unfold mk_Idx
  simp only [IntKind.wrap_i64]; omega
theorem mark_IdxS (a : List DIdx) (k : Int) : l_markIdxS a k = mkL mk_Idx a k := by
  unfold l_markIdxS
  exact markE (d := d_Idx) (mk := mk_Idx) (fun i k xs hi => by unfold B_l_markIdxS_0; simp only [List.set_set, getD_set_self hi, mk_Idx]) a k
theorem held_IdxS (a : List DIdx) (k : Int) (h0 : 0 ≤ k) (h1 : k + (cntL (fun _ => 3) a : Int) ≤ 4611686018427387904) : l_heldIdxS (l_markIdxS a k).2 k = (l_markIdxS a k).1 := by
  rw [mark_IdxS]
  unfold l_heldIdxS
  exact heldE (d := d_Idx) (mk := mk_Idx) (c := fun _ => 3) a k mkc_Idx (fun i k x hx _ _ => by unfold B_l_heldIdxS_0; simp only [hx, mk_Idx, eq_self, decide_true, beq_self_eq_true, cond_true]) h0 h1
theorem mh_IdxS (a : List DIdx) (k : Int) (h0 : 0 ≤ k) (h1 : k + (((3 : Nat) * a.length : Nat) : Int) ≤ 4611686018427387904) : l_heldIdxS (l_markIdxS a k).2 k = (l_markIdxS a k).1 ∧ (l_markIdxS a k).1 = k + (((3 : Nat) * a.length : Nat) : Int) ∧ (l_markIdxS a k).2.length = a.length := by
  rw [← cntL_const] at h1 ⊢
  refine ⟨held_IdxS a k h0 h1, ?_, ?_⟩
  · rw [mark_IdxS]; exact mkL_cnt mkc_Idx a k h0 h1
  · rw [mark_IdxS]; exact mkL_length _ _ _
theorem rf_markIdxS (a : List DIdx) (k : Int) (h : k ≤ 9223372036854775807) : (l_markIdxS a k).1 ≤ 9223372036854775807 := by
  unfold l_markIdxS
  refine loopM_val (fun _ (s : Int × List DIdx) => s.1 ≤ 9223372036854775807) (fun (v : Int × List DIdx) => v.1 ≤ 9223372036854775807) h (fun s hs => hs) ?_
  rintro j ⟨k, x⟩ _ _ hk
  exact wrap_le _
theorem mh_Table (a : DTable) (k : Int) (h0 : 0 ≤ k) (h1 : k + ((1 * a.Cols.length + 3 * a.Idxs.length : Nat) : Int) ≤ 4611686018427387904) : l_heldTable (l_markTable a k).2 k = (l_markTable a k).1 ∧ (l_markTable a k).1 = k + ((1 * a.Cols.length + 3 * a.Idxs.length : Nat) : Int) := by
  obtain ⟨e0, n0, _⟩ := mh_StringS a.Cols k (by omega) (by omega)
  obtain ⟨e1, n1, _⟩ := mh_IdxS a.Idxs (k + ((1 * a.Cols.length : Nat) : Int)) (by omega) (by omega)
  have q1 : l_heldTable (l_markTable a k).2 k = (k + ((1 * a.Cols.length : Nat) : Int)) + ((3 * a.Idxs.length : Nat) : Int) := by unfold l_heldTable l_markTable; simp only [e0, n0, e1, n1, decide_eq_false (show ¬ k + ((1 * a.Cols.length : Nat) : Int) < 0 by omega), decide_eq_false (show ¬ (k + ((1 * a.Cols.length : Nat) : Int)) + ((3 * a.Idxs.length : Nat) : Int) < 0 by omega), cond_false]
  have q2 : (l_markTable a k).1 = (k + ((1 * a.Cols.length : Nat) : Int)) + ((3 * a.Idxs.length : Nat) : Int) := by unfold l_markTable; simp only [n0, n1]
  exact ⟨q1.trans q2.symm, q2.trans (by omega)⟩
theorem rf_markTable (a : DTable) (k : Int) (h : k ≤ 9223372036854775807) : (l_markTable a k).1 ≤ 9223372036854775807 := by
  unfold l_markTable
  exact (rf_markIdxS _ _ (rf_markStringS _ _ h))
theorem within_eq : i_within = s_l1In := rfl
theorem f_l1In {n lo hi : Int} (h : s_l1In n lo hi = true) : lo ≤ n ∧ n ≤ hi := by
  unfold s_l1In at h
  obtain ⟨h1, h2⟩ := of_cond_f h
  exact ⟨of_decide_eq_true h1, of_decide_eq_true h2⟩
theorem f_within {n lo hi : Int} (h : i_within n lo hi = true) : lo ≤ n ∧ n ≤ hi := f_l1In h
theorem indexByte_neg (l : List UInt8) (c : UInt8) : decide (Lib.indexByte l c < 0) = !(l.contains c) := by
  induction l with
  | nil => rfl
  | cons b l ih =>
    have hge := Lib.indexByte_ge l c
    rw [Bool.eq_iff_iff] at ih ⊢
    simp only [decide_eq_true_eq, Bool.not_eq_true', List.contains_cons] at ih ⊢
    unfold Lib.indexByte
    by_cases hb : b = c
    · subst hb; simp
    · have hb1 : (b == c) = false := by simpa using hb
      have hb2 : (c == b) = false := by simpa using fun h => hb h.symm
      rw [hb1, hb2]
      simp only [Bool.false_or, Bool.false_eq_true, if_false]
      split
      · rename_i h
        have : Lib.indexByte l c = -1 := by simpa using h
        rw [← ih]; omega
      · rename_i h
        have : Lib.indexByte l c ≠ -1 := by simpa using h
        constructor
        · intro h; omega
        · intro h; have := ih.2 h; omega
theorem byte_back (b : UInt8) : ((b.toNat : Int)).toNat.toUInt8 = b := by simp
theorem idxB_neg (s : Str) (b : UInt8) : decide (idxB s (b.toNat : Int) < 0) = !(s.contains b) := by
  unfold idxB
  rw [byte_back, indexByte_neg]
def byteOk (more : Str) (b : UInt8) : Bool := i_isLowerOrDigit (b.toNat : Int) || more.contains b
theorem hasBytes_eq (s more : Str) : i_hasBytes s more = s.all (byteOk more) := by
  unfold i_hasBytes
  rw [allE (0 : UInt8) (byteOk more) (r := false) fun k => by
    unfold B_i_hasBytes_0 byteOk g_strings_IndexByte g_internal_stringslite_IndexByte
    rw [idxB_neg]
    cases i_isLowerOrDigit ((s.getD k 0).toNat : Int) <;> cases more.contains (s.getD k 0) <;> rfl]
  cases s.all (byteOk more) <;> rfl
theorem toNat_eq (a b : UInt8) : decide ((a.toNat : Int) = (b.toNat : Int)) = (a == b) := by
  rw [Bool.eq_iff_iff, decide_eq_true_iff, beq_iff_eq]
  constructor
  · intro h; exact UInt8.toNat.inj (by omega)
  · intro h; rw [h]
theorem l3B1 {T : Type} (s more : Str) (k : Nat) (x0 : Bool) (fr : Bool → T) (fd : Bool → T) : loopE (loopM (B_s_l3Bytes_1 s more k) (more.length - 0) 0 x0) fr fd = fd (x0 || more.contains (s.getD k 0)) := by
  rw [orE (0 : UInt8) (fun b => (s.getD k 0) == b) fun j x => by
    unfold B_s_l3Bytes_1
    rw [toNat_eq]
    cases x <;> rfl]
  rw [List.contains_eq_any_beq]
theorem l3Bytes_eq (s more : Str) : s_l3Bytes s more = s.all (byteOk more) := by
  unfold s_l3Bytes
  rw [allE (0 : UInt8) (byteOk more) (r := false) fun k => by
    unfold B_s_l3Bytes_0 byteOk i_isLowerOrDigit
    simp only [l3B1]
    cases decide (97 ≤ ((s.getD k 0).toNat : Int)) <;> cases decide (((s.getD k 0).toNat : Int) ≤ 122) <;> cases decide (48 ≤ ((s.getD k 0).toNat : Int)) <;> cases decide (((s.getD k 0).toNat : Int) ≤ 57) <;> cases more.contains (s.getD k 0) <;> rfl]
  cases s.all (byteOk more) <;> rfl
theorem letters_eq : i_areLetters = s_l24Letters := by
  funext s m
  unfold i_areLetters s_l24Letters
  rfl
theorem isField_eq (s : Str) : i_isField s = s_l25Field s := by
  unfold i_isField s_l25Field
  rw [hasBytes_eq, l3Bytes_eq, within_eq]
theorem l25Good_eq (t : DTable) (r : DRow) : s_l25Good t r = (r.Vals.all s_l25Field && decide ((r.Vals.length : Int) = (t.Cols.length : Int))) := by
  unfold s_l25Good
  rw [allE d_Str s_l25Field (r := false) fun k => rfl]
  cases r.Vals.all s_l25Field <;> rfl
theorem isRow_eq (t : DTable) (r : DRow) : i_Table_isRow t r = s_l25Good t r := by
  rw [l25Good_eq]
  unfold i_Table_isRow
  rw [ContainsFunc_string, List.not_any_eq_all_not]
  unfold i_Table_isRow_c1
  simp only [Bool.not_not, isField_eq]
  cases decide ((r.Vals.length : Int) = (t.Cols.length : Int)) <;> cases (r.Vals.all fun x => s_l25Field x) <;> rfl
theorem l24At_neg (l : List Str) (s : Str) : decide (0 ≤ s_l24At l s) = l.any fun x => x == s := by
  have : s_l24At l s = idxF (fun x => x == s) d_Str l := rfl
  rw [this, idxF_any]
def colOk (l : List Str) (k : Nat) : Bool := s_l24Letters (l.getD k d_Str) 3 && !((l.take k).any fun x => x == l.getD k d_Str)
theorem l24Cols_eq (l : List Str) : s_l24Cols l = ((List.range l.length).all (colOk l) && s_l1In (l.length : Int) 2 4) := by
  unfold s_l24Cols
  rw [loopU (colOk l) (r := false) fun k _ => by
    unfold B_s_l24Cols_0 colOk
    rw [l24At_neg]
    cases s_l24Letters (l.getD k d_Str) 3 <;> cases ((l.take k).any fun x => x == l.getD k d_Str) <;> rfl]
  cases (List.range l.length).all (colOk l) <;> rfl
theorem GoodTable_eq (t : DTable) : i_GoodTable t = s_GoodTable t := by
  unfold i_GoodTable s_GoodTable
  rw [l24Cols_eq, letters_eq, within_eq]
  rw [loopU (colOk t.Cols) (r := false) fun k _ => by
    unfold B_i_GoodTable_0 colOk
    rw [Contains_string, letters_eq]
    rw [show ((t.Cols.take k).any fun x => t.Cols.getD k d_Str == x) = ((t.Cols.take k).any fun x => x == t.Cols.getD k d_Str) by congr 1; funext x; rw [Bool.beq_comm]]
    cases s_l24Letters (t.Cols.getD k d_Str) 3 <;> cases ((t.Cols.take k).any fun x => x == t.Cols.getD k d_Str) <;> rfl]
  have hb : B_i_GoodTable_1 t = B_s_GoodTable_0 t := by
    funext k u
    unfold B_i_GoodTable_1 B_s_GoodTable_0 i_isStage
    rw [letters_eq, within_eq, sLe_not]
    cases s_l24Letters ((t.Idxs.getD k d_Idx).Name) 1 <;> cases s_l1In ((t.Idxs.getD k d_Idx).Col) 1 (IntKind.wrap .i64 ((t.Cols.length : Int) - 1)) <;> cases s_l1In ((t.Idxs.getD k d_Idx).Stage) 0 3 <;> cases decide (0 < (k : Int)) <;> cases sLt ((t.Idxs.getD ((IntKind.wrap .i64 ((k : Int) - 1)).toNat) d_Idx).Name) ((t.Idxs.getD k d_Idx).Name) <;> rfl
  rw [hb]
  cases s_l24Letters t.Name 1 <;> cases s_l1In (t.Cols.length : Int) 2 4 <;> cases decide (3 < (t.Idxs.length : Int)) <;> cases (List.range t.Cols.length).all (colOk t.Cols) <;> rfl
theorem f_s_GoodTable {t : DTable} (h : s_GoodTable t = true) : 2 ≤ (t.Cols.length : Int) ∧ (t.Cols.length : Int) ≤ 4 ∧ (t.Idxs.length : Int) ≤ 3 := by
  unfold s_GoodTable at h
  obtain ⟨_, h⟩ := of_cond_f h
  obtain ⟨h1, h⟩ := of_cond_f h
  rw [l24Cols_eq, Bool.and_eq_true] at h1
  have h2 := f_l1In h1.2
  refine ⟨h2.1, h2.2, ?_⟩
  cases h3 : decide (3 < (t.Idxs.length : Int))
  · have := of_decide_eq_false h3; omega
  · rw [h3] at h; cases h
theorem f_i_GoodTable {t : DTable} (h : i_GoodTable t = true) : 2 ≤ (t.Cols.length : Int) ∧ (t.Cols.length : Int) ≤ 4 ∧ (t.Idxs.length : Int) ≤ 3 := f_s_GoodTable (GoodTable_eq t ▸ h)
theorem f_s_l25Good' {t : DTable} {r : DRow} (h : s_l25Good t r = true) : r.Vals.length = t.Cols.length := by
  rw [l25Good_eq, Bool.and_eq_true] at h
  have := of_decide_eq_true h.2
  omega
theorem isRowAct_eq (t : DTable) (a : DRowAct) : i_Table_isRowAct t a = s_l26Good t a := by
  unfold i_Table_isRowAct s_l26Good
  simp only [isRow_eq]
  cases decide (a.Kind = 1) <;> cases decide (a.Kind = 2) <;> cases decide (a.Kind = 3) <;> cases s_l25Good t a.Old <;> cases decide ((a.New.Vals.length : Int) = 0) <;> rfl
theorem findIdx_eq (t : DTable) (s : Str) : i_Table_findIdx t s = s_l24Idx t s := by
  unfold i_Table_findIdx
  rw [IndexFunc_Idx]
  rfl
theorem isBare_eq (a : DRowAct) : i_isBare a = s_l27Empty a := by
  unfold i_isBare s_l27Empty
  cases decide (a.Kind = 0) <;> cases decide ((a.Old.Vals.length : Int) = 0) <;> cases decide ((a.New.Vals.length : Int) = 0) <;> rfl
theorem isStmt_eq (t : DTable) (s : DStmt) : i_Table_isStmt t s = s_l30Good t s := by
  unfold i_Table_isStmt s_l30Good
  simp only [isRowAct_eq, isBare_eq, isField_eq, findIdx_eq]
theorem l24Idx_idxF (t : DTable) (n : Str) : s_l24Idx t n = idxF (fun y => i_Table_findIdx_c1 y n) d_Idx t.Idxs := rfl
theorem l24Idx_spec (t : DTable) (n : Str) : (s_l24Idx t n = -1 ∧ ∀ x ∈ t.Idxs, x.Name ≠ n) ∨ ∃ (k : Nat) (_ : k < t.Idxs.length), s_l24Idx t n = (k : Int) ∧ (t.Idxs.getD k d_Idx).Name = n ∧ ∀ j, j < k → (t.Idxs.getD j d_Idx).Name ≠ n := by
  rw [l24Idx_idxF]
  rcases idxF_spec (fun y => i_Table_findIdx_c1 y n) d_Idx t.Idxs with ⟨h1, h2⟩ | ⟨k, hk, h1, h2, h3⟩
  · exact .inl ⟨h1, fun x hx e => by have := h2 x hx; unfold i_Table_findIdx_c1 at this; rw [e, beq_self_eq_true] at this; cases this⟩
  · refine .inr ⟨k, hk, h1, ?_, fun j hj e => ?_⟩
    · rw [getD_eq hk]; unfold i_Table_findIdx_c1 at h2; exact eq_of_beq h2
    · have := h3 j hj; rw [getD_eq (by omega)] at e; unfold i_Table_findIdx_c1 at this; rw [e, beq_self_eq_true] at this; cases this
theorem rf_s_l24Idx (t : DTable) (n : Str) : -1 ≤ s_l24Idx t n ∧ s_l24Idx t n < (t.Idxs.length : Int) := by
  rcases l24Idx_spec t n with ⟨h, _⟩ | ⟨k, hk, h, _⟩ <;> omega
theorem rf_i_findIdx (t : DTable) (n : Str) : -1 ≤ i_Table_findIdx t n ∧ i_Table_findIdx t n < (t.Idxs.length : Int) := by rw [findIdx_eq]; exact rf_s_l24Idx t n
def rowShort (r : DRow) : Prop := ∀ v ∈ r.Vals, v.length ≤ 3
theorem rowShort.getD {r : DRow} (h : rowShort r) (k : Nat) : (r.Vals.getD k d_Str).length ≤ 3 := by
  rcases Nat.lt_or_ge k r.Vals.length with hk | hk
  · exact h _ (getD_mem hk)
  · rw [List.getD_eq_getElem?_getD, List.getElem?_eq_none hk]; exact Nat.zero_le _
theorem field_len {s : Str} (h : s_l25Field s = true) : 1 ≤ (s.length : Int) ∧ (s.length : Int) ≤ 3 := by
  unfold s_l25Field at h
  exact f_l1In (of_cond_f h).1
theorem f_s_l25Good {t : DTable} {r : DRow} (h : s_l25Good t r = true) : r.Vals.length = t.Cols.length ∧ rowShort r := by
  refine ⟨f_s_l25Good' h, fun v hv => ?_⟩
  rw [l25Good_eq, Bool.and_eq_true] at h
  have := field_len (List.all_eq_true.1 h.1 v hv)
  omega
theorem f_i_isRow {t : DTable} {r : DRow} (h : i_Table_isRow t r = true) : r.Vals.length = t.Cols.length ∧ rowShort r := f_s_l25Good (isRow_eq t r ▸ h)
theorem szTable_len {t : DTable} (hw : wf_Table t) (h : ¬ l_szTable t 1048576 < 0) : t.Cols.length ≤ 2147483648 ∧ t.Idxs.length ≤ 2147483648 := by
  have := (szok_Table hw (by decide) h).1
  exact ⟨this.2.1.1, this.2.2.1⟩
theorem Index_one (s : Str) (c : UInt8) : g_internal_stringslite_Index s [c] = Lib.indexByte s c := by
  unfold g_internal_stringslite_Index g_internal_stringslite_IndexByte idxB
  have h : ((([c] : Str).getD 0 0).toNat : Int).toNat.toUInt8 = c := by simp
  rw [h]
  cases hc : ([c] : Str) == s
  · rfl
  · have : s = [c] := (eq_of_beq hc).symm
    subst this
    simp [Lib.indexByte]
theorem rf_Index {s sub : Str} (h : sub.length = 1) : -1 ≤ g_internal_stringslite_Index s sub ∧ g_internal_stringslite_Index s sub ≤ (s.length : Int) - 1 := by
  match sub, h with
  | [c], _ =>
    rw [Index_one]
    rcases indexByte_split c s with ⟨_, h2⟩ | ⟨a, r, h1, _, h3⟩
    · rw [h2]; omega
    · rw [h3, h1]; simp only [List.length_append, List.length_cons]; omega
theorem l1Split_sp (s : Str) (b : UInt8) : s_l1Split s (b.toNat : Int) = sp b s := by
  unfold s_l1Split
  refine loopM_val (fun k (p : List Str × Int) => 0 ≤ p.2 ∧ p.2.toNat ≤ k ∧ b ∉ (s.take k).drop p.2.toNat ∧ p.1 ++ sp b (s.drop p.2.toNat) = sp b s) (fun (v : List Str) => v = sp b s) ⟨by omega, by simp, by simp, by simp⟩ ?_ ?_
  · rintro ⟨x, a⟩ ⟨h1, h2, h3, h4⟩
    dsimp only at h1 h2 h3 h4 ⊢
    rw [show s.take (0 + (s.length - 0)) = s from by rw [List.take_of_length_le (by omega)]] at h3
    rw [sp_none h3] at h4
    exact h4
  · rintro j ⟨x, a⟩ _ hj ⟨h1, h2, h3, h4⟩
    have hj' : j < s.length := by omega
    unfold B_s_l1Split_0
    dsimp only at h1 h2 h3 h4 ⊢
    have ht : (s.take (j + 1)).drop a.toNat = (s.take j).drop a.toNat ++ [s.getD j 0] := by
      rw [getD_eq hj', List.take_succ_eq_append_getElem hj', List.drop_append_of_le_length (by rw [List.length_take]; omega)]
    have hd : s.drop a.toNat = (s.take j).drop a.toNat ++ s.getD j 0 :: s.drop (j + 1) := by
      conv => lhs; rw [← List.take_append_drop j s]
      rw [List.drop_append_of_le_length (by rw [List.length_take]; omega), getD_eq hj', List.drop_eq_getElem_cons hj']
    rw [toNat_eq]
    cases hc : s.getD j 0 == b
    · refine ⟨h1, by omega, ?_, h4⟩
      rw [ht]
      intro hm
      rcases List.mem_append.1 hm with hm | hm
      · exact h3 hm
      · rw [← List.mem_singleton.1 hm] at hc; simp at hc
    · have hb : s.getD j 0 = b := eq_of_beq hc
      refine ⟨by omega, by simp, by simp, ?_⟩
      rw [hd, hb, sp_some h3] at h4
      rw [← h4, List.append_assoc]
      show x ++ ([_] ++ sp b (s.drop _)) = _
      rw [show (((j + 1 : Nat) : Int)).toNat = j + 1 from by simp]
      rfl
theorem inter_cons (sep x y : Str) (zs : List Str) : sep.intercalate (x :: y :: zs) = x ++ (sep ++ sep.intercalate (y :: zs)) := by
  simp [List.intercalate, List.intersperse]
theorem inter_one (sep x : Str) : sep.intercalate [x] = x := by simp [List.intercalate]
theorem inter_concat (sep x : Str) : ∀ xs : List Str, 0 < xs.length → sep.intercalate (xs ++ [x]) = (sep.intercalate xs ++ sep) ++ x
  | [], h => by simp at h
  | [y], _ => by show sep.intercalate (y :: x :: []) = _; rw [inter_cons, inter_one, inter_one, List.append_assoc]
  | y :: z :: zs, _ => by
    show sep.intercalate (y :: z :: (zs ++ [x])) = _
    rw [inter_cons, show z :: (zs ++ [x]) = (z :: zs) ++ [x] from rfl, inter_concat sep x (z :: zs) (Nat.succ_pos _), inter_cons]
    simp only [List.append_assoc]
theorem inter_len : ∀ xs : List Str, (∀ x ∈ xs, x.length ≤ 3) → (([44] : Str).intercalate xs).length ≤ 4 * xs.length
  | [], _ => Nat.zero_le _
  | [x], h => by have := h x (by simp); rw [inter_one, List.length_singleton]; omega
  | x :: y :: zs, h => by
    have h1 := h x (by simp)
    have h2 := inter_len (y :: zs) fun z hz => h z (List.mem_cons_of_mem _ hz)
    rw [inter_cons, List.length_append, List.length_append, List.length_cons (as := y :: zs)]
    simp only [List.length_cons, List.length_nil] at h2 ⊢
    omega
theorem join_row {r : DRow} (h : r.Vals.length ≤ 4) (hr : rowShort r) : (g_strings_Join r.Vals ([44] : Str)).length ≤ 1073741824 := by
  have := inter_len r.Vals hr
  unfold g_strings_Join; omega
theorem Join_eq (xs : List Str) (sep : Str) : s_l24Join xs sep = g_strings_Join xs sep := by
  unfold s_l24Join g_strings_Join
  refine loopM_val (fun k (s : Str) => s = sep.intercalate (xs.take k)) (fun (v : Str) => v = sep.intercalate xs) rfl (fun s h => by rw [h, List.take_of_length_le (by omega)]) ?_
  intro j s _ hj hs
  have hj' : j < xs.length := by omega
  unfold B_s_l24Join_0
  dsimp only
  rw [List.take_succ_eq_append_getElem hj', getD_eq hj']
  by_cases h0 : 0 < j
  · rw [decide_eq_true (by omega), hs, inter_concat _ _ _ (by rw [List.length_take]; omega)]; rfl
  · have : j = 0 := by omega
    subst this
    rw [decide_eq_false (by omega), hs]
    show [] ++ _ = _
    simp [List.intercalate]
def actShort (a : DRowAct) : Prop := (a.Kind ≠ 2 → 0 < a.New.Vals.length ∧ a.New.Vals.length ≤ 4 ∧ rowShort a.New) ∧ (a.Kind ≠ 1 → 0 < a.Old.Vals.length ∧ a.Old.Vals.length ≤ 4 ∧ rowShort a.Old)
def stmtShort (s : DStmt) : Prop := s.Kind ≠ 2 → s.Kind ≠ 3 → actShort s.Act
theorem actShort_of {t : DTable} {a : DRowAct} (ht : 2 ≤ (t.Cols.length : Int) ∧ (t.Cols.length : Int) ≤ 4) (h : i_Table_isRowAct t a = true) : actShort a := by
  have row : ∀ r, i_Table_isRow t r = true → 0 < r.Vals.length ∧ r.Vals.length ≤ 4 ∧ rowShort r := fun r hr => by
    obtain ⟨h1, h2⟩ := f_i_isRow hr
    exact ⟨by omega, by omega, h2⟩
  unfold i_Table_isRowAct at h
  by_cases h1 : a.Kind = 1
  · rw [decide_eq_true h1, cond_true] at h
    exact ⟨fun _ => row _ (of_cond_f h).2, fun h2 => absurd h1 h2⟩
  · rw [decide_eq_false h1, cond_false] at h
    by_cases h2 : a.Kind = 2
    · rw [decide_eq_true h2, cond_true] at h
      exact ⟨fun h3 => absurd h2 h3, fun _ => row _ (of_cond_f h).1⟩
    · rw [decide_eq_false h2, cond_false] at h
      by_cases h3 : a.Kind = 3
      · rw [decide_eq_true h3, cond_true] at h
        obtain ⟨h4, h5⟩ := of_cond_f h
        exact ⟨fun _ => row _ (of_cond_f h5).1, fun _ => row _ h4⟩
      · rw [decide_eq_false h3] at h; cases h
theorem f_i_GoodStmt {t : DTable} {s : DStmt} (h : i_GoodStmt t s = true) : stmtShort s := by
  unfold i_GoodStmt at h
  obtain ⟨h1, h2⟩ := of_cond_f h
  have h3 := f_i_GoodTable h1
  intro k2 k3
  unfold i_Table_isStmt at h2
  rw [decide_eq_false k2, decide_eq_false k3] at h2
  by_cases k1 : s.Kind = 1
  · rw [decide_eq_true k1, cond_true] at h2
    exact actShort_of ⟨h3.1, h3.2.1⟩ (of_cond_f h2).1
  · rw [decide_eq_false k1] at h2; cases h2
theorem rowText_len {r : DRow} (h : r.Vals.length ≤ 4) (hr : rowShort r) : (s_l30Row r).length ≤ 16 ∧ (i_rowText r).length ≤ 16 := by
  have := inter_len r.Vals hr
  unfold s_l30Row i_rowText
  rw [Join_eq]
  unfold g_strings_Join
  omega
theorem stmt_rows {s : DStmt} (h : stmtShort s) : s.Kind ≠ 2 → s.Kind ≠ 3 → (s.Act.Kind ≠ 2 → (s_l30Row s.Act.New).length ≤ 16 ∧ (i_rowText s.Act.New).length ≤ 16) ∧ (s.Act.Kind ≠ 1 → (s_l30Row s.Act.Old).length ≤ 16 ∧ (i_rowText s.Act.Old).length ≤ 16) := fun k2 k3 => by
  obtain ⟨h1, h2⟩ := h k2 k3
  exact ⟨fun k => rowText_len (h1 k).2.1 (h1 k).2.2, fun k => rowText_len (h2 k).2.1 (h2 k).2.2⟩

theorem rowText_eq (r : DRow) : i_rowText r = s_l30Row r := (Join_eq _ _).symm
theorem f_i_isStage {s : Int} (h : i_isStage s = true) : 0 ≤ s ∧ s ≤ 3 := f_within h
theorem okL_l1Split {s : Str} (h : okS s) {b : Int} : okL okS (s_l1Split s b) := by
  have h' : s.length ≤ 1073741824 := h
  unfold s_l1Split
  refine loopM_val (fun k (p : List Str × Int) => p.1.length ≤ k ∧ ∀ y ∈ p.1, okS y) (fun (v : List Str) => okL okS v) ⟨Nat.zero_le _, fun _ h => by cases h⟩ ?_ ?_
  · rintro ⟨x, a⟩ ⟨h1, h2⟩
    dsimp only at h1 h2 ⊢
    refine ⟨by rw [List.length_append, List.length_singleton]; omega, fun y hy => ?_⟩
    rcases List.mem_append.1 hy with hy | hy
    · exact h2 y hy
    · rw [List.mem_singleton.1 hy]; exact okS.drop h _
  · rintro j ⟨x, a⟩ _ hj ⟨h1, h2⟩
    dsimp only at h1 h2
    unfold B_s_l1Split_0
    dsimp only
    cases decide (((s.getD j 0).toNat : Int) = b)
    · exact ⟨Nat.le_succ_of_le h1, h2⟩
    · refine ⟨by rw [List.length_append, List.length_singleton]; omega, fun y hy => ?_⟩
      rcases List.mem_append.1 hy with hy | hy
      · exact h2 y hy
      · rw [List.mem_singleton.1 hy]; exact okS.drop (okS.take h _) _
theorem rf_l1Split (s : Str) (b : Int) : 1 ≤ (s_l1Split s b).length ∧ (s_l1Split s b).length ≤ s.length + 1 := by
  unfold s_l1Split
  refine loopM_val (fun k (p : List Str × Int) => p.1.length ≤ k) (fun (v : List Str) => 1 ≤ v.length ∧ v.length ≤ s.length + 1) (Nat.zero_le _) ?_ ?_
  · rintro ⟨x, a⟩ h1
    dsimp only at h1 ⊢
    rw [List.length_append, List.length_singleton]; omega
  · rintro j ⟨x, a⟩ _ hj h1
    dsimp only at h1
    unfold B_s_l1Split_0
    dsimp only
    cases decide (((s.getD j 0).toNat : Int) = b)
    · exact Nat.le_succ_of_le h1
    · show (x ++ _).length ≤ _
      rw [List.length_append, List.length_singleton]; omega
theorem rf_Split (s sep : Str) : 1 ≤ (g_strings_Split s sep).length ∧ (g_strings_Split s sep).length ≤ s.length + 1 := ⟨sp_ne _ _, sp_length _ _⟩
theorem inter_sp (c : UInt8) : ∀ s : Str, ([c] : Str).intercalate (sp c s) = s
  | [] => rfl
  | b :: s => by
    have ih := inter_sp c s
    unfold sp
    split
    · rename_i h
      subst h
      have h0 := sp_ne b s
      cases hs : sp b s with
      | nil => rw [hs] at h0; exact absurd h0 (Nat.lt_irrefl _)
      | cons x xs => rw [inter_cons, ← hs, ih]; rfl
    · have h0 := sp_ne c s
      cases hs : sp c s with
      | nil => rw [hs] at h0; exact absurd h0 (Nat.lt_irrefl _)
      | cons x xs =>
        rw [hs] at ih
        rw [List.headD_cons, List.tail_cons]
        cases xs with
        | nil => rw [inter_one] at ih ⊢; rw [ih]
        | cons y ys => rw [inter_cons] at ih ⊢; rw [List.cons_append, ih]
theorem comma_split (s : Str) : s_l1Split s 44 = sp 44 s := l1Split_sp s 44
theorem row_split (s : Str) : s_l30Row (s_l30Vals s) = s := by
  unfold s_l30Row s_l30Vals
  rw [Join_eq, comma_split]
  exact inter_sp 44 s
def stmtFit (s : DStmt) : Prop := s.Kind ≠ 2 → s.Kind ≠ 3 → (s.Act.Kind ≠ 2 → (s_l30Row s.Act.New).length ≤ 1073741824) ∧ (s.Act.Kind ≠ 1 → (s_l30Row s.Act.Old).length ≤ 1073741824)
theorem f_isStmt {t : DTable} (hg : s_GoodTable t = true) {s : DStmt} (h : i_Table_isStmt t s = true) : stmtShort s := f_i_GoodStmt (t := t) (by unfold i_GoodStmt; rw [GoodTable_eq, hg, cond_true, h])
theorem okS_getD {xs : List Str} (h : ∀ y ∈ xs, okS y) (i : Nat) : okS (xs.getD i d_Str) := by
  rw [List.getD_eq_getElem?_getD]
  cases h1 : xs[i]? with
  | none => exact ok_d_Str
  | some x => exact h x (List.mem_of_getElem? h1)
theorem rd_fit {w : List Str} (h : ∀ y ∈ w, okS y) : stmtFit (s_l30Read w) ∧ ((s_l30Read w).Kind = 1 → (s_l30Read w).Act.Kind = 3 → 0 < (s_l30Read w).Act.Old.Vals.length) := by
  have h2 : (s_l30Row (s_l30Vals (w.getD 2 d_Str))).length ≤ 1073741824 := by rw [row_split]; exact okS_getD h 2
  have h4 : (s_l30Row (s_l30Vals (w.getD 4 d_Str))).length ≤ 1073741824 := by rw [row_split]; exact okS_getD h 4
  have h0 : (s_l30Row (⟨[]⟩ : DRow)).length ≤ 1073741824 := by decide
  have hv : 0 < (s_l30Vals (w.getD 2 d_Str)).Vals.length := (rf_l1Split _ _).1
  unfold stmtFit s_l30Read
  cases decide ((w.length : Int) = 3) <;> cases decide ((w.length : Int) = 5) <;> cases (w.getD 0 d_Str) == ([103, 101, 116] : Str) <;> cases (w.getD 0 d_Str) == ([114, 97, 110, 103, 101] : Str) <;> cases (w.getD 0 d_Str) == ([105, 110, 115, 101, 114, 116] : Str) <;> cases (w.getD 0 d_Str) == ([100, 101, 108, 101, 116, 101] : Str) <;> cases (w.getD 0 d_Str) == ([117, 112, 100, 97, 116, 101] : Str) <;>
    simp only [cond_true, cond_false] <;> exact ⟨fun _ _ => ⟨fun _ => by assumption, fun _ => by assumption⟩, fun k1 k2 => by first | exact hv | exact absurd k1 (by decide) | exact absurd k2 (by decide)⟩
theorem told_fit {s : Str} (h : okS s) : stmtFit (s_l30Read (s_l1Split s 32)) ∧ ((s_l30Read (s_l1Split s 32)).Kind = 1 → (s_l30Read (s_l1Split s 32)).Act.Kind = 3 → 0 < (s_l30Read (s_l1Split s 32)).Act.Old.Vals.length) := rd_fit (okL_l1Split h).2
theorem Split_comma (s : Str) : g_strings_Split s ([44] : Str) = s_l1Split s 44 := (comma_split s).symm
theorem Split_space (s : Str) : g_strings_Split s ([32] : Str) = s_l1Split s 32 := (l1Split_sp s 32).symm
theorem rowOf_eq (s : Str) : i_rowOf s = s_l30Vals s := by unfold i_rowOf s_l30Vals; rw [Split_comma]
theorem stmtText_eq (t : DTable) (s : DStmt) : i_Table_stmtText t s = s_l30Text t s := by
  unfold i_Table_stmtText s_l30Text
  rw [rowText_eq, rowText_eq]
def noStmt : DStmt := ⟨0, ⟨0, ⟨[]⟩, ⟨[]⟩⟩, [], [], []⟩
theorem told_eq (t : DTable) (s : Str) : s_l30Told t s = (s_l30Read (s_l1Split s 32), s_l30Good t (s_l30Read (s_l1Split s 32)) && (s_l30Text t (s_l30Read (s_l1Split s 32)) == s)) := by
  unfold s_l30Told
  cases s_l30Good t (s_l30Read (s_l1Split s 32)) <;> rfl
theorem first_word {s a r : Str} (h : (32 : UInt8) ∉ a) (e : s = a ++ 32 :: r) : (s_l1Split s 32).getD 0 d_Str = a := by
  subst e
  have : s_l1Split (a ++ 32 :: r) 32 = sp 32 (a ++ 32 :: r) := l1Split_sp _ 32
  rw [this, sp_some h]; rfl
theorem take2 (A B : Bool) (x : DStmt) : (bif A then (bif B then (x, true) else (noStmt, false)) else (noStmt, false)) = bif A && B then (x, true) else (noStmt, false) := by cases A <;> cases B <;> rfl
theorem read_stmt (t : DTable) (s : Str) : i_Table_readStmt t s = bif (s_l30Told t s).2 then ((s_l30Told t s).1, true) else (noStmt, false) := by
  have hf := @first_word s
  rw [told_eq]
  unfold i_Table_readStmt
  simp only [Split_space, isStmt_eq, stmtText_eq, rowOf_eq]
  generalize hw : s_l1Split s 32 = w at hf ⊢
  generalize hx : w.getD 0 d_Str = x at hf ⊢
  have hno : s_l30Good t noStmt = false := rfl
  have hget : ∀ low, (x == ([103, 101, 116] : Str)) = false → (s_l30Text t ⟨2, ⟨0, ⟨[]⟩, ⟨[]⟩⟩, [], low, []⟩ == s) = false := fun low h => by
    cases hh : (s_l30Text t ⟨2, ⟨0, ⟨[]⟩, ⟨[]⟩⟩, [], low, []⟩ == s)
    · rfl
    · have e := (eq_of_beq hh).symm
      have := hf (a := [103, 101, 116]) (r := (t.Name ++ [32]) ++ low) (by decide) (e.trans (by show ((([103, 101, 116, 32] : Str) ++ t.Name) ++ [32]) ++ low = _; simp))
      rw [this] at h; cases h
  have hrange : ∀ a b c, (x == ([114, 97, 110, 103, 101] : Str)) = false → (s_l30Text t ⟨3, ⟨0, ⟨[]⟩, ⟨[]⟩⟩, a, b, c⟩ == s) = false := fun a b c h => by
    cases hh : (s_l30Text t ⟨3, ⟨0, ⟨[]⟩, ⟨[]⟩⟩, a, b, c⟩ == s)
    · rfl
    · have e := (eq_of_beq hh).symm
      have := hf (a := [114, 97, 110, 103, 101]) (r := t.Name ++ ([32] ++ (a ++ ([32] ++ (b ++ ([32] ++ c)))))) (by decide) (e.trans (by show (((((([114, 97, 110, 103, 101, 32] : Str) ++ t.Name) ++ [32]) ++ a) ++ [32]) ++ b) ++ [32] ++ c = _; simp))
      rw [this] at h; cases h
  unfold s_l30Read
  rw [hx]
  cases h3 : decide ((w.length : Int) = 3)
  · cases h5 : decide ((w.length : Int) = 5)
    · simp only [cond_false]
      rfl
    · simp only [cond_true, cond_false]
      cases hu : x == ([117, 112, 100, 97, 116, 101] : Str)
      · simp only [cond_false]
        cases hr : x == ([114, 97, 110, 103, 101] : Str)
        · simp only [cond_false]
          rw [hrange _ _ _ hr]
          show _ = bif s_l30Good t noStmt && _ then _ else _
          rw [hno, Bool.false_and]
          cases s_l30Good t _ <;> rfl
        · simp only [cond_true]; exact take2 _ _ _
      · have e := eq_of_beq hu
        subst e
        simp only [cond_true, show ((([117, 112, 100, 97, 116, 101] : Str) == ([114, 97, 110, 103, 101] : Str)) = false) from rfl, cond_false]; exact take2 _ _ _
  · have h5 : decide ((w.length : Int) = 5) = false := decide_eq_false (by have := of_decide_eq_true h3; omega)
    rw [h5]
    simp only [cond_true, cond_false]
    cases hi : x == ([105, 110, 115, 101, 114, 116] : Str)
    · cases hd : x == ([100, 101, 108, 101, 116, 101] : Str)
      · simp only [cond_false]
        cases hg : x == ([103, 101, 116] : Str)
        · simp only [cond_false]
          rw [hget _ hg]
          show _ = bif s_l30Good t noStmt && _ then _ else _
          rw [hno, Bool.false_and]
          cases s_l30Good t _ <;> rfl
        · simp only [cond_true]; exact take2 _ _ _
      · have e := eq_of_beq hd
        subst e
        simp only [cond_true, show ((([100, 101, 108, 101, 116, 101] : Str) == ([103, 101, 116] : Str)) = false) from rfl, cond_false]; exact take2 _ _ _
    · have e := eq_of_beq hi
      subst e
      simp only [cond_true, show ((([105, 110, 115, 101, 114, 116] : Str) == ([103, 101, 116] : Str)) = false) from rfl, cond_false]; exact take2 _ _ _
theorem ReadStmt_eq (t : DTable) (s : Str) : i_ReadStmt t s = s_ReadStmt t s := by
  unfold i_ReadStmt s_ReadStmt
  rw [GoodTable_eq, read_stmt]
  cases s_GoodTable t
  · rfl
  · cases (s_l30Told t s).2 <;> rfl
theorem rd_cnt {w : List Str} (h : ∀ y ∈ w, okS y) : (s_l30Read w).Act.Old.Vals.length ≤ 1073741825 ∧ (s_l30Read w).Act.New.Vals.length ≤ 1073741825 := by
  have hv : ∀ i, (s_l30Vals (w.getD i d_Str)).Vals.length ≤ 1073741825 := fun i => by
    have h1 := (rf_l1Split (w.getD i d_Str) 44).2
    have h2 : (w.getD i d_Str).length ≤ 1073741824 := okS_getD h i
    exact Nat.le_trans h1 (by omega)
  have h2 := hv 2
  have h4 := hv 4
  have h0 : (⟨[]⟩ : DRow).Vals.length ≤ 1073741825 := by decide
  unfold s_l30Read
  cases decide ((w.length : Int) = 3) <;> cases decide ((w.length : Int) = 5) <;> cases (w.getD 0 d_Str) == ([103, 101, 116] : Str) <;> cases (w.getD 0 d_Str) == ([114, 97, 110, 103, 101] : Str) <;> cases (w.getD 0 d_Str) == ([105, 110, 115, 101, 114, 116] : Str) <;> cases (w.getD 0 d_Str) == ([100, 101, 108, 101, 116, 101] : Str) <;> cases (w.getD 0 d_Str) == ([117, 112, 100, 97, 116, 101] : Str) <;>
    simp only [cond_true, cond_false] <;> exact ⟨by assumption, by assumption⟩
theorem true_ReadStmt (t : DTable) (s : Str) (hw : wf_Table t) (_ : wfS s) : l_FnExactReadStmt t s = true := by
  unfold l_FnExactReadStmt
  cases h0 : decide (1048576 < (s.length : Int))
  case true => rfl
  cases h1 : decide (l_szTable t 1048576 < 0)
  case true => rfl
  have hl := szTable_len hw (of_decide_eq_false h1)
  have hs : okS s := by unfold okS; have := of_decide_eq_false h0; omega
  have hc : 1 * (i_ReadStmt t s).1.Act.Old.Vals.length + 1 * (i_ReadStmt t s).1.Act.New.Vals.length ≤ 2147483650 := by
    rw [ReadStmt_eq]
    unfold s_ReadStmt
    cases s_GoodTable t
    · exact Nat.zero_le _
    · rw [told_eq]
      obtain ⟨a, b⟩ := rd_cnt (okL_l1Split hs (b := 32)).2
      cases s_l30Good t (s_l30Read (s_l1Split s 32)) && (s_l30Text t (s_l30Read (s_l1Split s 32)) == s)
      · exact Nat.zero_le _
      · show 1 * (s_l30Read (s_l1Split s 32)).Act.Old.Vals.length + 1 * (s_l30Read (s_l1Split s 32)).Act.New.Vals.length ≤ _
        omega
  obtain ⟨_, h3⟩ := mh_Table t 1 (by decide) (by omega)
  obtain ⟨h4, h5⟩ := mh_Stmt (i_ReadStmt t s).1 1 (by decide) (by omega)
  have he : ∀ r : DStmt, (⟨r.Kind, ⟨r.Act.Kind, (l_markStmt r 1).2.Act.Old, (l_markStmt r 1).2.Act.New⟩, r.Idx, r.Low, r.High⟩ : DStmt) = (l_markStmt r 1).2 := fun _ => rfl
  simp only [cond_false, he, ← ReadStmt_eq, eq_Table, eq_Stmt, beq_self_eq_true, cond_true, h4]
  rw [h3, decide_eq_false (by omega), cond_false, h5, decide_eq_false (by omega), cond_false, decide_true]; rfl

end Go.Proofs.YtdbobbmagmcpnaaDoor
