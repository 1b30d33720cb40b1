/- Copy At: plain laws of the models. -/
import Derived.Test.YtbglfhmnjbgciaaCopyAtT
set_option linter.unusedVariables false
set_option linter.unusedSimpArgs false
namespace Go.Proofs.Ytbglfhmnjbgciaa
open Go.RowKit Go.X
theorem szok_Ver {x : DVer} {L : Int} (hw : wf_Ver x) (hL : 0 ≤ L ∧ L ≤ 1048576) (h : ¬ l_szVer x L < 0) : ok_Ver x ∧ 0 ≤ l_szVer x L ∧ l_szVer x L ≤ 1048576 := by
  unfold l_szVer at h ⊢
  obtain ⟨a0, e0, h⟩ := szc h
  rw [e0]
  have s0 := szS_ok hw.2 hL a0
  exact ⟨s0.1, s0.2⟩
theorem to_Ver (x : DVer) : l_toVer x = x := rfl
theorem eq_Ver (x : DVer) : l_eqVer x x = true := by unfold l_eqVer; simp only [beq_self_eq_true, cond_true, decide_true]
theorem szok_VerS {x : List DVer} {L : Int} (hw : (wfL wf_Ver) x) (hL : 0 ≤ L ∧ L ≤ 1048576) (h : ¬ l_szVerS x L < 0) : (okL ok_Ver) x ∧ 0 ≤ l_szVerS x L ∧ l_szVerS x L ≤ 1048576 := szLL_ok d_Ver (f := l_szVer) szok_Ver hw hL h
theorem to_VerS (x : List DVer) : l_toVerS x = x := toL_id d_Ver (f := fun s => s) (fun _ => rfl) x
theorem eq_VerS (x : List DVer) : l_eqVerS x x = true := eqL_refl d_Ver (f := l_eqVer) eq_Ver x
theorem szok_Cell {x : DCell} {L : Int} (hw : wf_Cell x) (hL : 0 ≤ L ∧ L ≤ 1048576) (h : ¬ l_szCell x L < 0) : ok_Cell x ∧ 0 ≤ l_szCell x L ∧ l_szCell x L ≤ 1048576 := by
  unfold l_szCell at h ⊢
  obtain ⟨a0, e0, h⟩ := szc h
  rw [e0]
  have s0 := szS_ok hw.1 hL a0
  obtain ⟨a1, e1, h⟩ := szc h
  rw [e1]
  have s1 := szok_VerS hw.2 s0.2 a1
  exact ⟨⟨s0.1, s1.1⟩, s1.2⟩
theorem to_Cell (x : DCell) : l_toCell x = x := rfl
theorem eq_Cell (x : DCell) : l_eqCell x x = true := by unfold l_eqCell; simp only [eq_VerS, beq_self_eq_true, cond_true, decide_true]
theorem eq_Write (x : DWrite) : l_eqWrite x x = true := by unfold l_eqWrite; simp only [beq_self_eq_true, cond_true, decide_true]
theorem eq_WriteS (x : List DWrite) : l_eqWriteS x x = true := eqL_refl d_Write (f := l_eqWrite) eq_Write x
theorem eq_Copy (x : DCopy) : l_eqCopy x x = true := by unfold l_eqCopy; simp only [eq_WriteS, beq_self_eq_true, cond_true, decide_true]
theorem szok_CellS {x : List DCell} {L : Int} (hw : (wfL wf_Cell) x) (hL : 0 ≤ L ∧ L ≤ 1048576) (h : ¬ l_szCellS x L < 0) : (okL ok_Cell) x ∧ 0 ≤ l_szCellS x L ∧ l_szCellS x L ≤ 1048576 := szLL_ok d_Cell (f := l_szCell) szok_Cell hw hL h
theorem to_CellS (x : List DCell) : l_toCellS x = x := toL_id d_Cell (f := fun s => s) (fun _ => rfl) x
theorem eq_CellS (x : List DCell) : l_eqCellS x x = true := eqL_refl d_Cell (f := l_eqCell) eq_Cell x
def mk_Write (_ : DWrite) (k : Int) : Int × DWrite := (IntKind.wrap .i64 ((IntKind.wrap .i64 ((IntKind.wrap .i64 (k + 1)) + 1)) + 1), ⟨l_markText k, l_markText (IntKind.wrap .i64 (k + 1)), decide (Int.tmod (IntKind.wrap .i64 ((IntKind.wrap .i64 (k + 1)) + 1)) 3 = 0)⟩)
theorem mkc_Write (x : DWrite) (k : Int) (h0 : 0 ≤ k) (h1 : k + ((3 : Nat) : Int) ≤ 4611686018427387904) : (mk_Write x k).1 = k + ((3 : Nat) : Int) := by
  unfold mk_Write
  simp only [IntKind.wrap_i64]; omega
theorem mark_WriteS (a : List DWrite) (k : Int) : l_markWriteS a k = mkL mk_Write a k := by
  unfold l_markWriteS
  exact markE (d := d_Write) (mk := mk_Write) (fun i k xs hi => by unfold B_l_markWriteS_0; simp only [List.set_set, getD_set_self hi, mk_Write]) a k
theorem held_WriteS (a : List DWrite) (k : Int) (h0 : 0 ≤ k) (h1 : k + (cntL (fun _ => 3) a : Int) ≤ 4611686018427387904) : l_heldWriteS (l_markWriteS a k).2 k = (l_markWriteS a k).1 := by
  rw [mark_WriteS]
  unfold l_heldWriteS
  exact heldE (d := d_Write) (mk := mk_Write) (c := fun _ => 3) a k mkc_Write (fun i k x hx _ _ => by unfold B_l_heldWriteS_0; simp only [hx, mk_Write, eq_self, decide_true, beq_self_eq_true, cond_true]) h0 h1
theorem mh_WriteS (a : List DWrite) (k : Int) (h0 : 0 ≤ k) (h1 : k + (((3 : Nat) * a.length : Nat) : Int) ≤ 4611686018427387904) : l_heldWriteS (l_markWriteS a k).2 k = (l_markWriteS a k).1 ∧ (l_markWriteS a k).1 = k + (((3 : Nat) * a.length : Nat) : Int) ∧ (l_markWriteS a k).2.length = a.length := by
  rw [← cntL_const] at h1 ⊢
  refine ⟨held_WriteS a k h0 h1, ?_, ?_⟩
  · rw [mark_WriteS]; exact mkL_cnt mkc_Write a k h0 h1
  · rw [mark_WriteS]; exact mkL_length _ _ _
theorem rf_markWriteS (a : List DWrite) (k : Int) (h : k ≤ 9223372036854775807) : (l_markWriteS a k).1 ≤ 9223372036854775807 := by
  unfold l_markWriteS
  refine loopM_val (fun _ (s : Int × List DWrite) => s.1 ≤ 9223372036854775807) (fun (v : Int × List DWrite) => v.1 ≤ 9223372036854775807) h (fun s hs => hs) ?_
  rintro j ⟨k, x⟩ _ _ hk
  exact wrap_le _
theorem rf_heldWriteS (a : List DWrite) (k : Int) (h : k ≤ 9223372036854775807) : l_heldWriteS a k ≤ 9223372036854775807 := by
  unfold l_heldWriteS
  refine loopM_val (fun _ (s : Int) => s ≤ 9223372036854775807) (fun v => v ≤ 9223372036854775807) h (fun s hs => hs) ?_
  intro j k' _ _ hk
  unfold B_l_heldWriteS_0
  dsimp only
  cases (((a.getD j d_Write).Key) == l_markText k') <;> cases (((a.getD j d_Write).Val) == l_markText (IntKind.wrap .i64 (k' + 1))) <;> cases (((a.getD j d_Write).Gone) == decide (Int.tmod (IntKind.wrap .i64 ((IntKind.wrap .i64 (k' + 1)) + 1)) 3 = 0)) <;> first | exact wrap_le _ | exact neg1_le
theorem mh_Copy (a : DCopy) (k : Int) (h0 : 0 ≤ k) (h1 : k + ((3 * a.Rows.length : Nat) : Int) ≤ 4611686018427387904) : l_heldCopy (l_markCopy a k).2 k = (l_markCopy a k).1 ∧ (l_markCopy a k).1 = k + ((3 * a.Rows.length : Nat) : Int) := by
  obtain ⟨e0, n0, _⟩ := mh_WriteS a.Rows k oM oM
  have q1 : l_heldCopy (l_markCopy a k).2 k = k + ((3 * a.Rows.length : Nat) : Int) := by unfold l_heldCopy l_markCopy; simp only [e0, n0, decide_eq_false (show ¬ k + ((3 * a.Rows.length : Nat) : Int) < 0 by omega), cond_false]
  have q2 : (l_markCopy a k).1 = k + ((3 * a.Rows.length : Nat) : Int) := by unfold l_markCopy; simp only [n0]
  exact ⟨q1.trans q2.symm, q2.trans oM⟩
theorem eta_markCopy (r : DCopy) (k : Int) : (⟨r.Time, (l_markCopy r k).2.Rows⟩ : DCopy) = (l_markCopy r k).2 := rfl
theorem rf_markCopy (a : DCopy) (k : Int) (h : k ≤ 9223372036854775807) : (l_markCopy a k).1 ≤ 9223372036854775807 := by
  unfold l_markCopy
  exact (rf_markWriteS _ _ h)
theorem rf_heldCopy (a : DCopy) (k : Int) (h : k ≤ 9223372036854775807) : l_heldCopy a k ≤ 9223372036854775807 := by
  unfold l_heldCopy
  cases decide (l_heldWriteS a.Rows k < 0) <;> first | exact neg1_le | exact (rf_heldWriteS _ _ h)
def mk_Ver (_ : DVer) (k : Int) : Int × DVer := (IntKind.wrap .i64 ((IntKind.wrap .i64 ((IntKind.wrap .i64 (k + 1)) + 1)) + 1), ⟨k, l_markText (IntKind.wrap .i64 (k + 1)), decide (Int.tmod (IntKind.wrap .i64 ((IntKind.wrap .i64 (k + 1)) + 1)) 3 = 0)⟩)
theorem mkc_Ver (x : DVer) (k : Int) (h0 : 0 ≤ k) (h1 : k + ((3 : Nat) : Int) ≤ 4611686018427387904) : (mk_Ver x k).1 = k + ((3 : Nat) : Int) := by
  unfold mk_Ver
  simp only [IntKind.wrap_i64]; omega
theorem mark_VerS (a : List DVer) (k : Int) : l_markVerS a k = mkL mk_Ver a k := by
  unfold l_markVerS
  exact markE (d := d_Ver) (mk := mk_Ver) (fun i k xs hi => by unfold B_l_markVerS_0; simp only [List.set_set, getD_set_self hi, mk_Ver]) a k
theorem held_VerS (a : List DVer) (k : Int) (h0 : 0 ≤ k) (h1 : k + (cntL (fun _ => 3) a : Int) ≤ 4611686018427387904) : l_heldVerS (l_markVerS a k).2 k = (l_markVerS a k).1 := by
  rw [mark_VerS]
  unfold l_heldVerS
  exact heldE (d := d_Ver) (mk := mk_Ver) (c := fun _ => 3) a k mkc_Ver (fun i k x hx _ _ => by unfold B_l_heldVerS_0; simp only [hx, mk_Ver, eq_self, decide_true, beq_self_eq_true, cond_true]) h0 h1
theorem mh_VerS (a : List DVer) (k : Int) (h0 : 0 ≤ k) (h1 : k + (((3 : Nat) * a.length : Nat) : Int) ≤ 4611686018427387904) : l_heldVerS (l_markVerS a k).2 k = (l_markVerS a k).1 ∧ (l_markVerS a k).1 = k + (((3 : Nat) * a.length : Nat) : Int) ∧ (l_markVerS a k).2.length = a.length := by
  rw [← cntL_const] at h1 ⊢
  refine ⟨held_VerS a k h0 h1, ?_, ?_⟩
  · rw [mark_VerS]; exact mkL_cnt mkc_Ver a k h0 h1
  · rw [mark_VerS]; exact mkL_length _ _ _
theorem rf_markVerS (a : List DVer) (k : Int) (h : k ≤ 9223372036854775807) : (l_markVerS a k).1 ≤ 9223372036854775807 := by
  unfold l_markVerS
  refine loopM_val (fun _ (s : Int × List DVer) => s.1 ≤ 9223372036854775807) (fun (v : Int × List DVer) => v.1 ≤ 9223372036854775807) h (fun s hs => hs) ?_
  rintro j ⟨k, x⟩ _ _ hk
  exact wrap_le _
def c_Cell (x : DCell) : Nat := 1 + 3 * x.Vers.length
def mk_Cell (x : DCell) (k : Int) : Int × DCell := ((l_markVerS x.Vers (IntKind.wrap .i64 (k + 1))).1, ⟨l_markText k, (l_markVerS x.Vers (IntKind.wrap .i64 (k + 1))).2⟩)
theorem mkc_Cell (x : DCell) (k : Int) (h0 : 0 ≤ k) (h1 : k + ((c_Cell x : Nat) : Int) ≤ 4611686018427387904) : (mk_Cell x k).1 = k + ((c_Cell x : Nat) : Int) := by
  unfold c_Cell at h1 ⊢
  have n0 : IntKind.wrap .i64 (k + 1) = k + 1 := by simp only [IntKind.wrap_i64]; omega
  obtain ⟨e1, n1, _⟩ := mh_VerS x.Vers (k + 1) oM oM
  unfold mk_Cell
  simp only [n0, n1] <;> omega
theorem mark_CellS (a : List DCell) (k : Int) : l_markCellS a k = mkL mk_Cell a k := by
  unfold l_markCellS
  exact markE (d := d_Cell) (mk := mk_Cell) (fun i k xs hi => by unfold B_l_markCellS_0; simp only [List.set_set, getD_set_self hi, mk_Cell]) a k
theorem held_CellS (a : List DCell) (k : Int) (h0 : 0 ≤ k) (h1 : k + (cntL c_Cell a : Int) ≤ 4611686018427387904) : l_heldCellS (l_markCellS a k).2 k = (l_markCellS a k).1 := by
  rw [mark_CellS]
  unfold l_heldCellS
  refine heldE (d := d_Cell) (mk := mk_Cell) (c := c_Cell) a k mkc_Cell (fun i k x hx h0 h1 => ?_) h0 h1
  unfold c_Cell at h1
  have n0 : IntKind.wrap .i64 (k + 1) = k + 1 := by simp only [IntKind.wrap_i64]; omega
  obtain ⟨e1, n1, _⟩ := mh_VerS x.Vers (k + 1) oM oM
  unfold B_l_heldCellS_0
  simp only [hx, mk_Cell]
  simp only [n0, n1, e1, decide_eq_false (show ¬ (k + 1) + ((3 * x.Vers.length : Nat) : Int) < 0 by omega), eq_self, decide_true, beq_self_eq_true, cond_true, cond_false]
theorem mh_CellS (a : List DCell) (k : Int) (h0 : 0 ≤ k) (h1 : k + ((cntL c_Cell a : Nat) : Int) ≤ 4611686018427387904) : l_heldCellS (l_markCellS a k).2 k = (l_markCellS a k).1 ∧ (l_markCellS a k).1 = k + ((cntL c_Cell a : Nat) : Int) ∧ (l_markCellS a k).2.length = a.length := by
  refine ⟨held_CellS a k h0 h1, ?_, ?_⟩
  · rw [mark_CellS]; exact mkL_cnt mkc_Cell a k h0 h1
  · rw [mark_CellS]; exact mkL_length _ _ _
theorem rf_markCellS (a : List DCell) (k : Int) (h : k ≤ 9223372036854775807) : (l_markCellS a k).1 ≤ 9223372036854775807 := by
  unfold l_markCellS
  refine loopM_val (fun _ (s : Int × List DCell) => s.1 ≤ 9223372036854775807) (fun (v : Int × List DCell) => v.1 ≤ 9223372036854775807) h (fun s hs => hs) ?_
  rintro j ⟨k, x⟩ _ _ hk
  exact (rf_markVerS _ _ (wrap_le _))
theorem within_eq : i_within = s_l1In := rfl
theorem f_l1In {n lo hi : Int} (h : s_l1In n lo hi = true) : lo ≤ n ∧ n ≤ hi := by
  unfold s_l1In at h
  obtain ⟨h1, h2⟩ := of_cond_f h
  exact ⟨of_decide_eq_true h1, of_decide_eq_true h2⟩
theorem f_within {n lo hi : Int} (h : i_within n lo hi = true) : lo ≤ n ∧ n ≤ hi := f_l1In h
theorem indexByte_neg (l : List UInt8) (c : UInt8) : decide (Lib.indexByte l c < 0) = !(l.contains c) := by
  induction l with
  | nil => rfl
  | cons b l ih =>
    have hge := Lib.indexByte_ge l c
    rw [Bool.eq_iff_iff] at ih ⊢
    simp only [decide_eq_true_eq, Bool.not_eq_true', List.contains_cons] at ih ⊢
    unfold Lib.indexByte
    by_cases hb : b = c
    · subst hb; simp
    · have hb1 : (b == c) = false := by simpa using hb
      have hb2 : (c == b) = false := by simpa using fun h => hb h.symm
      rw [hb1, hb2]
      simp only [Bool.false_or, Bool.false_eq_true, if_false]
      split
      · rename_i h
        have : Lib.indexByte l c = -1 := by simpa using h
        rw [← ih]; omega
      · rename_i h
        have : Lib.indexByte l c ≠ -1 := by simpa using h
        constructor
        · intro h; omega
        · intro h; have := ih.2 h; omega
theorem byte_back (b : UInt8) : ((b.toNat : Int)).toNat.toUInt8 = b := by simp
theorem idxB_neg (s : Str) (b : UInt8) : decide (idxB s (b.toNat : Int) < 0) = !(s.contains b) := by
  unfold idxB
  rw [byte_back, indexByte_neg]
def byteOk (more : Str) (b : UInt8) : Bool := i_isLowerOrDigit (b.toNat : Int) || more.contains b
theorem hasBytes_eq (s more : Str) : i_hasBytes s more = s.all (byteOk more) := by
  unfold i_hasBytes
  rw [allE (0 : UInt8) (byteOk more) (r := false) fun k => by
    unfold B_i_hasBytes_0 byteOk g_strings_IndexByte g_internal_stringslite_IndexByte
    rw [idxB_neg]
    cases i_isLowerOrDigit ((s.getD k 0).toNat : Int) <;> cases more.contains (s.getD k 0) <;> rfl]
  cases s.all (byteOk more) <;> rfl
theorem toNat_eq (a b : UInt8) : decide ((a.toNat : Int) = (b.toNat : Int)) = (a == b) := by
  rw [Bool.eq_iff_iff, decide_eq_true_iff, beq_iff_eq]
  constructor
  · intro h; exact UInt8.toNat.inj oM
  · intro h; rw [h]
theorem l3B1 {T : Type} (s more : Str) (k : Nat) (x0 : Bool) (fr : Bool → T) (fd : Bool → T) : loopE (loopM (B_s_l3Bytes_1 s more k) (more.length - 0) 0 x0) fr fd = fd (x0 || more.contains (s.getD k 0)) := by
  rw [orE (0 : UInt8) (fun b => (s.getD k 0) == b) fun j x => by
    unfold B_s_l3Bytes_1
    rw [toNat_eq]
    cases x <;> rfl]
  rw [List.contains_eq_any_beq]
theorem l3Bytes_eq (s more : Str) : s_l3Bytes s more = s.all (byteOk more) := by
  unfold s_l3Bytes
  rw [allE (0 : UInt8) (byteOk more) (r := false) fun k => by
    unfold B_s_l3Bytes_0 byteOk i_isLowerOrDigit
    simp only [l3B1]
    cases decide (97 ≤ ((s.getD k 0).toNat : Int)) <;> cases decide (((s.getD k 0).toNat : Int) ≤ 122) <;> cases decide (48 ≤ ((s.getD k 0).toNat : Int)) <;> cases decide (((s.getD k 0).toNat : Int) ≤ 57) <;> cases more.contains (s.getD k 0) <;> rfl]
  cases s.all (byteOk more) <;> rfl
theorem GoodKey_eq (s : Str) : i_GoodKey s = s_l3Key s := by
  unfold i_GoodKey s_l3Key
  rw [hasBytes_eq, l3Bytes_eq, within_eq]
theorem GoodVal_eq (s : Str) : i_GoodVal s = s_l3Val s := by
  unfold i_GoodVal s_l3Val
  rw [hasBytes_eq, l3Bytes_eq]

def rising (ks : List Str) (k : Nat) : Bool := bif decide (0 < (k : Int)) then sLt (ks.getD ((IntKind.wrap .i64 ((k : Int) - 1)).toNat) d_Str) (ks.getD k d_Str) else true
theorem areRising_eq (ks : List Str) : i_areRising ks = (List.range ks.length).all fun k => s_l3Key (ks.getD k d_Str) && rising ks k := by
  unfold i_areRising
  rw [loopU (fun k => s_l3Key (ks.getD k d_Str) && rising ks k) (r := false) fun k _ => by
    unfold B_i_areRising_0 rising
    rw [GoodKey_eq, sLe_not]
    cases s_l3Key (ks.getD k d_Str) <;> cases decide (0 < (k : Int)) <;> cases sLt (ks.getD ((IntKind.wrap .i64 ((k : Int) - 1)).toNat) d_Str) (ks.getD k d_Str) <;> rfl]
  cases (List.range ks.length).all fun k => s_l3Key (ks.getD k d_Str) && rising ks k <;> rfl
theorem and_all {α : Type} (l : List α) (p q : α → Bool) : (l.all p && l.all q) = l.all fun x => p x && q x := by
  induction l with
  | nil => rfl
  | cons x l ih =>
    simp only [List.all_cons, ← ih]
    cases p x <;> cases q x <;> cases l.all p <;> rfl
theorem isStored_eq (v : Str) (g : Bool) : i_isStored v g = (s_l3Val v && (!g || v == ([] : Str))) := by
  unfold i_isStored
  rw [GoodVal_eq]
  cases s_l3Val v <;> cases g <;> cases (v == ([] : Str)) <;> rfl
theorem l3Write_eq (k v : Str) (g : Bool) : s_l3Write k v g = (s_l3Key k && i_isStored v g) := by
  rw [isStored_eq]
  unfold s_l3Write
  cases s_l3Key k <;> cases s_l3Val v <;> cases g <;> cases (v == ([] : Str)) <;> rfl
theorem cntL_le {α : Type} {c : α → Nat} {m : Nat} : ∀ {xs : List α}, (∀ x ∈ xs, c x ≤ m) → cntL c xs ≤ m * xs.length
  | [], _ => Nat.zero_le _
  | x :: xs, h => by
    have h1 := h x (List.mem_cons_self ..)
    have h2 := cntL_le (xs := xs) fun y hy => h y (List.mem_cons_of_mem _ hy)
    unfold cntL
    rw [List.length_cons, Nat.mul_succ]; omega
theorem mapU {α β ρ T : Type} {body : Nat → List β → Out ρ (List β)} {fr : ρ → T} {fd : List β → T} {xs : List α} (d : α) (p : α → Bool) (q : α → β) {r : ρ} (hb : ∀ k x, body k x = bif p (xs.getD k d) then .cont (x ++ [q (xs.getD k d)]) else .ret r) :
    loopE (loopM body (xs.length - 0) 0 []) fr fd = bif xs.all p then fd (xs.map q) else fr r := by
  have key : ∀ m k (x0 : List β), loopE (loopM body m k x0) fr fd = bif (List.range' k m).all (fun j => p (xs.getD j d)) then fd (x0 ++ (List.range' k m).map fun j => q (xs.getD j d)) else fr r := by
    intro m
    induction m with
    | zero => intro k x0; rw [show List.range' k 0 = [] from rfl, List.map_nil, List.append_nil]; rfl
    | succ m ih =>
      intro k x0
      unfold loopM
      rw [hb k x0, List.range'_succ, List.all_cons, List.map_cons]
      cases hp : p (xs.getD k d)
      · rfl
      · refine (ih (k + 1) (x0 ++ [q (xs.getD k d)])).trans ?_
        rw [Bool.true_and, List.append_assoc]; rfl
  rw [Nat.sub_zero, key xs.length 0 [], ← List.range_eq_range', range_all d p xs, List.nil_append]
  congr 2
  apply List.ext_getElem
  · simp
  · intro i h1 h2
    simp only [List.getElem_map, List.getElem_range]
    rw [getD_eq (by simpa using h1)]
def tRise (vs : List DVer) (k : Nat) : Bool := bif decide (0 < (k : Int)) then !(decide ((vs.getD k d_Ver).Time ≤ (vs.getD ((IntKind.wrap .i64 ((k : Int) - 1)).toNat) d_Ver).Time)) else true
def verOk (vs : List DVer) (k : Nat) : Bool := i_isTime (vs.getD k d_Ver).Time && i_isStored (vs.getD k d_Ver).Val (vs.getD k d_Ver).Gone && tRise vs k
theorem isCell_eq (c : DCell) : i_isCell c = ((List.range c.Vers.length).all (verOk c.Vers) && s_l1In (c.Vers.length : Int) 1 16) := by
  unfold i_isCell
  rw [loopU (verOk c.Vers) (r := false) fun k _ => by
    unfold B_i_isCell_0 verOk tRise
    cases i_isTime (c.Vers.getD k d_Ver).Time <;> cases i_isStored (c.Vers.getD k d_Ver).Val (c.Vers.getD k d_Ver).Gone <;> cases decide (0 < (k : Int)) <;> cases decide ((c.Vers.getD k d_Ver).Time ≤ (c.Vers.getD ((IntKind.wrap .i64 ((k : Int) - 1)).toNat) d_Ver).Time) <;> rfl]
  rw [within_eq]
  cases (List.range c.Vers.length).all (verOk c.Vers) <;> rfl
theorem l3Cell_eq (c : DCell) : s_l3Cell c = (s_l3Key c.Key && i_isCell c) := by
  rw [isCell_eq]
  unfold s_l3Cell
  rw [loopU (fun k => verOk c.Vers k && s_l3Key c.Key) (r := false) fun k _ => by
    unfold B_s_l3Cell_0 verOk tRise
    rw [l3Write_eq, show s_l3Time = i_isTime from rfl]
    cases i_isTime (c.Vers.getD k d_Ver).Time <;> cases s_l3Key c.Key <;> cases i_isStored (c.Vers.getD k d_Ver).Val (c.Vers.getD k d_Ver).Gone <;> cases decide (0 < (k : Int)) <;> cases decide ((c.Vers.getD k d_Ver).Time ≤ (c.Vers.getD ((IntKind.wrap .i64 ((k : Int) - 1)).toNat) d_Ver).Time) <;> rfl]
  cases s_l3Key c.Key
  · cases (List.range c.Vers.length).all (fun k => verOk c.Vers k && false) <;> rfl
  · rw [show (fun k => verOk c.Vers k && true) = verOk c.Vers from funext fun k => Bool.and_true _]
    cases (List.range c.Vers.length).all (verOk c.Vers) <;> rfl
theorem cellKeys (l : List DCell) (k : Nat) : (l.map (·.Key)).getD k d_Str = (l.getD k d_Cell).Key := by
  simp only [List.getD_eq_getElem?_getD, List.getElem?_map]
  cases l[k]? <;> rfl
theorem l3Good_eq (l : List DCell) : s_l3Good l = (((List.range l.length).all fun k => s_l3Cell (l.getD k d_Cell) && rising (l.map (·.Key)) k) && decide ((l.length : Int) ≤ 24)) := by
  unfold s_l3Good
  rw [loopU (fun k => s_l3Cell (l.getD k d_Cell) && rising (l.map (·.Key)) k) (r := false) fun k _ => by
    unfold B_s_l3Good_0 rising
    rw [cellKeys, cellKeys]
    cases s_l3Cell (l.getD k d_Cell) <;> cases decide (0 < (k : Int)) <;> cases sLt (l.getD ((IntKind.wrap .i64 ((k : Int) - 1)).toNat) d_Cell).Key (l.getD k d_Cell).Key <;> rfl]
  cases ((List.range l.length).all fun k => s_l3Cell (l.getD k d_Cell) && rising (l.map (·.Key)) k) <;> rfl
theorem GoodCells_eq (l : List DCell) : i_GoodCells l = s_l3Good l := by
  unfold i_GoodCells
  rw [mapU (body := B_i_GoodCells_0 l) (xs := l) d_Cell i_isCell (·.Key) (r := false) fun k x => rfl]
  rw [areRising_eq, l3Good_eq, List.length_map]
  have h2 : ((List.range l.length).all fun k => s_l3Cell (l.getD k d_Cell) && rising (l.map (·.Key)) k) = (((List.range l.length).all fun k => s_l3Key ((l.map (·.Key)).getD k d_Str) && rising (l.map (·.Key)) k) && (List.range l.length).all fun k => i_isCell (l.getD k d_Cell)) := by
    rw [and_all]
    congr 1; funext k
    rw [l3Cell_eq, cellKeys]
    cases s_l3Key (l.getD k d_Cell).Key <;> cases i_isCell (l.getD k d_Cell) <;> cases rising (l.map (·.Key)) k <;> rfl
  rw [h2, range_all d_Cell i_isCell l]
  cases l.all i_isCell <;> cases decide ((l.length : Int) ≤ 24) <;> cases ((List.range l.length).all fun k => s_l3Key ((l.map (·.Key)).getD k d_Str) && rising (l.map (·.Key)) k) <;> rfl
def lastAt (t : Int) (vs : List DVer) : Bool × Int × Str × Bool := match vs.reverse.find? (fun v => decide (v.Time ≤ t)) with
  | some v => (true, v.Time, v.Val, v.Gone)
  | none => (false, 0, [], false)
theorem l3Ver_eq (c : DCell) (t : Int) : s_l3Ver c t = ((⟨(lastAt t c.Vers).2.1, (lastAt t c.Vers).2.2.1, (lastAt t c.Vers).2.2.2⟩ : DVer), (lastAt t c.Vers).1) := by
  unfold s_l3Ver
  refine loopM_val (fun k s => s = lastAt t (c.Vers.take k)) (fun v => v = ((⟨(lastAt t c.Vers).2.1, (lastAt t c.Vers).2.2.1, (lastAt t c.Vers).2.2.2⟩ : DVer), (lastAt t c.Vers).1)) rfl ?_ ?_
  · intro s hs
    rw [hs, show 0 + (c.Vers.length - 0) = c.Vers.length by omega, List.take_length]
  · intro j s _ hj hs
    have hj' : j < c.Vers.length := by omega
    obtain ⟨s1, s2, s3, s4⟩ := s
    unfold B_s_l3Ver_0
    rw [getD_eq hj']
    have e : lastAt t (c.Vers.take (j + 1)) = bif decide (c.Vers[j].Time ≤ t) then (true, c.Vers[j].Time, c.Vers[j].Val, c.Vers[j].Gone) else lastAt t (c.Vers.take j) := by
      unfold lastAt
      rw [List.take_succ_eq_append_getElem hj', List.reverse_append, List.reverse_singleton, List.singleton_append, List.find?_cons]
      cases decide (c.Vers[j].Time ≤ t) <;> rfl
    cases hd : decide (c.Vers[j].Time ≤ t)
    · show (s1, s2, s3, s4) = _
      rw [e, hd]; exact hs
    · show (true, _, _, _) = _
      rw [e, hd]; rfl
theorem dwn_rev (vs : List DVer) : (dwn vs.length vs.length).map (fun x => vs.getD x d_Ver) = vs.reverse := by
  unfold dwn
  apply List.ext_getElem
  · simp
  · intro i h1 h2
    have : i < vs.length := by simpa using h2
    simp only [List.getElem_map, List.getElem_range, List.getElem_reverse]
    rw [getD_eq oM]
theorem Cell_at_eq (c : DCell) (t : Int) : i_Cell_at c t = bif (s_l3Ver c t).2 then ((s_l3Ver c t).1.Val, !(s_l3Ver c t).1.Gone) else ([], false) := by
  rw [l3Ver_eq]
  have h : c.Vers.reverse.find? (fun v => decide (v.Time ≤ t)) = ((dwn c.Vers.length c.Vers.length).find? (fun x => decide ((c.Vers.getD x d_Ver).Time ≤ t))).map fun x => c.Vers.getD x d_Ver := by
    rw [← dwn_rev, List.find?_map]; rfl
  unfold i_Cell_at lastAt
  rw [h]
  cases (dwn c.Vers.length c.Vers.length).find? (fun x => decide ((c.Vers.getD x d_Ver).Time ≤ t)) <;> rfl
def cellW (t : Int) (c : DCell) : List DWrite := bif (s_l3Ver c t).2 then (bif (s_l3Ver c t).1.Gone then [] else [⟨c.Key, (s_l3Ver c t).1.Val, false⟩]) else []
theorem cellsAt_cat (l : List DCell) (t : Int) : i_cellsAt l t = (l.map (cellW t)).flatten := by
  unfold i_cellsAt
  rw [catE (body := B_i_cellsAt_0 l t) (xs := l) d_Cell (cellW t) fun k x _ => by
    unfold B_i_cellsAt_0 cellW
    rw [Cell_at_eq]
    cases (s_l3Ver (l.getD k d_Cell) t).2
    · exact congrArg Out.cont (List.append_nil x).symm
    · cases (s_l3Ver (l.getD k d_Cell) t).1.Gone
      · rfl
      · exact congrArg Out.cont (List.append_nil x).symm]
  rfl
theorem l3All_cat (l : List DCell) (t : Int) : s_l3All l t = (l.map (cellW t)).flatten := by
  unfold s_l3All
  rw [catE (body := B_s_l3All_0 l t) (xs := l) d_Cell (cellW t) fun k x _ => by
    unfold B_s_l3All_0 cellW
    cases (s_l3Ver (l.getD k d_Cell) t).2
    · exact congrArg Out.cont (List.append_nil x).symm
    · cases (s_l3Ver (l.getD k d_Cell) t).1.Gone
      · rfl
      · exact congrArg Out.cont (List.append_nil x).symm]
  rfl
theorem CopyAt_eq (l : List DCell) (t : Int) : i_CopyAt l t = s_CopyAt l t := by
  unfold i_CopyAt s_CopyAt s_CellsAt
  rw [GoodCells_eq, cellsAt_cat, l3All_cat, show i_isTrue = s_l2True from rfl]
  cases s_l3Good l <;> cases s_l2True t <;> rfl
theorem CopyAt_len (l : List DCell) (t : Int) : (i_CopyAt l t).1.Rows.length ≤ l.length := by
  have h : (l.map (cellW t)).flatten.length ≤ l.length := by
    induction l with
    | nil => exact Nat.le_refl _
    | cons x xs ih =>
      rw [List.map_cons, List.flatten_cons, List.length_append, List.length_cons]
      have : (cellW t x).length ≤ 1 := by
        unfold cellW
        cases (s_l3Ver x t).2
        · exact Nat.zero_le _
        · cases (s_l3Ver x t).1.Gone <;> simp
      omega
  unfold i_CopyAt
  rw [cellsAt_cat]
  cases i_GoodCells l
  · exact Nat.zero_le _
  · cases i_isTrue t
    · exact Nat.zero_le _
    · exact h
theorem szN_len {α : Type} {wf : α → Prop} {xs : List α} {L : Int} (hw : wfL wf xs) (hL : 0 ≤ L ∧ L ≤ 1048576) (h : ¬ IntKind.wrap .i64 (L - (xs.length : Int)) < 0) : xs.length ≤ 1048576 := by
  have := hw.1
  rw [wrap_in oM] at h
  omega
theorem szCells_len {l : List DCell} (hw : (wfL wf_Cell) l) (h : ¬ l_szCellS l 1048576 < 0) : l.length ≤ 1048576 ∧ ∀ x ∈ l, x.Vers.length ≤ 1048576 := by
  have h0 : ¬ szLL l_szCell d_Cell l 1048576 < 0 := h
  obtain ⟨a, -, h'⟩ := szc h0
  refine ⟨szN_len hw (by decide) a, (szL_ok (wf := wf_Cell) (ok := fun x => x.Vers.length ≤ 1048576) d_Cell (f := l_szCell) (fun {x L} hx hL hn => ?_) hw (szN_ok hw (by decide) a).2 h').1⟩
  refine ⟨?_, (szok_Cell hx hL hn).2⟩
  unfold l_szCell at hn
  obtain ⟨a0, -, hn⟩ := szc hn
  obtain ⟨a1, -, -⟩ := szc hn
  exact szN_len hx.2 (szS_ok hx.1 hL a0).2 (szc a1).1
theorem true_CopyAt (l : List DCell) (t : Int) (hw : (wfL wf_Cell) l) (_ : wfI t) : l_FnExactCopyAt l t = true := by
  unfold l_FnExactCopyAt
  cases h1 : decide (l_szCellS l 1048576 < 0)
  case true => rfl
  obtain ⟨hl, hv⟩ := szCells_len hw (of_decide_eq_false h1)
  have hc : cntL c_Cell l ≤ 3145729 * l.length := cntL_le fun x hx => by have := hv x hx; unfold c_Cell; omega
  have hn := CopyAt_len l t
  obtain ⟨h4, h5, _⟩ := mh_CellS l 1 (by decide) oM
  obtain ⟨h6, h7⟩ := mh_Copy (i_CopyAt l t).1 1 (by decide) oM
  simp only [cond_false, ← CopyAt_eq, eq_Copy, eq_CellS, beq_self_eq_true, cond_true, eta_markCopy, h6, h5, h7]
  rw [decide_eq_false oM, cond_false, decide_eq_false oM, cond_false, decide_true]; rfl

end Go.Proofs.Ytbglfhmnjbgciaa
