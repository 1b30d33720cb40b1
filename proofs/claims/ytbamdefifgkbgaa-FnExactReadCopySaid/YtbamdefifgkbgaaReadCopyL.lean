/- Read Copy: plain laws of the models. -/
import Derived.Test.YtbamdefifgkbgaaReadCopyT
set_option linter.unusedVariables false
set_option linter.unusedSimpArgs false
namespace Go.Proofs.Ytbamdefifgkbgaa
open Go.RowKit Go.X
theorem eq_Write (x : DWrite) : l_eqWrite x x = true := by unfold l_eqWrite; simp only [beq_self_eq_true, cond_true, decide_true]
theorem eq_WriteS (x : List DWrite) : l_eqWriteS x x = true := eqL_refl d_Write (f := l_eqWrite) eq_Write x
theorem eq_Copy (x : DCopy) : l_eqCopy x x = true := by unfold l_eqCopy; simp only [eq_WriteS, beq_self_eq_true, cond_true, decide_true]
def mk_Write (_ : DWrite) (k : Int) : Int × DWrite := (IntKind.wrap .i64 ((IntKind.wrap .i64 ((IntKind.wrap .i64 (k + 1)) + 1)) + 1), ⟨l_markText k, l_markText (IntKind.wrap .i64 (k + 1)), decide (Int.tmod (IntKind.wrap .i64 ((IntKind.wrap .i64 (k + 1)) + 1)) 3 = 0)⟩)
theorem mkc_Write (x : DWrite) (k : Int) (h0 : 0 ≤ k) (h1 : k + ((3 : Nat) : Int) ≤ 4611686018427387904) : (mk_Write x k).1 = k + ((3 : Nat) : Int) := by
  unfold mk_Write
  simp only [IntKind.wrap_i64]; omega
theorem mark_WriteS (a : List DWrite) (k : Int) : l_markWriteS a k = mkL mk_Write a k := by
  unfold l_markWriteS
  exact markE (d := d_Write) (mk := mk_Write) (fun i k xs hi => by unfold B_l_markWriteS_0; simp only [List.set_set, getD_set_self hi, mk_Write]) a k
theorem held_WriteS (a : List DWrite) (k : Int) (h0 : 0 ≤ k) (h1 : k + (cntL (fun _ => 3) a : Int) ≤ 4611686018427387904) : l_heldWriteS (l_markWriteS a k).2 k = (l_markWriteS a k).1 := by
  rw [mark_WriteS]
  unfold l_heldWriteS
  exact heldE (d := d_Write) (mk := mk_Write) (c := fun _ => 3) a k mkc_Write (fun i k x hx _ _ => by unfold B_l_heldWriteS_0; simp only [hx, mk_Write, eq_self, decide_true, beq_self_eq_true, cond_true]) h0 h1
theorem mh_WriteS (a : List DWrite) (k : Int) (h0 : 0 ≤ k) (h1 : k + (((3 : Nat) * a.length : Nat) : Int) ≤ 4611686018427387904) : l_heldWriteS (l_markWriteS a k).2 k = (l_markWriteS a k).1 ∧ (l_markWriteS a k).1 = k + (((3 : Nat) * a.length : Nat) : Int) ∧ (l_markWriteS a k).2.length = a.length := by
  rw [← cntL_const] at h1 ⊢
  refine ⟨held_WriteS a k h0 h1, ?_, ?_⟩
  · rw [mark_WriteS]; exact mkL_cnt mkc_Write a k h0 h1
  · rw [mark_WriteS]; exact mkL_length _ _ _
theorem rf_markWriteS (a : List DWrite) (k : Int) (h : k ≤ 9223372036854775807) : (l_markWriteS a k).1 ≤ 9223372036854775807 := by
  unfold l_markWriteS
  refine loopM_val (fun _ (s : Int × List DWrite) => s.1 ≤ 9223372036854775807) (fun (v : Int × List DWrite) => v.1 ≤ 9223372036854775807) h (fun s hs => hs) ?_
  rintro j ⟨k, x⟩ _ _ hk
  exact wrap_le _
theorem rf_heldWriteS (a : List DWrite) (k : Int) (h : k ≤ 9223372036854775807) : l_heldWriteS a k ≤ 9223372036854775807 := by
  unfold l_heldWriteS
  refine loopM_val (fun _ (s : Int) => s ≤ 9223372036854775807) (fun v => v ≤ 9223372036854775807) h (fun s hs => hs) ?_
  intro j k' _ _ hk
  unfold B_l_heldWriteS_0
  dsimp only
  cases (((a.getD j d_Write).Key) == l_markText k') <;> cases (((a.getD j d_Write).Val) == l_markText (IntKind.wrap .i64 (k' + 1))) <;> cases (((a.getD j d_Write).Gone) == decide (Int.tmod (IntKind.wrap .i64 ((IntKind.wrap .i64 (k' + 1)) + 1)) 3 = 0)) <;> first | exact wrap_le _ | exact neg1_le
theorem mh_Copy (a : DCopy) (k : Int) (h0 : 0 ≤ k) (h1 : k + ((3 * a.Rows.length : Nat) : Int) ≤ 4611686018427387904) : l_heldCopy (l_markCopy a k).2 k = (l_markCopy a k).1 ∧ (l_markCopy a k).1 = k + ((3 * a.Rows.length : Nat) : Int) := by
  obtain ⟨e0, n0, _⟩ := mh_WriteS a.Rows k (by omega) (by omega)
  have q1 : l_heldCopy (l_markCopy a k).2 k = k + ((3 * a.Rows.length : Nat) : Int) := by unfold l_heldCopy l_markCopy; simp only [e0, n0, decide_eq_false (show ¬ k + ((3 * a.Rows.length : Nat) : Int) < 0 by omega), cond_false]
  have q2 : (l_markCopy a k).1 = k + ((3 * a.Rows.length : Nat) : Int) := by unfold l_markCopy; simp only [n0]
  exact ⟨q1.trans q2.symm, q2.trans (by omega)⟩
theorem eta_markCopy (r : DCopy) (k : Int) : (⟨r.Time, (l_markCopy r k).2.Rows⟩ : DCopy) = (l_markCopy r k).2 := rfl
theorem rf_markCopy (a : DCopy) (k : Int) (h : k ≤ 9223372036854775807) : (l_markCopy a k).1 ≤ 9223372036854775807 := by
  unfold l_markCopy
  exact (rf_markWriteS _ _ h)
theorem rf_heldCopy (a : DCopy) (k : Int) (h : k ≤ 9223372036854775807) : l_heldCopy a k ≤ 9223372036854775807 := by
  unfold l_heldCopy
  cases decide (l_heldWriteS a.Rows k < 0) <;> first | exact neg1_le | exact (rf_heldWriteS _ _ h)
theorem ContainsFunc_Write (xs : List DWrite) (f : DWrite → Bool) : g_slices_ContainsFunc_Write xs f = xs.any f := idxF_any f d_Write xs
theorem within_eq : i_within = s_l1In := rfl
theorem f_l1In {n lo hi : Int} (h : s_l1In n lo hi = true) : lo ≤ n ∧ n ≤ hi := by
  unfold s_l1In at h
  obtain ⟨h1, h2⟩ := of_cond_f h
  exact ⟨of_decide_eq_true h1, of_decide_eq_true h2⟩
theorem f_within {n lo hi : Int} (h : i_within n lo hi = true) : lo ≤ n ∧ n ≤ hi := f_l1In h
theorem indexByte_neg (l : List UInt8) (c : UInt8) : decide (Lib.indexByte l c < 0) = !(l.contains c) := by
  induction l with
  | nil => rfl
  | cons b l ih =>
    have hge := Lib.indexByte_ge l c
    rw [Bool.eq_iff_iff] at ih ⊢
    simp only [decide_eq_true_eq, Bool.not_eq_true', List.contains_cons] at ih ⊢
    unfold Lib.indexByte
    by_cases hb : b = c
    · subst hb; simp
    · have hb1 : (b == c) = false := by simpa using hb
      have hb2 : (c == b) = false := by simpa using fun h => hb h.symm
      rw [hb1, hb2]
      simp only [Bool.false_or, Bool.false_eq_true, if_false]
      split
      · rename_i h
        have : Lib.indexByte l c = -1 := by simpa using h
        rw [← ih]; omega
      · rename_i h
        have : Lib.indexByte l c ≠ -1 := by simpa using h
        constructor
        · intro h; omega
        · intro h; have := ih.2 h; omega
theorem byte_back (b : UInt8) : ((b.toNat : Int)).toNat.toUInt8 = b := by simp
theorem idxB_neg (s : Str) (b : UInt8) : decide (idxB s (b.toNat : Int) < 0) = !(s.contains b) := by
  unfold idxB
  rw [byte_back, indexByte_neg]
def byteOk (more : Str) (b : UInt8) : Bool := i_isLowerOrDigit (b.toNat : Int) || more.contains b
theorem hasBytes_eq (s more : Str) : i_hasBytes s more = s.all (byteOk more) := by
  unfold i_hasBytes
  rw [allE (0 : UInt8) (byteOk more) (r := false) fun k => by
    unfold B_i_hasBytes_0 byteOk g_strings_IndexByte g_internal_stringslite_IndexByte
    rw [idxB_neg]
    cases i_isLowerOrDigit ((s.getD k 0).toNat : Int) <;> cases more.contains (s.getD k 0) <;> rfl]
  cases s.all (byteOk more) <;> rfl
theorem toNat_eq (a b : UInt8) : decide ((a.toNat : Int) = (b.toNat : Int)) = (a == b) := by
  rw [Bool.eq_iff_iff, decide_eq_true_iff, beq_iff_eq]
  constructor
  · intro h; exact UInt8.toNat.inj (by omega)
  · intro h; rw [h]
theorem l3B1 {T : Type} (s more : Str) (k : Nat) (x0 : Bool) (fr : Bool → T) (fd : Bool → T) : loopE (loopM (B_s_l3Bytes_1 s more k) (more.length - 0) 0 x0) fr fd = fd (x0 || more.contains (s.getD k 0)) := by
  rw [orE (0 : UInt8) (fun b => (s.getD k 0) == b) fun j x => by
    unfold B_s_l3Bytes_1
    rw [toNat_eq]
    cases x <;> rfl]
  rw [List.contains_eq_any_beq]
theorem l3Bytes_eq (s more : Str) : s_l3Bytes s more = s.all (byteOk more) := by
  unfold s_l3Bytes
  rw [allE (0 : UInt8) (byteOk more) (r := false) fun k => by
    unfold B_s_l3Bytes_0 byteOk i_isLowerOrDigit
    simp only [l3B1]
    cases decide (97 ≤ ((s.getD k 0).toNat : Int)) <;> cases decide (((s.getD k 0).toNat : Int) ≤ 122) <;> cases decide (48 ≤ ((s.getD k 0).toNat : Int)) <;> cases decide (((s.getD k 0).toNat : Int) ≤ 57) <;> cases more.contains (s.getD k 0) <;> rfl]
  cases s.all (byteOk more) <;> rfl
theorem GoodKey_eq (s : Str) : i_GoodKey s = s_l3Key s := by
  unfold i_GoodKey s_l3Key
  rw [hasBytes_eq, l3Bytes_eq, within_eq]
theorem GoodVal_eq (s : Str) : i_GoodVal s = s_l3Val s := by
  unfold i_GoodVal s_l3Val
  rw [hasBytes_eq, l3Bytes_eq]

theorem writeKeys_eq (l : List DWrite) : i_writeKeys l = l.map (·.Key) := by
  unfold i_writeKeys
  rw [mapE (body := B_i_writeKeys_0 l) (xs := l) d_Write (fun w => w.Key) fun k x _ => rfl]
  rfl
def rising (ks : List Str) (k : Nat) : Bool := bif decide (0 < (k : Int)) then sLt (ks.getD ((IntKind.wrap .i64 ((k : Int) - 1)).toNat) d_Str) (ks.getD k d_Str) else true
theorem areRising_eq (ks : List Str) : i_areRising ks = (List.range ks.length).all fun k => s_l3Key (ks.getD k d_Str) && rising ks k := by
  unfold i_areRising
  rw [loopU (fun k => s_l3Key (ks.getD k d_Str) && rising ks k) (r := false) fun k _ => by
    unfold B_i_areRising_0 rising
    rw [GoodKey_eq, sLe_not]
    cases s_l3Key (ks.getD k d_Str) <;> cases decide (0 < (k : Int)) <;> cases sLt (ks.getD ((IntKind.wrap .i64 ((k : Int) - 1)).toNat) d_Str) (ks.getD k d_Str) <;> rfl]
  cases (List.range ks.length).all fun k => s_l3Key (ks.getD k d_Str) && rising ks k <;> rfl
theorem l3Writes_eq (l : List DWrite) : s_l3Writes l = (((List.range l.length).all fun k => s_l3Write ((l.getD k d_Write).Key) ((l.getD k d_Write).Val) ((l.getD k d_Write).Gone) && rising (l.map (·.Key)) k) && decide ((l.length : Int) ≤ 24)) := by
  have hg : ∀ k, (l.map (·.Key)).getD k d_Str = (l.getD k d_Write).Key := by
    intro k
    simp only [List.getD_eq_getElem?_getD, List.getElem?_map]
    cases l[k]? <;> rfl
  unfold s_l3Writes
  rw [loopU (fun k => s_l3Write ((l.getD k d_Write).Key) ((l.getD k d_Write).Val) ((l.getD k d_Write).Gone) && rising (l.map (·.Key)) k) (r := false) fun k _ => by
    unfold B_s_l3Writes_0 rising
    rw [hg, hg]
    cases s_l3Write ((l.getD k d_Write).Key) ((l.getD k d_Write).Val) ((l.getD k d_Write).Gone) <;> cases decide (0 < (k : Int)) <;> cases sLt (l.getD ((IntKind.wrap .i64 ((k : Int) - 1)).toNat) d_Write).Key (l.getD k d_Write).Key <;> rfl]
  cases ((List.range l.length).all fun k => s_l3Write ((l.getD k d_Write).Key) ((l.getD k d_Write).Val) ((l.getD k d_Write).Gone) && rising (l.map (·.Key)) k) <;> rfl
theorem and_all {α : Type} (l : List α) (p q : α → Bool) : (l.all p && l.all q) = l.all fun x => p x && q x := by
  induction l with
  | nil => rfl
  | cons x l ih =>
    simp only [List.all_cons, ← ih]
    cases p x <;> cases q x <;> cases l.all p <;> rfl
theorem isStored_eq (v : Str) (g : Bool) : i_isStored v g = (s_l3Val v && (!g || v == ([] : Str))) := by
  unfold i_isStored
  rw [GoodVal_eq]
  cases s_l3Val v <;> cases g <;> cases (v == ([] : Str)) <;> rfl
theorem l3Write_eq (k v : Str) (g : Bool) : s_l3Write k v g = (s_l3Key k && i_isStored v g) := by
  rw [isStored_eq]
  unfold s_l3Write
  cases s_l3Key k <;> cases s_l3Val v <;> cases g <;> cases (v == ([] : Str)) <;> rfl
theorem GoodWrites_eq (l : List DWrite) : i_GoodWrites l = s_l3Writes l := by
  have hg : ∀ k, (l.map (·.Key)).getD k d_Str = (l.getD k d_Write).Key := by
    intro k
    simp only [List.getD_eq_getElem?_getD, List.getElem?_map]
    cases l[k]? <;> rfl
  unfold i_GoodWrites
  rw [writeKeys_eq, areRising_eq, l3Writes_eq, ContainsFunc_Write, List.length_map]
  have h1 : (!(l.any fun y => i_GoodWrites_c1 y)) = (List.range l.length).all fun k => i_isStored (l.getD k d_Write).Val (l.getD k d_Write).Gone := by
    rw [List.not_any_eq_all_not, ← range_all d_Write]
    unfold i_GoodWrites_c1
    simp only [Bool.not_not]
  rw [h1]
  have h2 : ((List.range l.length).all fun k => s_l3Write ((l.getD k d_Write).Key) ((l.getD k d_Write).Val) ((l.getD k d_Write).Gone) && rising (l.map (·.Key)) k) = (((List.range l.length).all fun k => s_l3Key ((l.map (·.Key)).getD k d_Str) && rising (l.map (·.Key)) k) && (List.range l.length).all fun k => i_isStored (l.getD k d_Write).Val (l.getD k d_Write).Gone) := by
    rw [and_all]
    congr 1; funext k
    rw [l3Write_eq, hg]
    cases s_l3Key (l.getD k d_Write).Key <;> cases i_isStored (l.getD k d_Write).Val (l.getD k d_Write).Gone <;> cases rising (l.map (·.Key)) k <;> rfl
  rw [h2]
  cases decide ((l.length : Int) ≤ 24) <;> cases ((List.range l.length).all fun k => s_l3Key ((l.map (·.Key)).getD k d_Str) && rising (l.map (·.Key)) k) <;> cases ((List.range l.length).all fun k => i_isStored (l.getD k d_Write).Val (l.getD k d_Write).Gone) <;> rfl
theorem isRows_eq (l : List DWrite) : i_isRows l = (s_l3Writes l && l.all fun w => !w.Gone) := by
  unfold i_isRows
  rw [GoodWrites_eq, ContainsFunc_Write, List.not_any_eq_all_not]
  cases s_l3Writes l <;> rfl
theorem GoodCopy_eq (c : DCopy) : i_GoodCopy c = s_GoodCopy c := by
  unfold i_GoodCopy s_GoodCopy s_l31Copy i_isTrue
  rw [allE d_Write (fun w => !w.Gone) (r := false) fun k => by
    unfold B_s_l31Copy_0
    cases (c.Rows.getD k d_Write).Gone <;> rfl]
  rw [isRows_eq, within_eq]
  cases s_l1In c.Time 0 100000 <;> cases s_l3Writes c.Rows <;> cases (c.Rows.all fun w => !w.Gone) <;> rfl
theorem u8_mod (n : Int) : IntKind.wrap .u8 n = n % 256 := by
  simp [IntKind.wrap, IntKind.bits, IntKind.signed]
theorem u8_eq {a b : Int} (h : a % 256 = b % 256) : IntKind.wrap .u8 a = IntKind.wrap .u8 b := by rw [u8_mod, u8_mod, h]
theorem numBody_eq (n m : Int) : B_i_numBytes_0 n = B_s_l1NumB_0 m := by
  funext ⟨a, x⟩
  unfold B_i_numBytes_0 B_s_l1NumB_0
  dsimp only
  have : IntKind.wrap .u8 ((IntKind.wrap .u8 (Int.tmod a 128)) + 128) = IntKind.wrap .u8 (IntKind.wrap .i64 ((Int.tmod a 128) + 128)) := by
    simp only [u8_mod, IntKind.wrap_i64]; omega
  rw [this]
theorem numBytes_eq (n : Int) : i_numBytes n = s_l1NumB n := by
  unfold i_numBytes s_l1NumB
  rw [numBody_eq n n]
theorem textBytes_eq (s : Str) : i_textBytes s = s_l1TextB s := by
  unfold i_textBytes s_l1TextB
  rw [numBytes_eq]
theorem rf_numBytes (n : Int) (h : 0 ≤ n ∧ n ≤ 1073741824) : (i_numBytes n).length ≤ 5 := by
  unfold i_numBytes
  refine loopW_val (fun (p : Int × List Int) => 0 ≤ p.1 ∧ ((p.2.length = 0 ∧ p.1 ≤ 1073741824) ∨ (p.2.length = 1 ∧ p.1 ≤ 8388608) ∨ (p.2.length = 2 ∧ p.1 ≤ 65536) ∨ (p.2.length = 3 ∧ p.1 ≤ 512) ∨ (p.2.length = 4 ∧ p.1 ≤ 4))) (fun (p : Int × List Int) => p.1.toNat) (fun (v : Str) => v.length ≤ 5) ?_ _ _ ⟨h.1, .inl ⟨rfl, h.2⟩⟩ (Nat.lt_succ_self _)
  rintro ⟨a, x⟩ ⟨h1, h2⟩
  unfold B_i_numBytes_0
  dsimp only at h1 h2 ⊢
  by_cases h3 : 128 ≤ a
  · have h4 := wtd (n := a) (c := 128) (by decide) (by omega) (by omega)
    simp only [decide_eq_true h3, cond_true, Out.sat, List.length_append, List.length_cons, List.length_nil]
    omega
  · simp only [decide_eq_false h3, cond_false, Out.sat, toS_length, List.length_append, List.length_cons, List.length_nil]
    omega
theorem rf_l1NumB (n : Int) (h : 0 ≤ n ∧ n ≤ 1073741824) : (s_l1NumB n).length ≤ 5 := numBytes_eq n ▸ rf_numBytes n h
theorem rf_textBytes (s : Str) (h : s.length ≤ 1073741824) : (i_textBytes s).length ≤ s.length + 5 := by
  have := rf_numBytes (s.length : Int) (by omega)
  unfold i_textBytes
  rw [List.length_append]; omega
theorem rf_l1TextB (s : Str) (h : s.length ≤ 1073741824) : (s_l1TextB s).length ≤ s.length + 5 := textBytes_eq s ▸ rf_textBytes s h
theorem rf_seal (b : Str) : (i_seal b).length = b.length + 3 := by unfold i_seal; rw [List.length_append, toS_length]; rfl
theorem rf_l1Seal (b : Str) : (s_l1Seal b).length = b.length + 3 := by unfold s_l1Seal s_l1Three; rw [List.length_append, toS_length]; rfl
theorem sumOf_eq (b : Str) : i_sumOf b = s_l1Sum b := rfl
theorem sum_rng (b : Str) : 0 ≤ i_sumOf b ∧ i_sumOf b < 16000057 := by
  unfold i_sumOf
  refine loopM_val (fun _ (x : Int) => 0 ≤ x ∧ x < 16000057) (fun v => 0 ≤ v ∧ v < 16000057) ⟨by decide, by decide⟩ (fun s h => h) ?_
  intro j x _ _ hx
  unfold B_i_sumOf_0
  have h1 : 0 ≤ ((b.getD j 0).toNat : Int) ∧ ((b.getD j 0).toNat : Int) < 256 := ⟨by omega, by have := (b.getD j 0).toNat_lt; omega⟩
  dsimp only
  rw [wrap_in (n := 31 * x) (by omega), wrap_in (n := ((b.getD j 0).toNat : Int)) (by omega), wrap_in (n := 31 * x + _) (by omega), wrap_in (by omega)]
  exact ⟨Int.tmod_nonneg _ (by omega), Int.tmod_lt_of_pos _ (by decide)⟩
theorem seal_eq (b : Str) : i_seal b = s_l1Seal b := by
  unfold i_seal s_l1Seal s_l1Three
  rw [← sumOf_eq]
  have h := sum_rng b
  generalize i_sumOf b = n at h
  have t1 : Int.tdiv n 65536 = n / 65536 := Int.tdiv_eq_ediv_of_nonneg (by omega)
  have t2 : Int.tdiv n 256 = n / 256 := Int.tdiv_eq_ediv_of_nonneg (by omega)
  have f1 : Int.fdiv n 65536 = n / 65536 := Int.fdiv_eq_ediv_of_nonneg _ (by decide)
  have f2 : Int.fdiv n 256 = n / 256 := Int.fdiv_eq_ediv_of_nonneg _ (by decide)
  rw [t1, t2, f1, f2, wrap_in (n := n / 65536) (by omega), wrap_in (n := n / 256) (by omega)]
  have m1 : Int.tmod (n / 256) 256 = (n / 256) % 256 := Int.tmod_eq_emod_of_nonneg (by omega)
  have m2 : Int.tmod n 256 = n % 256 := Int.tmod_eq_emod_of_nonneg (by omega)
  rw [m1, m2]
  rw [u8_eq (a := n / 256) (b := n / 256 % 256) (by omega), u8_eq (a := n) (b := n % 256) (by omega)]
def copyShort (c : DCopy) : Prop := ∀ k, k < c.Rows.length → (c.Rows.getD k d_Write).Key.length ≤ 12 ∧ (c.Rows.getD k d_Write).Val.length ≤ 24
theorem l3Key_len {s : Str} (h : s_l3Key s = true) : s.length ≤ 12 := by
  unfold s_l3Key at h
  have := f_l1In (of_cond_f h).1
  omega
theorem l3Val_len {s : Str} (h : s_l3Val s = true) : s.length ≤ 24 := by
  unfold s_l3Val at h
  have := of_decide_eq_true (of_cond_f h).1
  omega
theorem l3Write_len {k v : Str} {g : Bool} (h : s_l3Write k v g = true) : k.length ≤ 12 ∧ v.length ≤ 24 := by
  rw [l3Write_eq, isStored_eq] at h
  simp only [Bool.and_eq_true] at h
  exact ⟨l3Key_len h.1, l3Val_len h.2.1⟩
theorem f_l3Writes {l : List DWrite} (h : s_l3Writes l = true) : l.length ≤ 24 ∧ ∀ k, k < l.length → (l.getD k d_Write).Key.length ≤ 12 ∧ (l.getD k d_Write).Val.length ≤ 24 := by
  rw [l3Writes_eq, Bool.and_eq_true, decide_eq_true_eq] at h
  refine ⟨by omega, fun k hk => ?_⟩
  have := List.all_eq_true.1 h.1 k (List.mem_range.2 hk)
  rw [Bool.and_eq_true] at this
  exact l3Write_len this.1
theorem f_s_l31Copy {c : DCopy} (h : s_l31Copy c = true) : (c.Rows.length ≤ 24 ∧ 0 ≤ c.Time ∧ c.Time ≤ 100000) ∧ copyShort c := by
  have h' : i_GoodCopy c = true := by rw [GoodCopy_eq]; exact h
  unfold i_GoodCopy i_isTrue at h'
  obtain ⟨h1, h2⟩ := of_cond_f h'
  obtain ⟨h2, _⟩ := of_cond_f h2
  rw [isRows_eq, Bool.and_eq_true] at h2
  have h3 := f_l3Writes h2.1
  have h4 := f_within h1
  exact ⟨⟨h3.1, h4⟩, h3.2⟩
theorem f_i_GoodCopy {c : DCopy} (h : i_GoodCopy c = true) : (c.Rows.length ≤ 24 ∧ 0 ≤ c.Time ∧ c.Time ≤ 100000) ∧ copyShort c := f_s_l31Copy (by have := GoodCopy_eq c; rw [h] at this; exact this.symm)
theorem CopyBytes_eq (c : DCopy) : i_CopyBytes c = s_CopyBytes c := by
  unfold i_CopyBytes s_CopyBytes
  rw [GoodCopy_eq]
  unfold s_GoodCopy
  cases s_l31Copy c
  · rfl
  · simp only [cond_true]
    unfold i_copyBytes
    rw [catE (body := B_i_copyBytes_0 c) (xs := c.Rows) d_Write (fun w => i_textBytes w.Key ++ i_textBytes w.Val) fun k x _ => rfl, catE (body := B_s_CopyBytes_0 c) (xs := c.Rows) d_Write (fun w => i_textBytes w.Key ++ i_textBytes w.Val) fun k x _ => by unfold B_s_CopyBytes_0; dsimp only; rw [← textBytes_eq, ← textBytes_eq, List.append_assoc]]
    rw [seal_eq, numBytes_eq, numBytes_eq]
theorem mul_rng {a f m : Int} (h1 : 0 ≤ a) (h2 : a ≤ 127) (h3 : 0 ≤ f) (h4 : f ≤ m) : 0 ≤ a * f ∧ a * f ≤ 127 * m :=
  ⟨Int.mul_nonneg h1 h3, Int.le_trans (Int.mul_le_mul_of_nonneg_right h2 h3) (Int.mul_le_mul_of_nonneg_left h4 (by decide))⟩
theorem digit_mul (p : Str) {f : Int} (h1 : 0 ≤ f) (h2 : f ≤ 34359738368) : 0 ≤ IntKind.wrap .i64 ((IntKind.wrap .i64 (Int.tmod ((p.getD 0 0).toNat : Int) 128)) * f) ∧ IntKind.wrap .i64 ((IntKind.wrap .i64 (Int.tmod ((p.getD 0 0).toNat : Int) 128)) * f) ≤ 4363686772736 := by
  have h := Int.tmod_eq_emod_of_nonneg (a := ((p.getD 0 0).toNat : Int)) (b := 128) (by omega)
  have hw : IntKind.wrap .i64 (Int.tmod ((p.getD 0 0).toNat : Int) 128) = ((p.getD 0 0).toNat : Int) % 128 := by rw [h]; exact wrap_in (by omega)
  rw [hw]
  have hm := mul_rng (a := ((p.getD 0 0).toNat : Int) % 128) (f := f) (m := 34359738368) (by omega) (by omega) h1 h2
  rw [wrap_in (by omega)]; exact ⟨hm.1, by omega⟩
theorem rf_fail (b : Str) (s : Int × Bool) : (i_source_fail b s).1 = s.1 := rfl
theorem take_cases {b : Str} (o : okS b) (s : Int × Bool) (n : Int) (h : 0 ≤ s.1 ∧ s.1 ≤ (b.length : Int) ∧ 0 ≤ n ∧ n ≤ 1073741824) :
    (i_source_take b s n = ([], (s.1, true)) ∧ (s.2 = true ∨ (b.length : Int) < s.1 + n)) ∨ (i_source_take b s n = ((b.drop s.1.toNat).take n.toNat, (s.1 + n, false)) ∧ s.2 = false ∧ s.1 + n ≤ (b.length : Int)) := by
  unfold okS at o
  unfold i_source_take i_source_fail
  cases h2 : s.2 with
  | true => exact .inl ⟨rfl, .inl rfl⟩
  | false =>
    simp only [cond_false]
    rw [wrap_in (n := (b.length : Int) - s.1) (by omega)]
    by_cases h3 : (b.length : Int) - s.1 < n
    · rw [decide_eq_true h3]; exact .inl ⟨rfl, .inr (by omega)⟩
    · rw [decide_eq_false h3]
      refine .inr ⟨?_, trivial, by omega⟩
      simp only [cond_false]
      rw [wrap_in (n := s.1 + n) (by omega), wrap_in (n := s.1 + n - n) (by omega), List.drop_take, show s.1 + n - n = s.1 by omega, show (s.1 + n).toNat - s.1.toNat = n.toNat by omega]
theorem rf_take {b : Str} (o : okS b) (s : Int × Bool) (n : Int) (h : 0 ≤ s.1 ∧ s.1 ≤ (b.length : Int) ∧ 0 ≤ n ∧ n ≤ 1073741824) : s.1 ≤ (i_source_take b s n).2.1 ∧ (i_source_take b s n).2.1 ≤ (b.length : Int) := by
  rcases take_cases o s n h with ⟨e, _⟩ | ⟨e, _, h2⟩ <;> rw [e] <;> dsimp only <;> omega
theorem f_take {b : Str} {s : Int × Bool} {n : Int} (hf : (i_source_take b s n).2.2 = false) (o : okS b) (h : 0 ≤ s.1 ∧ s.1 ≤ (b.length : Int) ∧ 0 ≤ n ∧ n ≤ 1073741824) : (i_source_take b s n).2.1 = s.1 + n ∧ ((i_source_take b s n).1.length : Int) = n ∧ s.1 + n ≤ (b.length : Int) := by
  rcases take_cases o s n h with ⟨e, _⟩ | ⟨e, _, h2⟩ <;> rw [e] at hf ⊢
  · cases hf
  · dsimp only; rw [List.length_take, List.length_drop]; omega
theorem rf_num {b : Str} (o : okS b) (s : Int × Bool) (h : 0 ≤ s.1 ∧ s.1 ≤ (b.length : Int)) : s.1 ≤ (i_source_num b s).2.1 ∧ (i_source_num b s).2.1 ≤ (b.length : Int) ∧ 0 ≤ (i_source_num b s).1 ∧ (i_source_num b s).1 ≤ 1000000000 := by
  have ho : b.length ≤ 1073741824 := o
  unfold i_source_num
  refine loopW_val (fun (p : Int × Int × Int × Bool) => s.1 ≤ p.2.2.1 ∧ p.2.2.1 ≤ (b.length : Int) ∧ 0 ≤ p.1 ∧ p.1 ≤ 1000000000 ∧ p.2.2.1 - s.1 ≤ 5 ∧ 0 ≤ p.2.1 ∧ ((p.2.2.1 - s.1 = 0 ∧ p.2.1 = 1) ∨ (p.2.2.1 - s.1 = 1 ∧ p.2.1 = 128) ∨ (p.2.2.1 - s.1 = 2 ∧ p.2.1 = 16384) ∨ (p.2.2.1 - s.1 = 3 ∧ p.2.1 = 2097152) ∨ (p.2.2.1 - s.1 = 4 ∧ p.2.1 = 268435456) ∨ (p.2.2.1 - s.1 = 5 ∧ p.2.1 = 34359738368))) (fun (p : Int × Int × Int × Bool) => (6 - (p.2.2.1 - s.1)).toNat) (fun (v : Int × (Int × Bool)) => s.1 ≤ v.2.1 ∧ v.2.1 ≤ (b.length : Int) ∧ 0 ≤ v.1 ∧ v.1 ≤ 1000000000) ?_ _ _ ⟨Int.le_refl _, h.2, by dsimp only; omega, by dsimp only; omega, by dsimp only; omega, by dsimp only; omega, .inl ⟨by dsimp only; omega, rfl⟩⟩ (by dsimp only; omega)
  rintro ⟨n, f, a, g⟩ hI
  dsimp only at hI
  unfold B_i_source_num_0
  dsimp only
  have hr := rf_take o (a, g) 1 ⟨by dsimp only; omega, hI.2.1, by decide, by decide⟩
  dsimp only at hr
  cases ht : (i_source_take b (a, g) 1).2.2 with
  | true => simp only [cond_true, Out.sat]; exact ⟨by omega, hr.2, by omega, by omega⟩
  | false =>
    have hd := f_take ht o ⟨by dsimp only; omega, hI.2.1, by decide, by decide⟩
    dsimp only at hd
    have hm := digit_mul (i_source_take b (a, g) 1).1 (f := f) hI.2.2.2.2.2.1 (by omega)
    simp only [cond_false]
    generalize IntKind.wrap .i64 ((IntKind.wrap .i64 (Int.tmod (((i_source_take b (a, g) 1).1.getD 0 0).toNat : Int) 128)) * f) = z at hm
    rw [wrap_in (n := n + z) (by omega), wrap_in (n := (i_source_take b (a, g) 1).2.1 - s.1) (by omega)]
    by_cases h1 : (1000000000 : Int) < n + z
    · simp only [decide_eq_true h1, cond_true, Out.sat, rf_fail]; exact ⟨by omega, hr.2, by omega, by omega⟩
    · simp only [decide_eq_false h1, cond_false]
      by_cases h2 : (5 : Int) < (i_source_take b (a, g) 1).2.1 - s.1
      · simp only [decide_eq_true h2, cond_true, Out.sat, rf_fail]; exact ⟨by omega, hr.2, by omega, by omega⟩
      · simp only [decide_eq_false h2, cond_false]
        cases decide (((((i_source_take b (a, g) 1).1).getD 0 0).toNat : Int) < 128) with
        | true =>
          simp only [cond_true, Out.sat]
          cases hq : (i_numBytes (n + z)) == ((b.take ((i_source_take b (a, g) 1).2.1).toNat).drop s.1.toNat)
          · simp only [cond_false, rf_fail]; exact ⟨by omega, hr.2, by omega, by omega⟩
          · simp only [cond_true]; exact ⟨by omega, hr.2, by omega, by omega⟩
        | false =>
          simp only [cond_false, Out.sat]
          rw [wrap_in (n := f * 128) (by omega)]
          refine ⟨⟨by omega, hr.2, by omega, by omega, by omega, by omega, ?_⟩, by omega⟩
          omega
theorem rf_text {b : Str} (o : okS b) (s : Int × Bool) (h : 0 ≤ s.1 ∧ s.1 ≤ (b.length : Int)) : s.1 ≤ (i_source_text b s).2.1 ∧ (i_source_text b s).2.1 ≤ (b.length : Int) := by
  have hn := rf_num o s h
  unfold i_source_text
  by_cases h1 : 60 < (i_source_num b s).1
  · simp only [decide_eq_true h1, cond_true, rf_fail]; omega
  · simp only [decide_eq_false h1, cond_false]
    have ht := rf_take o (i_source_num b s).2 (i_source_num b s).1 ⟨by omega, by omega, by omega, by omega⟩
    omega
theorem one_cases {b : Str} (o : okS b) (s : Int × Bool) (h : 0 ≤ s.1 ∧ s.1 ≤ (b.length : Int)) :
    (s_l1R_one b s = (0, (s.1, true)) ∧ (s.2 = true ∨ (b.length : Int) = s.1)) ∨ (s_l1R_one b s = (((b.getD s.1.toNat 0).toNat : Int), (s.1 + 1, false)) ∧ s.2 = false ∧ s.1 < (b.length : Int)) := by
  unfold okS at o
  unfold s_l1R_one
  cases h2 : s.2 with
  | true => exact .inl ⟨rfl, .inl rfl⟩
  | false =>
    simp only [cond_false]
    by_cases h3 : (b.length : Int) ≤ s.1
    · rw [decide_eq_true h3]; exact .inl ⟨rfl, .inr (by omega)⟩
    · rw [decide_eq_false h3]
      refine .inr ⟨?_, trivial, by omega⟩
      simp only [cond_false]
      rw [wrap_in (n := s.1 + 1) (by omega), wrap_in (n := s.1 + 1 - 1) (by omega), show s.1 + 1 - 1 = s.1 by omega, wrap_in (n := ((b.getD s.1.toNat 0).toNat : Int)) (by have := (b.getD s.1.toNat 0).toNat_lt; omega)]
theorem rf_one {b : Str} (o : okS b) (s : Int × Bool) (h : 0 ≤ s.1 ∧ s.1 ≤ (b.length : Int)) : s.1 ≤ (s_l1R_one b s).2.1 ∧ (s_l1R_one b s).2.1 ≤ (b.length : Int) ∧ (s_l1R_one b s).2.1 ≤ s.1 + 1 ∧ 0 ≤ (s_l1R_one b s).1 ∧ (s_l1R_one b s).1 ≤ 255 := by
  rcases one_cases o s h with ⟨e, _⟩ | ⟨e, _, h2⟩ <;> rw [e] <;> dsimp only
  · omega
  · have := (b.getD s.1.toNat 0).toNat_lt; omega
theorem digit_mul2 {b : Str} (o : okS b) (s : Int × Bool) {f : Int} (h : 0 ≤ s.1 ∧ s.1 ≤ (b.length : Int)) (h1 : 0 ≤ f) (h2 : f ≤ 268435456) : 0 ≤ IntKind.wrap .i64 ((Int.tmod ((s_l1R_one b s).1) 128) * f) ∧ IntKind.wrap .i64 ((Int.tmod ((s_l1R_one b s).1) 128) * f) ≤ 34091302912 := by
  have hr := rf_one o s h
  rw [Int.tmod_eq_emod_of_nonneg (by omega)]
  have hm := mul_rng (a := (s_l1R_one b s).1 % 128) (f := f) (m := 268435456) (by omega) (by omega) h1 h2
  rw [wrap_in (by omega)]; exact ⟨hm.1, by omega⟩
theorem rf_rnum {b : Str} (o : okS b) (s : Int × Bool) (h : 0 ≤ s.1 ∧ s.1 ≤ (b.length : Int)) : s.1 ≤ (s_l1R_num b s).2.1 ∧ (s_l1R_num b s).2.1 ≤ (b.length : Int) ∧ 0 ≤ (s_l1R_num b s).1 ∧ (s_l1R_num b s).1 ≤ 1000000000 := by
  have ho : b.length ≤ 1073741824 := o
  unfold s_l1R_num
  refine loopM_val (fun k (p : Int × Int × Int × Bool) => s.1 ≤ p.2.2.1 ∧ p.2.2.1 ≤ (b.length : Int) ∧ 0 ≤ p.1 ∧ p.1 ≤ 34091302912 * (k : Int) ∧ 0 ≤ p.2.1 ∧ ((k = 0 ∧ p.2.1 = 1) ∨ (k = 1 ∧ p.2.1 = 128) ∨ (k = 2 ∧ p.2.1 = 16384) ∨ (k = 3 ∧ p.2.1 = 2097152) ∨ (k = 4 ∧ p.2.1 = 268435456) ∨ (k = 5 ∧ p.2.1 = 34359738368))) (fun (v : Int × (Int × Bool)) => s.1 ≤ v.2.1 ∧ v.2.1 ≤ (b.length : Int) ∧ 0 ≤ v.1 ∧ v.1 ≤ 1000000000) ⟨Int.le_refl _, h.2, by dsimp only; omega, by dsimp only; omega, by dsimp only; omega, .inl ⟨rfl, rfl⟩⟩ ?_ ?_
  · rintro ⟨n, f, a, g⟩ hI
    dsimp only at hI ⊢
    cases g
    · simp only [cond_false]
      by_cases h1 : (1000000000 : Int) < n
      · simp only [decide_eq_true h1, cond_true]; omega
      · simp only [decide_eq_false h1, cond_false]
        cases hq : (s_l1NumB n) == ((b.take (a).toNat).drop (s.1).toNat)
        · simp only [cond_false]; omega
        · simp only [cond_true]; omega
    · simp only [cond_true]; omega
  · rintro k ⟨n, f, a, g⟩ hk hk2 hI
    dsimp only at hI
    unfold B_s_l1R_num_0
    dsimp only
    have hr := rf_one o (a, g) ⟨by dsimp only; omega, hI.2.1⟩
    dsimp only at hr
    have hm := digit_mul2 o (a, g) (f := f) ⟨by dsimp only; omega, hI.2.1⟩ hI.2.2.2.2.1 (by omega)
    generalize IntKind.wrap .i64 ((Int.tmod ((s_l1R_one b (a, g)).1) 128) * f) = z at hm
    rw [wrap_in (n := n + z) (by omega), wrap_in (n := f * 128) (by omega)]
    by_cases h3 : (s_l1R_one b (a, g)).1 < 128
    · simp only [decide_eq_true h3, cond_true, Out.sat]
      cases (s_l1R_one b (a, g)).2.2
      · simp only [cond_false]
        by_cases h1 : (1000000000 : Int) < n + z
        · simp only [decide_eq_true h1, cond_true]; omega
        · simp only [decide_eq_false h1, cond_false]
          cases hq : (s_l1NumB (n + z)) == ((b.take ((s_l1R_one b (a, g)).2.1).toNat).drop (s.1).toNat)
          · simp only [cond_false]; omega
          · simp only [cond_true]; omega
      · simp only [cond_true]; omega
    · simp only [decide_eq_false h3, cond_false, Out.sat]
      omega
theorem rf_rtext {b : Str} (o : okS b) (s : Int × Bool) (h : 0 ≤ s.1 ∧ s.1 ≤ (b.length : Int)) : s.1 ≤ (s_l1R_text b s).2.1 ∧ (s_l1R_text b s).2.1 ≤ (b.length : Int) := by
  have ho : b.length ≤ 1073741824 := o
  have hn := rf_rnum o s h
  unfold s_l1R_text
  cases ((s_l1R_num b s).2).2
  · simp only [cond_false]
    by_cases h1 : 60 < (s_l1R_num b s).1
    · simp only [decide_eq_true h1, cond_true]; omega
    · simp only [decide_eq_false h1, cond_false]
      rw [wrap_in (n := (s_l1R_num b s).2.1 + (s_l1R_num b s).1) (by omega)]
      by_cases h2 : (b.length : Int) < (s_l1R_num b s).2.1 + (s_l1R_num b s).1
      · simp only [decide_eq_true h2, cond_true]; omega
      · simp only [decide_eq_false h2, cond_false]; omega
  · simp only [cond_true]; omega

def nb : Nat → Nat → Str
  | 0, n => [n.toUInt8]
  | f + 1, n => if n < 128 then [n.toUInt8] else (n % 128 + 128).toUInt8 :: nb f (n / 128)
theorem numBytes_loop (a : Int) : ∀ (f n m : Nat) (x : List Int), n < 128 ^ (f + 1) → n ≤ 1073741824 → n < m → loopE (loopW (B_i_numBytes_0 a) m ((n : Int), x)) (fun r => r) (fun (x27, x28) => toS (x28 ++ ([IntKind.wrap .u8 x27] : List Int))) = toS x ++ nb f n
  | f, n, 0, x, _, _, h => absurd h (Nat.not_lt_zero _)
  | f, n, m + 1, x, h, hb, hm => by
    have hs : ∀ y : List Int, toS (x ++ y) = toS x ++ toS y := fun y => List.map_append ..
    by_cases h1 : (128 : Int) ≤ (n : Int)
    · have hf : ∃ g, f = g + 1 := by cases f with | zero => simp at h; omega | succ g => exact ⟨g, rfl⟩
      obtain ⟨g, rfl⟩ := hf
      have hq : IntKind.wrap .i64 (Int.tdiv (n : Int) 128) = ((n / 128 : Nat) : Int) := by
        rw [Int.tdiv_eq_ediv_of_nonneg (by omega), wrap_in (by omega)]; omega
      have hB : B_i_numBytes_0 a ((n : Int), x) = .cont (((n / 128 : Nat) : Int), (x ++ ([IntKind.wrap .u8 ((IntKind.wrap .u8 (Int.tmod (n : Int) 128)) + 128)] : List Int))) := by
        unfold B_i_numBytes_0; dsimp only; rw [decide_eq_true h1, hq]; rfl
      rw [loopW.cont hm hB, Nat.add_sub_cancel, numBytes_loop a g (n / 128) m _ (by rw [Nat.div_lt_iff_lt_mul (by decide)]; rw [Nat.pow_succ] at h; exact h) (by omega) (by omega), hs]
      have hd : toS [IntKind.wrap .u8 ((IntKind.wrap .u8 (Int.tmod (n : Int) 128)) + 128)] = [(n % 128 + 128).toUInt8] := by
        rw [Int.tmod_eq_emod_of_nonneg (by omega), u8_mod, u8_mod]
        show [UInt8.ofNat _] = [UInt8.ofNat _]
        congr 2; omega
      rw [hd, List.append_assoc]
      congr 1
      show _ = nb (g + 1) n
      conv => rhs; unfold nb
      rw [if_neg (by omega)]; rfl
    · have hB : B_i_numBytes_0 a ((n : Int), x) = .brk ((n : Int), x) := by
        unfold B_i_numBytes_0; dsimp only; rw [decide_eq_false h1]; rfl
      rw [loopW.brk hm hB]
      show toS (x ++ [IntKind.wrap .u8 (n : Int)]) = _
      rw [hs]
      have hd : toS [IntKind.wrap .u8 (n : Int)] = [n.toUInt8] := by
        rw [u8_mod]
        show [UInt8.ofNat _] = [UInt8.ofNat _]
        congr 2; omega
      rw [hd]
      congr 1
      cases f with
      | zero => rfl
      | succ g => unfold nb; rw [if_pos (by omega)]
theorem numBytes_nb {n : Nat} (h : n ≤ 1000000000) : i_numBytes (n : Int) = nb 4 n := by
  unfold i_numBytes
  rw [numBytes_loop _ 4 n _ [] (by omega) (by omega) (by omega)]; rfl
theorem nb_pos (f n : Nat) : 0 < (nb f n).length := by
  cases f with
  | zero => exact Nat.one_pos
  | succ f => unfold nb; split <;> simp
theorem drop_tail {b : Str} {a : Nat} {c : UInt8} {r : Str} (h : b.drop a = c :: r) : a < b.length ∧ b.drop (a + 1) = r ∧ b.getD a 0 = c := by
  have hl : a < b.length := by
    have := congrArg List.length h
    rw [List.length_drop, List.length_cons] at this; omega
  rw [List.drop_eq_getElem_cons hl] at h
  injection h with h1 h2
  exact ⟨hl, h2, by rw [← h1]; simp [List.getD, List.getElem?_eq_getElem hl]⟩
theorem take_one {b : Str} (o : okS b) {a : Nat} {c : UInt8} {r : Str} (h : b.drop a = c :: r) : i_source_take b ((a : Int), false) 1 = ([c], (((a + 1 : Nat) : Int), false)) := by
  have hd := drop_tail h
  rcases take_cases o ((a : Int), false) 1 ⟨by dsimp only; omega, by dsimp only; omega, by decide, by decide⟩ with ⟨_, h2⟩ | ⟨e, _, _⟩
  · rcases h2 with h2 | h2
    · cases h2
    · dsimp only at h2; omega
  · rw [e]; dsimp only
    rw [Int.toNat_natCast, h]; rfl
theorem one_one {b : Str} (o : okS b) {a : Nat} {c : UInt8} {r : Str} (h : b.drop a = c :: r) : s_l1R_one b ((a : Int), false) = ((c.toNat : Int), (((a + 1 : Nat) : Int), false)) := by
  have hd := drop_tail h
  rcases one_cases o ((a : Int), false) ⟨by dsimp only; omega, by dsimp only; omega⟩ with ⟨_, h2⟩ | ⟨e, _, _⟩
  · rcases h2 with h2 | h2
    · cases h2
    · dsimp only at h2; omega
  · rw [e]; dsimp only
    rw [Int.toNat_natCast, hd.2.2]; rfl
theorem digit_step {m F : Nat} : m * F = (m % 128) * F + (m / 128) * (F * 128) := by
  conv => lhs; rw [← Nat.div_add_mod m 128]
  rw [Nat.add_mul, Nat.add_comm, Nat.mul_comm 128, Nat.mul_assoc, Nat.mul_comm 128]
theorem nb_cons (f m : Nat) : ∃ c r, nb f m = c :: r := by
  cases h : nb f m with
  | nil => have := nb_pos f m; rw [h] at this; cases this
  | cons c r => exact ⟨c, r, rfl⟩
theorem nb_last {f m : Nat} {c : UInt8} {r : Str} (h : m < 128) (hc : nb f m = c :: r) : c.toNat = m ∧ r = [] := by
  have hcm : c = m.toUInt8 ∧ r = [] := by
    cases f with
    | zero => injection hc with h1 h2; exact ⟨h1.symm, h2.symm⟩
    | succ g => unfold nb at hc; rw [if_pos h] at hc; injection hc with h1 h2; exact ⟨h1.symm, h2.symm⟩
  refine ⟨?_, hcm.2⟩
  rw [hcm.1]; simp [Nat.toUInt8]; omega
theorem nb_more {g m : Nat} {c : UInt8} {r : Str} (h : ¬ m < 128) (hc : nb (g + 1) m = c :: r) : c.toNat = m % 128 + 128 ∧ r = nb g (m / 128) := by
  unfold nb at hc; rw [if_neg h] at hc; injection hc with h1 h2
  refine ⟨?_, h2.symm⟩
  rw [← h1]; simp [Nat.toUInt8]; omega
theorem digit_next {m F n N : Nat} (h : n + m * F = N) (hm : ¬ m < 128) (hN : N ≤ 1000000000) : F * 128 ≤ 1000000000 ∧ n + (m % 128) * F + (m / 128) * (F * 128) = N ∧ n + (m % 128) * F ≤ N := by
  have hst := digit_step (m := m) (F := F)
  have h1 : 1 ≤ m / 128 := by omega
  have h2 : 1 * (F * 128) ≤ (m / 128) * (F * 128) := Nat.mul_le_mul_right _ h1
  omega
theorem num_loop {b : Str} (o : okS b) (s : Int × Bool) {post : Str} {N : Nat} (hN : N ≤ 1000000000) : ∀ (f m F i a n mu : Nat), n + m * F = N → F ≤ 1000000000 → b.drop a = nb f m ++ post → m < 128 ^ (f + 1) → s.1 = ((a - i : Nat) : Int) → i ≤ a → i + f ≤ 4 → f < mu → ∃ F' : Int, loopW (B_i_source_num_0 b s) mu ((n : Int), (F : Int), (a : Int), false) = .done ((N : Int), F', ((a + (nb f m).length : Nat) : Int), false)
  | f, m, F, i, a, n, 0, _, _, _, _, _, _, _, h => absurd h (Nat.not_lt_zero _)
  | f, m, F, i, a, n, mu + 1, hn, hF, hb, hm, hs, hia, hi, hmu => by
    have ho : b.length ≤ 1073741824 := o
    obtain ⟨c, r, hc⟩ := nb_cons f m
    have hb2 : b.drop a = c :: (r ++ post) := by rw [hb, hc]; rfl
    have ht := take_one o hb2
    have hd := drop_tail hb2
    have hg : ([c] : Str).getD 0 0 = c := rfl
    have hc8 := c.toNat_lt
    have hw : IntKind.wrap .i64 (Int.tmod (c.toNat : Int) 128) = ((c.toNat % 128 : Nat) : Int) := by
      rw [Int.tmod_eq_emod_of_nonneg (by omega), wrap_in (by omega)]; omega
    have e2 : ¬ (5 : Int) < ((a + 1 : Nat) : Int) - s.1 := by rw [hs]; omega
    by_cases h128 : m < 128
    · obtain ⟨hcn, hr⟩ := nb_last h128 hc
      have hmul : ((c.toNat % 128 : Nat) : Int) * (F : Int) = ((m * F : Nat) : Int) := by
        rw [hcn, Nat.mod_eq_of_lt h128]; exact (Int.natCast_mul ..).symm
      have e1 : ¬ (1000000000 : Int) < (n : Int) + ((m * F : Nat) : Int) := by omega
      have e3 : ((c.toNat : Nat) : Int) < 128 := by omega
      have hB : B_i_source_num_0 b s ((n : Int), (F : Int), (a : Int), false) = .brk ((n : Int) + ((m * F : Nat) : Int), (F : Int), ((a + 1 : Nat) : Int), false) := by
        unfold B_i_source_num_0
        dsimp only
        rw [ht]
        dsimp only [cond_false]
        rw [hg, hw, hmul, wrap_in (n := ((m * F : Nat) : Int)) (by omega), wrap_in (n := (n : Int) + _) (by omega), wrap_in (n := (((a + 1 : Nat) : Int)) - s.1) (by rw [hs]; omega), decide_eq_false e1, decide_eq_false e2, decide_eq_true e3]
        rfl
      refine ⟨(F : Int), ?_⟩
      rw [loopW.brk hmu hB, hc, hr]
      congr 2
      omega
    · have hg' : ∃ g, f = g + 1 := by
        cases f with
        | zero => simp at hm; omega
        | succ g => exact ⟨g, rfl⟩
      obtain ⟨g, rfl⟩ := hg'
      obtain ⟨hcn, hr⟩ := nb_more h128 hc
      obtain ⟨n1, n2, n3⟩ := digit_next hn h128 hN
      have hmul : ((c.toNat % 128 : Nat) : Int) * (F : Int) = (((m % 128) * F : Nat) : Int) := by
        rw [hcn, show (m % 128 + 128) % 128 = m % 128 by omega]; exact (Int.natCast_mul ..).symm
      have e1 : ¬ (1000000000 : Int) < (n : Int) + (((m % 128) * F : Nat) : Int) := by omega
      have e3 : ¬ ((c.toNat : Nat) : Int) < 128 := by omega
      have hB : B_i_source_num_0 b s ((n : Int), (F : Int), (a : Int), false) = .cont (((n + (m % 128) * F : Nat) : Int), ((F * 128 : Nat) : Int), ((a + 1 : Nat) : Int), false) := by
        unfold B_i_source_num_0
        dsimp only
        rw [ht]
        dsimp only [cond_false]
        rw [hg, hw, hmul, wrap_in (n := (((m % 128) * F : Nat) : Int)) (by omega), wrap_in (n := (n : Int) + _) (by omega), wrap_in (n := (((a + 1 : Nat) : Int)) - s.1) (by rw [hs]; omega), wrap_in (n := (F : Int) * 128) (by omega), decide_eq_false e1, decide_eq_false e2, decide_eq_false e3]
        dsimp only [cond_false]
        congr 2
      obtain ⟨F', ih⟩ := num_loop o s (post := post) hN g (m / 128) (F * 128) (i + 1) (a + 1) (n + (m % 128) * F) mu n2 n1 (by rw [hd.2.1, hr]) (by rw [Nat.div_lt_iff_lt_mul (by decide)]; rw [Nat.pow_succ] at hm; exact hm) (by rw [hs]; congr 1; omega) (by omega) (by omega) (by omega)
      refine ⟨F', ?_⟩
      rw [loopW.cont hmu hB, Nat.add_sub_cancel, ih, hc, hr]
      congr 4
      rw [List.length_cons]; omega
theorem rnum_loop {b : Str} (o : okS b) (s : Int × Bool) {post : Str} {N : Nat} (hN : N ≤ 1000000000) : ∀ (f m F i a n : Nat), n + m * F = N → F ≤ 1000000000 → b.drop a = nb f m ++ post → m < 128 ^ (f + 1) → i + f ≤ 4 → ∃ F' : Int, loopM (B_s_l1R_num_0 b s) (5 - i) i ((n : Int), (F : Int), (a : Int), false) = .done ((N : Int), F', ((a + (nb f m).length : Nat) : Int), false)
  | f, m, F, i, a, n, hn, hF, hb, hm, hi => by
    have ho : b.length ≤ 1073741824 := o
    obtain ⟨c, r, hc⟩ := nb_cons f m
    have hb2 : b.drop a = c :: (r ++ post) := by rw [hb, hc]; rfl
    have ht := one_one o hb2
    have hd := drop_tail hb2
    have hc8 := c.toNat_lt
    have hw : Int.tmod (c.toNat : Int) 128 = ((c.toNat % 128 : Nat) : Int) := by
      rw [Int.tmod_eq_emod_of_nonneg (by omega)]; omega
    by_cases h128 : m < 128
    · obtain ⟨hcn, hr⟩ := nb_last h128 hc
      have hmul : ((c.toNat % 128 : Nat) : Int) * (F : Int) = ((m * F : Nat) : Int) := by
        rw [hcn, Nat.mod_eq_of_lt h128]; exact (Int.natCast_mul ..).symm
      have e3 : ((c.toNat : Nat) : Int) < 128 := by omega
      have hB : B_s_l1R_num_0 b s i ((n : Int), (F : Int), (a : Int), false) = .brk ((n : Int) + ((m * F : Nat) : Int), (F : Int) * 128, ((a + 1 : Nat) : Int), false) := by
        unfold B_s_l1R_num_0
        dsimp only
        rw [ht]
        dsimp only
        rw [hw, hmul, wrap_in (n := ((m * F : Nat) : Int)) (by omega), wrap_in (n := (n : Int) + _) (by omega), wrap_in (n := (F : Int) * 128) (by omega), decide_eq_true e3]
        rfl
      refine ⟨(F : Int) * 128, ?_⟩
      rw [loopM.brk (by omega) hB, hc, hr]
      congr 2
      omega
    · have hg' : ∃ g, f = g + 1 := by
        cases f with
        | zero => simp at hm; omega
        | succ g => exact ⟨g, rfl⟩
      obtain ⟨g, rfl⟩ := hg'
      obtain ⟨hcn, hr⟩ := nb_more h128 hc
      obtain ⟨n1, n2, n3⟩ := digit_next hn h128 hN
      have hmul : ((c.toNat % 128 : Nat) : Int) * (F : Int) = (((m % 128) * F : Nat) : Int) := by
        rw [hcn, show (m % 128 + 128) % 128 = m % 128 by omega]; exact (Int.natCast_mul ..).symm
      have e3 : ¬ ((c.toNat : Nat) : Int) < 128 := by omega
      have hB : B_s_l1R_num_0 b s i ((n : Int), (F : Int), (a : Int), false) = .cont (((n + (m % 128) * F : Nat) : Int), ((F * 128 : Nat) : Int), ((a + 1 : Nat) : Int), false) := by
        unfold B_s_l1R_num_0
        dsimp only
        rw [ht]
        dsimp only
        rw [hw, hmul, wrap_in (n := (((m % 128) * F : Nat) : Int)) (by omega), wrap_in (n := (n : Int) + _) (by omega), wrap_in (n := (F : Int) * 128) (by omega), decide_eq_false e3]
        dsimp only [cond_false]
        congr 2
      obtain ⟨F', ih⟩ := rnum_loop o s (post := post) hN g (m / 128) (F * 128) (i + 1) (a + 1) (n + (m % 128) * F) n2 n1 (by rw [hd.2.1, hr]) (by rw [Nat.div_lt_iff_lt_mul (by decide)]; rw [Nat.pow_succ] at hm; exact hm) (by omega)
      refine ⟨F', ?_⟩
      rw [loopM.cont (by omega) hB, ih, hc, hr]
      congr 4
      rw [List.length_cons]; omega
theorem take_part {b x post : Str} {a : Nat} (h : b.drop a = x ++ post) : (b.take (a + x.length)).drop a = x := by
  rw [List.drop_take, h, Nat.add_sub_cancel_left, List.take_left']
  rfl
theorem num_back {b : Str} (o : okS b) {post : Str} {N a : Nat} (hN : N ≤ 1000000000) (h : b.drop a = i_numBytes (N : Int) ++ post) : i_source_num b ((a : Int), false) = ((N : Int), (((a + (i_numBytes (N : Int)).length : Nat) : Int), false)) := by
  rw [numBytes_nb hN] at h ⊢
  obtain ⟨F', hl⟩ := num_loop o ((a : Int), false) hN 4 N 1 0 a 0 7 (by omega) (by omega) h (by omega) rfl (Nat.zero_le _) (by omega) (by omega)
  unfold i_source_num
  rw [show ((6 - (((a : Int), false).1 - ((a : Int), false).1)).toNat + 1) = 7 by dsimp only; omega]
  dsimp only
  rw [show ((0 : Int), (1 : Int), (a : Int), false) = (((0 : Nat) : Int), ((1 : Nat) : Int), (a : Int), false) from rfl, hl, loopE_done]
  dsimp only
  rw [Int.toNat_natCast, Int.toNat_natCast, take_part h, numBytes_nb hN, beq_self_eq_true]
  rfl
theorem rnum_back {b : Str} (o : okS b) {post : Str} {N a : Nat} (hN : N ≤ 1000000000) (h : b.drop a = i_numBytes (N : Int) ++ post) : s_l1R_num b ((a : Int), false) = ((N : Int), (((a + (i_numBytes (N : Int)).length : Nat) : Int), false)) := by
  rw [numBytes_nb hN] at h ⊢
  obtain ⟨F', hl⟩ := rnum_loop o ((a : Int), false) hN 4 N 1 0 a 0 (by omega) (by omega) h (by omega) (by omega)
  unfold s_l1R_num
  dsimp only
  rw [show ((0 : Int), (1 : Int), (a : Int), false) = (((0 : Nat) : Int), ((1 : Nat) : Int), (a : Int), false) from rfl, hl, loopE_done]
  dsimp only
  have e1 : ¬ (1000000000 : Int) < (N : Int) := by omega
  rw [Int.toNat_natCast, Int.toNat_natCast, take_part h, ← numBytes_eq, numBytes_nb hN, beq_self_eq_true, decide_eq_false e1]
  rfl
theorem drop_more {b x post : Str} {a : Nat} (h : b.drop a = x ++ post) : b.drop (a + x.length) = post := by
  rw [← List.drop_drop, h, List.drop_left']
  rfl
theorem text_back {b : Str} (o : okS b) {post t : Str} {a : Nat} (ht : t.length ≤ 60) (hl : a + (i_textBytes t).length ≤ b.length) (h : b.drop a = i_textBytes t ++ post) : i_source_text b ((a : Int), false) = (t, (((a + (i_textBytes t).length : Nat) : Int), false)) := by
  have ho : b.length ≤ 1073741824 := o
  unfold i_textBytes at h hl ⊢
  rw [List.append_assoc] at h
  rw [List.length_append] at hl
  have hn := num_back o (by omega) h
  have hd := drop_more h
  unfold i_source_text
  rw [hn]
  dsimp only
  rw [decide_eq_false (by omega), cond_false]
  rcases take_cases o (((a + (i_numBytes (t.length : Int)).length : Nat) : Int), false) (t.length : Int) ⟨by dsimp only; omega, by dsimp only; omega, by omega, by omega⟩ with ⟨_, h2⟩ | ⟨e, _, _⟩
  · rcases h2 with h2 | h2
    · cases h2
    · dsimp only at h2; omega
  · rw [e]; dsimp only
    rw [Int.toNat_natCast, Int.toNat_natCast, hd, List.take_left' rfl, List.length_append]
    congr 2; omega
theorem rtext_back {b : Str} (o : okS b) {post t : Str} {a : Nat} (ht : t.length ≤ 60) (hl : a + (i_textBytes t).length ≤ b.length) (h : b.drop a = i_textBytes t ++ post) : s_l1R_text b ((a : Int), false) = (t, (((a + (i_textBytes t).length : Nat) : Int), false)) := by
  have ho : b.length ≤ 1073741824 := o
  unfold i_textBytes at h hl ⊢
  rw [List.append_assoc] at h
  rw [List.length_append] at hl
  have hn := rnum_back o (by omega) h
  have hd := drop_more h
  unfold s_l1R_text
  rw [hn]
  dsimp only [cond_false]
  rw [decide_eq_false (by omega), cond_false, wrap_in (by omega), decide_eq_false (by omega), cond_false, wrap_in (by omega), List.drop_take]
  rw [show (((a + (i_numBytes (t.length : Int)).length : Nat) : Int) + (t.length : Int) - (t.length : Int)).toNat = a + (i_numBytes (t.length : Int)).length by omega, hd, show (((a + (i_numBytes (t.length : Int)).length : Nat) : Int) + (t.length : Int)).toNat - (a + (i_numBytes (t.length : Int)).length) = t.length by omega, List.take_left' rfl, List.length_append]
  congr 2; omega

theorem okS_OpenSeal {b : Str} (o : okS b) : okS (i_OpenSeal b).1 := by
  unfold okS at *
  unfold i_OpenSeal
  cases i_within (b.length : Int) 3 6000
  · exact Nat.zero_le _
  · dsimp only [cond_true]
    cases (i_seal (b.take ((IntKind.wrap .i64 ((b.length : Int) - 3)).toNat))) == b
    · exact Nat.zero_le _
    · dsimp only [cond_true]; rw [List.length_take]; omega
theorem seal_take (x : Str) : (i_seal x).take x.length = x := by
  unfold i_seal
  exact List.take_left' rfl
theorem OpenSeal_seal {x : Str} (h : x.length ≤ 5997) : i_OpenSeal (i_seal x) = (x, true) := by
  unfold i_OpenSeal
  have hl := rf_seal x
  have hw : i_within ((i_seal x).length : Int) 3 6000 = true := by
    unfold i_within
    rw [hl, decide_eq_true (by omega), cond_true, decide_eq_true (by omega)]
  rw [hw, cond_true, wrap_in (by omega), show (((i_seal x).length : Int) - 3).toNat = x.length by omega, seal_take, beq_self_eq_true, cond_true]
theorem sOpenSeal_seal {x : Str} (h : x.length ≤ 5997) : s_OpenSeal (i_seal x) = (x, true) := by
  unfold s_OpenSeal
  have hl := rf_seal x
  rw [wrap_in (by omega), decide_eq_false (by omega), cond_false, decide_eq_false (by omega), cond_false, show (((i_seal x).length : Int) - 3).toNat = x.length by omega, seal_take, ← seal_eq, beq_self_eq_true, cond_true]
theorem flat_len {α : Type} {f : α → Str} {m : Nat} : ∀ {xs : List α}, (∀ x ∈ xs, (f x).length ≤ m) → (xs.map f).flatten.length ≤ m * xs.length
  | [], _ => by simp
  | x :: xs, h => by
    have h1 := h x (by simp)
    have h2 := flat_len (xs := xs) (fun y hy => h y (by simp [hy]))
    rw [List.map_cons, List.flatten_cons, List.length_append, List.length_cons, Nat.mul_add]; omega
def rowB (w : DWrite) : Str := i_textBytes w.Key ++ i_textBytes w.Val
def copyIn (c : DCopy) : Str := (i_numBytes c.Time ++ i_numBytes (c.Rows.length : Int)) ++ (c.Rows.map rowB).flatten
theorem copyBytes_seal (c : DCopy) : i_copyBytes c = i_seal (copyIn c) := by
  unfold i_copyBytes copyIn
  rw [catE (body := B_i_copyBytes_0 c) (xs := c.Rows) d_Write rowB fun k x _ => rfl]
theorem copy_rows {c : DCopy} (h : i_GoodCopy c = true) : (c.Rows.length ≤ 24 ∧ 0 ≤ c.Time ∧ c.Time ≤ 100000) ∧ ∀ w ∈ c.Rows, w.Key.length ≤ 12 ∧ w.Val.length ≤ 24 ∧ w.Gone = false := by
  have h1 := f_i_GoodCopy h
  refine ⟨h1.1, fun w hw => ?_⟩
  obtain ⟨k, hk, rfl⟩ := List.getElem_of_mem hw
  have h2 := h1.2 k hk
  rw [getD_eq hk] at h2
  refine ⟨h2.1, h2.2, ?_⟩
  unfold i_GoodCopy i_isTrue at h
  obtain ⟨h3, _⟩ := of_cond_f (of_cond_f h).2
  rw [isRows_eq, Bool.and_eq_true] at h3
  have := List.all_eq_true.1 h3.2 _ hw
  simpa using this
theorem rowB_len {w : DWrite} (h : w.Key.length ≤ 12 ∧ w.Val.length ≤ 24 ∧ w.Gone = false) : (rowB w).length ≤ 46 := by
  have h1 := rf_textBytes w.Key (by omega)
  have h2 := rf_textBytes w.Val (by omega)
  unfold rowB; rw [List.length_append]; omega
theorem copyIn_len {c : DCopy} (h : i_GoodCopy c = true) : (copyIn c).length ≤ 5997 := by
  obtain ⟨h1, h2⟩ := copy_rows h
  have h3 := flat_len (f := rowB) (m := 46) (xs := c.Rows) fun w hw => rowB_len (h2 w hw)
  have h4 := rf_numBytes c.Time (by omega)
  have h5 := rf_numBytes (c.Rows.length : Int) (by omega)
  unfold copyIn; rw [List.length_append, List.length_append]; omega
theorem rowB_split {x : Str} {w : DWrite} {ws : List DWrite} {a : Nat} (h : x.drop a = ((w :: ws).map rowB).flatten) (hl : a + ((w :: ws).map rowB).flatten.length ≤ x.length) :
    x.drop a = i_textBytes w.Key ++ (i_textBytes w.Val ++ (ws.map rowB).flatten) ∧ x.drop (a + (i_textBytes w.Key).length) = i_textBytes w.Val ++ (ws.map rowB).flatten ∧ x.drop (a + (i_textBytes w.Key).length + (i_textBytes w.Val).length) = (ws.map rowB).flatten ∧
    a + (i_textBytes w.Key).length + (i_textBytes w.Val).length + (ws.map rowB).flatten.length ≤ x.length ∧ ((w :: ws).map rowB).flatten.length = (i_textBytes w.Key).length + (i_textBytes w.Val).length + (ws.map rowB).flatten.length := by
  have e : ((w :: ws).map rowB).flatten = i_textBytes w.Key ++ (i_textBytes w.Val ++ (ws.map rowB).flatten) := by
    rw [List.map_cons, List.flatten_cons]; unfold rowB; rw [List.append_assoc]
  rw [e] at h hl
  have h1 := drop_more h
  have h2 := drop_more h1
  rw [List.length_append, List.length_append] at hl
  exact ⟨h, h1, h2, by omega, by rw [e, List.length_append, List.length_append]; omega⟩
theorem rows_loop {b x : Str} (o : okS x) (hx : (i_OpenSeal b).1 = x) : ∀ (ws : List DWrite) (a mu : Nat) (acc : List DWrite), (∀ w ∈ ws, w.Key.length ≤ 12 ∧ w.Val.length ≤ 24 ∧ w.Gone = false) → x.drop a = (ws.map rowB).flatten → a + (ws.map rowB).flatten.length ≤ x.length → ws.length < mu → ws.length ≤ 1000 →
    loopW (B_i_ReadCopy_0 b) mu ((ws.length : Int), (a : Int), false, acc) = .done (0, ((a + (ws.map rowB).flatten.length : Nat) : Int), false, acc ++ ws)
  | ws, a, 0, acc, _, _, _, h, _ => absurd h (Nat.not_lt_zero _)
  | [], a, mu + 1, acc, _, _, _, hm, _ => by
    have hB : B_i_ReadCopy_0 b (((0 : Nat) : Int), (a : Int), false, acc) = .brk (0, (a : Int), false, acc) := by
      unfold B_i_ReadCopy_0; dsimp only; rw [decide_eq_false (by omega)]; rfl
    have := loopW.brk (n := 0) hm hB
    rw [List.length_nil, this]
    simp
  | w :: ws, a, mu + 1, acc, hw, hd, hl, hm, hn => by
    obtain ⟨d1, d2, d3, l1, l2⟩ := rowB_split hd hl
    have hk := hw w (by simp)
    have t1 := text_back o (t := w.Key) (by omega) (by omega) d1
    have t2 := text_back o (t := w.Val) (by omega) (by omega) d2
    have hB : B_i_ReadCopy_0 b (((w :: ws).length : Int), (a : Int), false, acc) = .cont ((ws.length : Int), ((a + (i_textBytes w.Key).length + (i_textBytes w.Val).length : Nat) : Int), false, acc ++ [w]) := by
      unfold B_i_ReadCopy_0
      dsimp only
      rw [decide_eq_true (by rw [List.length_cons]; omega), cond_true, hx, t1]
      dsimp only
      rw [t2, wrap_in (by omega), List.length_cons]
      dsimp only [cond_false]
      rw [show ((ws.length + 1 : Nat) : Int) - 1 = (ws.length : Int) by omega]
      have : (⟨w.Key, w.Val, false⟩ : DWrite) = w := by rw [← hk.2.2]
      rw [this]
    rw [loopW.cont hm hB, Nat.add_sub_cancel, rows_loop o hx ws _ mu _ (fun y hy => hw y (by simp [hy])) d3 l1 (by rw [List.length_cons] at hm; omega) (by rw [List.length_cons] at hn; omega), l2]
    congr 3
    · congr 1; omega
    · rw [List.append_assoc]; rfl
theorem srows_loop {b x : Str} (o : okS x) (hx : (s_OpenSeal b).1 = x) {n : Nat} (hn : (s_l1R_num x ((s_l1R_num x (0, false)).2)).1 = (n : Int)) (hn2 : n ≤ 24) : ∀ (ws : List DWrite) (i a mu : Nat) (acc : List DWrite), (∀ w ∈ ws, w.Key.length ≤ 12 ∧ w.Val.length ≤ 24 ∧ w.Gone = false) → x.drop a = (ws.map rowB).flatten → a + (ws.map rowB).flatten.length ≤ x.length → ws.length < mu → i + ws.length = n →
    loopW (B_s_ReadCopy_0 b) mu ((i : Int), (a : Int), false, acc) = .done ((n : Int), ((a + (ws.map rowB).flatten.length : Nat) : Int), false, acc ++ ws)
  | ws, i, a, 0, acc, _, _, _, h, _ => absurd h (Nat.not_lt_zero _)
  | [], i, a, mu + 1, acc, _, _, _, hm, hi => by
    have hi : i = n := hi
    subst hi
    have hB : B_s_ReadCopy_0 b ((i : Int), (a : Int), false, acc) = .brk ((i : Int), (a : Int), false, acc) := by
      unfold B_s_ReadCopy_0; dsimp only; rw [hx, hn, decide_eq_false (by omega)]; rfl
    rw [loopW.brk (n := 0) hm hB]
    simp
  | w :: ws, i, a, mu + 1, acc, hw, hd, hl, hm, hi => by
    obtain ⟨d1, d2, d3, l1, l2⟩ := rowB_split hd hl
    rw [List.length_cons] at hi
    have hk := hw w (by simp)
    have t1 := rtext_back o (t := w.Key) (by omega) (by omega) d1
    have t2 := rtext_back o (t := w.Val) (by omega) (by omega) d2
    have hB : B_s_ReadCopy_0 b ((i : Int), (a : Int), false, acc) = .cont (((i + 1 : Nat) : Int), ((a + (i_textBytes w.Key).length + (i_textBytes w.Val).length : Nat) : Int), false, acc ++ [w]) := by
      unfold B_s_ReadCopy_0
      dsimp only
      rw [hx, hn, decide_eq_true (by omega), cond_true, decide_eq_true (by omega), cond_true, t1]
      dsimp only
      rw [t2, wrap_in (by omega)]
      dsimp only [cond_false]
      have : (⟨w.Key, w.Val, false⟩ : DWrite) = w := by rw [← hk.2.2]
      rw [this]
      rfl
    rw [loopW.cont hm hB, Nat.add_sub_cancel, srows_loop o hx hn hn2 ws (i + 1) _ mu _ (fun y hy => hw y (by simp [hy])) d3 l1 (by rw [List.length_cons] at hm; omega) (by omega), l2]
    congr 3
    · congr 1; omega
    · rw [List.append_assoc]; rfl
theorem copy_nums {c : DCopy} (h : i_GoodCopy c = true) : ∃ T : Nat, c.Time = (T : Int) ∧ T ≤ 1000000000 := ⟨c.Time.toNat, by have := (copy_rows h).1; omega, by have := (copy_rows h).1; omega⟩
theorem copy_back {c : DCopy} (h : i_GoodCopy c = true) : i_ReadCopy (i_copyBytes c) = (c, true) := by
  obtain ⟨h1, h2⟩ := copy_rows h
  obtain ⟨T, hT, hT2⟩ := copy_nums h
  have hl := copyIn_len h
  have hO : i_OpenSeal (i_copyBytes c) = (copyIn c, true) := by rw [copyBytes_seal]; exact OpenSeal_seal hl
  have o : okS (copyIn c) := by unfold okS; omega
  have d0 : (copyIn c).drop 0 = i_numBytes (T : Int) ++ (i_numBytes (c.Rows.length : Int) ++ (c.Rows.map rowB).flatten) := by
    rw [List.drop_zero, ← hT]; unfold copyIn; rw [List.append_assoc]
  have n1 := num_back o hT2 d0
  rw [Nat.zero_add] at n1
  have d1 := drop_more d0
  rw [Nat.zero_add] at d1
  have n2 := num_back o (by omega) d1
  have d2 := drop_more d1
  have hlen : (i_numBytes (T : Int)).length + (i_numBytes (c.Rows.length : Int)).length + (c.Rows.map rowB).flatten.length ≤ (copyIn c).length := by
    unfold copyIn; rw [hT, List.length_append, List.length_append]; omega
  have hr := rows_loop (b := i_copyBytes c) o (by rw [hO]) c.Rows _ (c.Rows.length + 1) [] h2 d2 hlen (by omega) (by omega)
  have z : ((0 : Int), false) = (((0 : Nat) : Int), false) := rfl
  unfold i_ReadCopy
  rw [hO]
  dsimp only [cond_true]
  rw [z, n1]
  dsimp only
  rw [n2]
  dsimp only
  rw [Int.toNat_natCast, hr, loopE_done, List.nil_append, ← hT]
  dsimp only [cond_false]
  rw [show (⟨c.Time, c.Rows⟩ : DCopy) = c from rfl, h, cond_true, beq_self_eq_true, cond_true]
theorem scopy_back {c : DCopy} (h : i_GoodCopy c = true) : s_ReadCopy (i_copyBytes c) = (c, true) := by
  obtain ⟨h1, h2⟩ := copy_rows h
  obtain ⟨T, hT, hT2⟩ := copy_nums h
  have hl := copyIn_len h
  have hO : s_OpenSeal (i_copyBytes c) = (copyIn c, true) := by rw [copyBytes_seal]; exact sOpenSeal_seal hl
  have o : okS (copyIn c) := by unfold okS; omega
  have d0 : (copyIn c).drop 0 = i_numBytes (T : Int) ++ (i_numBytes (c.Rows.length : Int) ++ (c.Rows.map rowB).flatten) := by
    rw [List.drop_zero, ← hT]; unfold copyIn; rw [List.append_assoc]
  have z : ((0 : Int), false) = (((0 : Nat) : Int), false) := rfl
  have n1 := rnum_back o hT2 d0
  rw [Nat.zero_add] at n1
  have d1 := drop_more d0
  rw [Nat.zero_add] at d1
  have n2 := rnum_back o (by omega) d1
  have d2 := drop_more d1
  have hlen : (i_numBytes (T : Int)).length + (i_numBytes (c.Rows.length : Int)).length + (c.Rows.map rowB).flatten.length ≤ (copyIn c).length := by
    unfold copyIn; rw [hT, List.length_append, List.length_append]; omega
  have hr := srows_loop (b := i_copyBytes c) o (by rw [hO]) (n := c.Rows.length) (by rw [z, n1]; dsimp only; rw [n2]) (by omega) c.Rows 0 _ 25 [] h2 d2 hlen (by omega) (by omega)
  unfold s_ReadCopy
  rw [hO]
  dsimp only [cond_true]
  rw [z, n1]
  dsimp only
  rw [n2]
  dsimp only
  rw [show ((24 - (0 : Int)).toNat + 1) = 25 from rfl, show (0 : Int) = ((0 : Nat) : Int) from rfl, hr, loopE_done, List.nil_append, ← hT]
  dsimp only [cond_false]
  rw [show (⟨c.Time, c.Rows⟩ : DCopy) = c from rfl, ← CopyBytes_eq]
  unfold i_CopyBytes
  rw [h]
  dsimp only [cond_true]
  rw [beq_self_eq_true, cond_true]
def CopyV (b : Str) (v : DCopy × Bool) : Prop := v = (⟨0, []⟩, false) ∨ (v.2 = true ∧ i_GoodCopy v.1 = true ∧ i_copyBytes v.1 = b)
theorem ReadCopy_sound {b : Str} (o : okS b) : CopyV b (i_ReadCopy b) := by
  have o1 := okS_OpenSeal o
  have r1 := rf_num o1 (0, false) ⟨by decide, by dsimp only; omega⟩
  have r2 := rf_num o1 (i_source_num (i_OpenSeal b).1 (0, false)).2 ⟨by omega, by omega⟩
  unfold i_ReadCopy
  cases (i_OpenSeal b).2
  · exact .inl rfl
  · dsimp only [cond_true]
    refine loopW_val (fun (p : Int × Int × Bool × List DWrite) => 0 ≤ p.1 ∧ p.1 ≤ 1000000000) (fun p => p.1.toNat) (CopyV b) ?_ _ _ ⟨r2.2.2.1, r2.2.2.2⟩ (Nat.lt_succ_self _)
    have hend : ∀ (x : List DWrite) (g : Bool), CopyV b (bif g then ((⟨0, []⟩ : DCopy), false) else bif i_GoodCopy (⟨(i_source_num ((i_OpenSeal b).1) (0, false)).1, x⟩ : DCopy) then bif (i_copyBytes (⟨(i_source_num ((i_OpenSeal b).1) (0, false)).1, x⟩ : DCopy)) == b then ((⟨(i_source_num ((i_OpenSeal b).1) (0, false)).1, x⟩ : DCopy), true) else ((⟨0, []⟩ : DCopy), false) else ((⟨0, []⟩ : DCopy), false)) := by
      intro x g
      cases g
      · dsimp only [cond_false]
        cases hg : i_GoodCopy (⟨(i_source_num ((i_OpenSeal b).1) (0, false)).1, x⟩ : DCopy)
        · exact .inl rfl
        · cases hb : (i_copyBytes (⟨(i_source_num ((i_OpenSeal b).1) (0, false)).1, x⟩ : DCopy)) == b
          · exact .inl rfl
          · exact .inr ⟨rfl, hg, eq_of_beq hb⟩
      · exact .inl rfl
    rintro ⟨n, a, g, x⟩ ⟨h1, h2⟩
    unfold B_i_ReadCopy_0
    dsimp only at h1 h2 ⊢
    by_cases hn : 0 < n
    · rw [decide_eq_true hn]
      cases g
      · dsimp only [cond_true, cond_false, Out.sat]
        rw [wrap_in (by omega)]; omega
      · exact hend x true
    · rw [decide_eq_false hn]
      exact hend x g
theorem sReadCopy_sound {b : Str} : CopyV b (s_ReadCopy b) := by
  unfold s_ReadCopy
  refine loopW_val (fun (p : Int × Int × Bool × List DWrite) => 0 ≤ p.1 ∧ p.1 ≤ 24) (fun p => (24 - p.1).toNat) (CopyV b) ?_ _ _ ⟨by dsimp only; omega, by dsimp only; omega⟩ (Nat.lt_succ_self _)
  have hend : ∀ (x : List DWrite) (g : Bool), CopyV b (bif (s_OpenSeal b).2 then bif g then ((⟨0, []⟩ : DCopy), false) else bif (s_CopyBytes (⟨(s_l1R_num ((s_OpenSeal b).1) (0, false)).1, x⟩ : DCopy)).2 then bif ((s_CopyBytes (⟨(s_l1R_num ((s_OpenSeal b).1) (0, false)).1, x⟩ : DCopy)).1) == b then ((⟨(s_l1R_num ((s_OpenSeal b).1) (0, false)).1, x⟩ : DCopy), true) else ((⟨0, []⟩ : DCopy), false) else ((⟨0, []⟩ : DCopy), false) else ((⟨0, []⟩ : DCopy), false)) := by
    intro x g
    cases (s_OpenSeal b).2
    · exact .inl rfl
    · cases g
      · dsimp only [cond_false, cond_true]
        rw [← CopyBytes_eq]
        unfold i_CopyBytes
        cases hg : i_GoodCopy (⟨(s_l1R_num ((s_OpenSeal b).1) (0, false)).1, x⟩ : DCopy)
        · exact .inl rfl
        · dsimp only [cond_true]
          cases hb : (i_copyBytes (⟨(s_l1R_num ((s_OpenSeal b).1) (0, false)).1, x⟩ : DCopy)) == b
          · exact .inl rfl
          · exact .inr ⟨rfl, hg, eq_of_beq hb⟩
      · exact .inl rfl
  rintro ⟨n, a, g, x⟩ ⟨h1, h2⟩
  unfold B_s_ReadCopy_0
  dsimp only at h1 h2 ⊢
  cases decide (n < ((s_l1R_num ((s_OpenSeal b).1) ((s_l1R_num ((s_OpenSeal b).1) (0, false)).2)).1))
  · exact hend x g
  · dsimp only [cond_true]
    by_cases hn : n < 24
    · rw [decide_eq_true hn]
      cases g
      · dsimp only [cond_true, cond_false, Out.sat]
        rw [wrap_in (by omega)]; omega
      · exact hend x true
    · rw [decide_eq_false hn]
      exact hend x g
theorem ReadCopy_eq {b : Str} (o : okS b) : i_ReadCopy b = s_ReadCopy b := by
  rcases ReadCopy_sound o with h | ⟨h1, h2, h3⟩
  · rcases sReadCopy_sound (b := b) with g | ⟨g1, g2, g3⟩
    · rw [h, g]
    · have := copy_back g2
      rw [g3, h] at this
      injection this with _ e; cases e
  · have := scopy_back h2
    rw [h3] at this
    rw [this]
    exact Prod.ext rfl h1
theorem copyV_len {b : Str} {v : DCopy × Bool} (h : CopyV b v) : v.1.Rows.length ≤ 24 := by
  rcases h with rfl | ⟨_, h, _⟩
  · exact Nat.zero_le _
  · exact (copy_rows h).1.1
theorem true_ReadCopy (b : Str) (_ : wfS b) : l_FnExactReadCopy b = true := by
  unfold l_FnExactReadCopy
  cases h1 : decide (1048576 < (b.length : Int))
  case true => rfl
  have h1 := of_decide_eq_false h1
  have o : okS b := by unfold okS; omega
  have hl := copyV_len (ReadCopy_sound o)
  obtain ⟨h4, h5⟩ := mh_Copy (i_ReadCopy b).1 1 (by decide) (by omega)
  simp only [cond_false, eta_markCopy, ← ReadCopy_eq o, eq_Copy, beq_self_eq_true, cond_true, h4]
  rw [h5, decide_eq_false (by omega), cond_false, decide_true]; rfl

end Go.Proofs.Ytbamdefifgkbgaa
