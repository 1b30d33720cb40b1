/- Copy Bytes: plain laws of the models. -/
import Derived.Test.YtmlfbjlkccnpmaaCopyBytesT
set_option linter.unusedVariables false
set_option linter.unusedSimpArgs false
namespace Go.Proofs.Ytmlfbjlkccnpmaa
open Go.RowKit Go.X
theorem szok_Write {x : DWrite} {L : Int} (hw : wf_Write x) (hL : 0 ≤ L ∧ L ≤ 1048576) (h : ¬ l_szWrite x L < 0) : ok_Write x ∧ 0 ≤ l_szWrite x L ∧ l_szWrite x L ≤ 1048576 := by
  unfold l_szWrite at h ⊢
  obtain ⟨a0, e0, h⟩ := szc h
  rw [e0]
  have s0 := szS_ok hw.1 hL a0
  obtain ⟨a1, e1, h⟩ := szc h
  rw [e1]
  have s1 := szS_ok hw.2 s0.2 a1
  exact ⟨⟨s0.1, s1.1⟩, s1.2⟩
theorem to_Write (x : DWrite) : l_toWrite x = x := rfl
theorem eq_Write (x : DWrite) : l_eqWrite x x = true := by unfold l_eqWrite; simp only [beq_self_eq_true, cond_true, decide_true]
theorem szok_WriteS {x : List DWrite} {L : Int} (hw : (wfL wf_Write) x) (hL : 0 ≤ L ∧ L ≤ 1048576) (h : ¬ l_szWriteS x L < 0) : (okL ok_Write) x ∧ 0 ≤ l_szWriteS x L ∧ l_szWriteS x L ≤ 1048576 := szLL_ok d_Write (f := l_szWrite) szok_Write hw hL h
theorem to_WriteS (x : List DWrite) : l_toWriteS x = x := toL_id d_Write (f := fun s => s) (fun _ => rfl) x
theorem eq_WriteS (x : List DWrite) : l_eqWriteS x x = true := eqL_refl d_Write (f := l_eqWrite) eq_Write x
theorem szok_Copy {x : DCopy} {L : Int} (hw : wf_Copy x) (hL : 0 ≤ L ∧ L ≤ 1048576) (h : ¬ l_szCopy x L < 0) : ok_Copy x ∧ 0 ≤ l_szCopy x L ∧ l_szCopy x L ≤ 1048576 := by
  unfold l_szCopy at h ⊢
  obtain ⟨a0, e0, h⟩ := szc h
  rw [e0]
  have s0 := szok_WriteS hw.2 hL a0
  exact ⟨s0.1, s0.2⟩
theorem to_Copy (x : DCopy) : l_toCopy x = x := rfl
theorem eq_Copy (x : DCopy) : l_eqCopy x x = true := by unfold l_eqCopy; simp only [eq_WriteS, beq_self_eq_true, cond_true, decide_true]
theorem ContainsFunc_Write (xs : List DWrite) (f : DWrite → Bool) : g_slices_ContainsFunc_Write xs f = xs.any f := idxF_any f d_Write xs
theorem within_eq : i_within = s_l1In := rfl
theorem f_l1In {n lo hi : Int} (h : s_l1In n lo hi = true) : lo ≤ n ∧ n ≤ hi := by
  unfold s_l1In at h
  obtain ⟨h1, h2⟩ := of_cond_f h
  exact ⟨of_decide_eq_true h1, of_decide_eq_true h2⟩
theorem f_within {n lo hi : Int} (h : i_within n lo hi = true) : lo ≤ n ∧ n ≤ hi := f_l1In h
theorem indexByte_neg (l : List UInt8) (c : UInt8) : decide (Lib.indexByte l c < 0) = !(l.contains c) := by
  induction l with
  | nil => rfl
  | cons b l ih =>
    have hge := Lib.indexByte_ge l c
    rw [Bool.eq_iff_iff] at ih ⊢
    simp only [decide_eq_true_eq, Bool.not_eq_true', List.contains_cons] at ih ⊢
    unfold Lib.indexByte
    by_cases hb : b = c
    · subst hb; simp
    · have hb1 : (b == c) = false := by simpa using hb
      have hb2 : (c == b) = false := by simpa using fun h => hb h.symm
      rw [hb1, hb2]
      simp only [Bool.false_or, Bool.false_eq_true, if_false]
      split
      · rename_i h
        have : Lib.indexByte l c = -1 := by simpa using h
        rw [← ih]; omega
      · rename_i h
        have : Lib.indexByte l c ≠ -1 := by simpa using h
        constructor
        · intro h; omega
        · intro h; have := ih.2 h; omega
theorem byte_back (b : UInt8) : ((b.toNat : Int)).toNat.toUInt8 = b := by simp
theorem idxB_neg (s : Str) (b : UInt8) : decide (idxB s (b.toNat : Int) < 0) = !(s.contains b) := by
  unfold idxB
  rw [byte_back, indexByte_neg]
def byteOk (more : Str) (b : UInt8) : Bool := i_isLowerOrDigit (b.toNat : Int) || more.contains b
theorem hasBytes_eq (s more : Str) : i_hasBytes s more = s.all (byteOk more) := by
  unfold i_hasBytes
  rw [allE (0 : UInt8) (byteOk more) (r := false) fun k => by
    unfold B_i_hasBytes_0 byteOk g_strings_IndexByte g_internal_stringslite_IndexByte
    rw [idxB_neg]
    cases i_isLowerOrDigit ((s.getD k 0).toNat : Int) <;> cases more.contains (s.getD k 0) <;> rfl]
  cases s.all (byteOk more) <;> rfl
theorem toNat_eq (a b : UInt8) : decide ((a.toNat : Int) = (b.toNat : Int)) = (a == b) := by
  rw [Bool.eq_iff_iff, decide_eq_true_iff, beq_iff_eq]
  constructor
  · intro h; exact UInt8.toNat.inj (by omega)
  · intro h; rw [h]
theorem l3B1 {T : Type} (s more : Str) (k : Nat) (x0 : Bool) (fr : Bool → T) (fd : Bool → T) : loopE (loopM (B_s_l3Bytes_1 s more k) (more.length - 0) 0 x0) fr fd = fd (x0 || more.contains (s.getD k 0)) := by
  rw [orE (0 : UInt8) (fun b => (s.getD k 0) == b) fun j x => by
    unfold B_s_l3Bytes_1
    rw [toNat_eq]
    cases x <;> rfl]
  rw [List.contains_eq_any_beq]
theorem l3Bytes_eq (s more : Str) : s_l3Bytes s more = s.all (byteOk more) := by
  unfold s_l3Bytes
  rw [allE (0 : UInt8) (byteOk more) (r := false) fun k => by
    unfold B_s_l3Bytes_0 byteOk i_isLowerOrDigit
    simp only [l3B1]
    cases decide (97 ≤ ((s.getD k 0).toNat : Int)) <;> cases decide (((s.getD k 0).toNat : Int) ≤ 122) <;> cases decide (48 ≤ ((s.getD k 0).toNat : Int)) <;> cases decide (((s.getD k 0).toNat : Int) ≤ 57) <;> cases more.contains (s.getD k 0) <;> rfl]
  cases s.all (byteOk more) <;> rfl
theorem GoodKey_eq (s : Str) : i_GoodKey s = s_l3Key s := by
  unfold i_GoodKey s_l3Key
  rw [hasBytes_eq, l3Bytes_eq, within_eq]
theorem GoodVal_eq (s : Str) : i_GoodVal s = s_l3Val s := by
  unfold i_GoodVal s_l3Val
  rw [hasBytes_eq, l3Bytes_eq]

theorem writeKeys_eq (l : List DWrite) : i_writeKeys l = l.map (·.Key) := by
  unfold i_writeKeys
  rw [mapE (body := B_i_writeKeys_0 l) (xs := l) d_Write (fun w => w.Key) fun k x _ => rfl]
  rfl
def rising (ks : List Str) (k : Nat) : Bool := bif decide (0 < (k : Int)) then sLt (ks.getD ((IntKind.wrap .i64 ((k : Int) - 1)).toNat) d_Str) (ks.getD k d_Str) else true
theorem areRising_eq (ks : List Str) : i_areRising ks = (List.range ks.length).all fun k => s_l3Key (ks.getD k d_Str) && rising ks k := by
  unfold i_areRising
  rw [loopU (fun k => s_l3Key (ks.getD k d_Str) && rising ks k) (r := false) fun k _ => by
    unfold B_i_areRising_0 rising
    rw [GoodKey_eq, sLe_not]
    cases s_l3Key (ks.getD k d_Str) <;> cases decide (0 < (k : Int)) <;> cases sLt (ks.getD ((IntKind.wrap .i64 ((k : Int) - 1)).toNat) d_Str) (ks.getD k d_Str) <;> rfl]
  cases (List.range ks.length).all fun k => s_l3Key (ks.getD k d_Str) && rising ks k <;> rfl
theorem l3Writes_eq (l : List DWrite) : s_l3Writes l = (((List.range l.length).all fun k => s_l3Write ((l.getD k d_Write).Key) ((l.getD k d_Write).Val) ((l.getD k d_Write).Gone) && rising (l.map (·.Key)) k) && decide ((l.length : Int) ≤ 24)) := by
  have hg : ∀ k, (l.map (·.Key)).getD k d_Str = (l.getD k d_Write).Key := by
    intro k
    simp only [List.getD_eq_getElem?_getD, List.getElem?_map]
    cases l[k]? <;> rfl
  unfold s_l3Writes
  rw [loopU (fun k => s_l3Write ((l.getD k d_Write).Key) ((l.getD k d_Write).Val) ((l.getD k d_Write).Gone) && rising (l.map (·.Key)) k) (r := false) fun k _ => by
    unfold B_s_l3Writes_0 rising
    rw [hg, hg]
    cases s_l3Write ((l.getD k d_Write).Key) ((l.getD k d_Write).Val) ((l.getD k d_Write).Gone) <;> cases decide (0 < (k : Int)) <;> cases sLt (l.getD ((IntKind.wrap .i64 ((k : Int) - 1)).toNat) d_Write).Key (l.getD k d_Write).Key <;> rfl]
  cases ((List.range l.length).all fun k => s_l3Write ((l.getD k d_Write).Key) ((l.getD k d_Write).Val) ((l.getD k d_Write).Gone) && rising (l.map (·.Key)) k) <;> rfl
theorem and_all {α : Type} (l : List α) (p q : α → Bool) : (l.all p && l.all q) = l.all fun x => p x && q x := by
  induction l with
  | nil => rfl
  | cons x l ih =>
    simp only [List.all_cons, ← ih]
    cases p x <;> cases q x <;> cases l.all p <;> rfl
theorem isStored_eq (v : Str) (g : Bool) : i_isStored v g = (s_l3Val v && (!g || v == ([] : Str))) := by
  unfold i_isStored
  rw [GoodVal_eq]
  cases s_l3Val v <;> cases g <;> cases (v == ([] : Str)) <;> rfl
theorem l3Write_eq (k v : Str) (g : Bool) : s_l3Write k v g = (s_l3Key k && i_isStored v g) := by
  rw [isStored_eq]
  unfold s_l3Write
  cases s_l3Key k <;> cases s_l3Val v <;> cases g <;> cases (v == ([] : Str)) <;> rfl
theorem GoodWrites_eq (l : List DWrite) : i_GoodWrites l = s_l3Writes l := by
  have hg : ∀ k, (l.map (·.Key)).getD k d_Str = (l.getD k d_Write).Key := by
    intro k
    simp only [List.getD_eq_getElem?_getD, List.getElem?_map]
    cases l[k]? <;> rfl
  unfold i_GoodWrites
  rw [writeKeys_eq, areRising_eq, l3Writes_eq, ContainsFunc_Write, List.length_map]
  have h1 : (!(l.any fun y => i_GoodWrites_c1 y)) = (List.range l.length).all fun k => i_isStored (l.getD k d_Write).Val (l.getD k d_Write).Gone := by
    rw [List.not_any_eq_all_not, ← range_all d_Write]
    unfold i_GoodWrites_c1
    simp only [Bool.not_not]
  rw [h1]
  have h2 : ((List.range l.length).all fun k => s_l3Write ((l.getD k d_Write).Key) ((l.getD k d_Write).Val) ((l.getD k d_Write).Gone) && rising (l.map (·.Key)) k) = (((List.range l.length).all fun k => s_l3Key ((l.map (·.Key)).getD k d_Str) && rising (l.map (·.Key)) k) && (List.range l.length).all fun k => i_isStored (l.getD k d_Write).Val (l.getD k d_Write).Gone) := by
    rw [and_all]
    congr 1; funext k
    rw [l3Write_eq, hg]
    cases s_l3Key (l.getD k d_Write).Key <;> cases i_isStored (l.getD k d_Write).Val (l.getD k d_Write).Gone <;> cases rising (l.map (·.Key)) k <;> rfl
  rw [h2]
  cases decide ((l.length : Int) ≤ 24) <;> cases ((List.range l.length).all fun k => s_l3Key ((l.map (·.Key)).getD k d_Str) && rising (l.map (·.Key)) k) <;> cases ((List.range l.length).all fun k => i_isStored (l.getD k d_Write).Val (l.getD k d_Write).Gone) <;> rfl
theorem isRows_eq (l : List DWrite) : i_isRows l = (s_l3Writes l && l.all fun w => !w.Gone) := by
  unfold i_isRows
  rw [GoodWrites_eq, ContainsFunc_Write, List.not_any_eq_all_not]
  cases s_l3Writes l <;> rfl
theorem GoodCopy_eq (c : DCopy) : i_GoodCopy c = s_GoodCopy c := by
  unfold i_GoodCopy s_GoodCopy s_l31Copy i_isTrue
  rw [allE d_Write (fun w => !w.Gone) (r := false) fun k => by
    unfold B_s_l31Copy_0
    cases (c.Rows.getD k d_Write).Gone <;> rfl]
  rw [isRows_eq, within_eq]
  cases s_l1In c.Time 0 100000 <;> cases s_l3Writes c.Rows <;> cases (c.Rows.all fun w => !w.Gone) <;> rfl
theorem u8_mod (n : Int) : IntKind.wrap .u8 n = n % 256 := by
  simp [IntKind.wrap, IntKind.bits, IntKind.signed]
theorem u8_eq {a b : Int} (h : a % 256 = b % 256) : IntKind.wrap .u8 a = IntKind.wrap .u8 b := by rw [u8_mod, u8_mod, h]
theorem numBody_eq (n m : Int) : B_i_numBytes_0 n = B_s_l1NumB_0 m := by
  funext ⟨a, x⟩
  unfold B_i_numBytes_0 B_s_l1NumB_0
  dsimp only
  have : IntKind.wrap .u8 ((IntKind.wrap .u8 (Int.tmod a 128)) + 128) = IntKind.wrap .u8 (IntKind.wrap .i64 ((Int.tmod a 128) + 128)) := by
    simp only [u8_mod, IntKind.wrap_i64]; omega
  rw [this]
theorem numBytes_eq (n : Int) : i_numBytes n = s_l1NumB n := by
  unfold i_numBytes s_l1NumB
  rw [numBody_eq n n]
theorem textBytes_eq (s : Str) : i_textBytes s = s_l1TextB s := by
  unfold i_textBytes s_l1TextB
  rw [numBytes_eq]
theorem rf_numBytes (n : Int) (h : 0 ≤ n ∧ n ≤ 1073741824) : (i_numBytes n).length ≤ 5 := by
  unfold i_numBytes
  refine loopW_val (fun (p : Int × List Int) => 0 ≤ p.1 ∧ ((p.2.length = 0 ∧ p.1 ≤ 1073741824) ∨ (p.2.length = 1 ∧ p.1 ≤ 8388608) ∨ (p.2.length = 2 ∧ p.1 ≤ 65536) ∨ (p.2.length = 3 ∧ p.1 ≤ 512) ∨ (p.2.length = 4 ∧ p.1 ≤ 4))) (fun (p : Int × List Int) => p.1.toNat) (fun (v : Str) => v.length ≤ 5) ?_ _ _ ⟨h.1, .inl ⟨rfl, h.2⟩⟩ (Nat.lt_succ_self _)
  rintro ⟨a, x⟩ ⟨h1, h2⟩
  unfold B_i_numBytes_0
  dsimp only at h1 h2 ⊢
  by_cases h3 : 128 ≤ a
  · have h4 := wtd (n := a) (c := 128) (by decide) (by omega) (by omega)
    simp only [decide_eq_true h3, cond_true, Out.sat, List.length_append, List.length_cons, List.length_nil]
    omega
  · simp only [decide_eq_false h3, cond_false, Out.sat, toS_length, List.length_append, List.length_cons, List.length_nil]
    omega
theorem rf_l1NumB (n : Int) (h : 0 ≤ n ∧ n ≤ 1073741824) : (s_l1NumB n).length ≤ 5 := numBytes_eq n ▸ rf_numBytes n h
theorem rf_textBytes (s : Str) (h : s.length ≤ 1073741824) : (i_textBytes s).length ≤ s.length + 5 := by
  have := rf_numBytes (s.length : Int) (by omega)
  unfold i_textBytes
  rw [List.length_append]; omega
theorem rf_l1TextB (s : Str) (h : s.length ≤ 1073741824) : (s_l1TextB s).length ≤ s.length + 5 := textBytes_eq s ▸ rf_textBytes s h
theorem rf_seal (b : Str) : (i_seal b).length = b.length + 3 := by unfold i_seal; rw [List.length_append, toS_length]; rfl
theorem rf_l1Seal (b : Str) : (s_l1Seal b).length = b.length + 3 := by unfold s_l1Seal s_l1Three; rw [List.length_append, toS_length]; rfl
theorem sumOf_eq (b : Str) : i_sumOf b = s_l1Sum b := rfl
theorem sum_rng (b : Str) : 0 ≤ i_sumOf b ∧ i_sumOf b < 16000057 := by
  unfold i_sumOf
  refine loopM_val (fun _ (x : Int) => 0 ≤ x ∧ x < 16000057) (fun v => 0 ≤ v ∧ v < 16000057) ⟨by decide, by decide⟩ (fun s h => h) ?_
  intro j x _ _ hx
  unfold B_i_sumOf_0
  have h1 : 0 ≤ ((b.getD j 0).toNat : Int) ∧ ((b.getD j 0).toNat : Int) < 256 := ⟨by omega, by have := (b.getD j 0).toNat_lt; omega⟩
  dsimp only
  rw [wrap_in (n := 31 * x) (by omega), wrap_in (n := ((b.getD j 0).toNat : Int)) (by omega), wrap_in (n := 31 * x + _) (by omega), wrap_in (by omega)]
  exact ⟨Int.tmod_nonneg _ (by omega), Int.tmod_lt_of_pos _ (by decide)⟩
theorem seal_eq (b : Str) : i_seal b = s_l1Seal b := by
  unfold i_seal s_l1Seal s_l1Three
  rw [← sumOf_eq]
  have h := sum_rng b
  generalize i_sumOf b = n at h
  have t1 : Int.tdiv n 65536 = n / 65536 := Int.tdiv_eq_ediv_of_nonneg (by omega)
  have t2 : Int.tdiv n 256 = n / 256 := Int.tdiv_eq_ediv_of_nonneg (by omega)
  have f1 : Int.fdiv n 65536 = n / 65536 := Int.fdiv_eq_ediv_of_nonneg _ (by decide)
  have f2 : Int.fdiv n 256 = n / 256 := Int.fdiv_eq_ediv_of_nonneg _ (by decide)
  rw [t1, t2, f1, f2, wrap_in (n := n / 65536) (by omega), wrap_in (n := n / 256) (by omega)]
  have m1 : Int.tmod (n / 256) 256 = (n / 256) % 256 := Int.tmod_eq_emod_of_nonneg (by omega)
  have m2 : Int.tmod n 256 = n % 256 := Int.tmod_eq_emod_of_nonneg (by omega)
  rw [m1, m2]
  rw [u8_eq (a := n / 256) (b := n / 256 % 256) (by omega), u8_eq (a := n) (b := n % 256) (by omega)]
def copyShort (c : DCopy) : Prop := ∀ k, k < c.Rows.length → (c.Rows.getD k d_Write).Key.length ≤ 12 ∧ (c.Rows.getD k d_Write).Val.length ≤ 24
theorem l3Key_len {s : Str} (h : s_l3Key s = true) : s.length ≤ 12 := by
  unfold s_l3Key at h
  have := f_l1In (of_cond_f h).1
  omega
theorem l3Val_len {s : Str} (h : s_l3Val s = true) : s.length ≤ 24 := by
  unfold s_l3Val at h
  have := of_decide_eq_true (of_cond_f h).1
  omega
theorem l3Write_len {k v : Str} {g : Bool} (h : s_l3Write k v g = true) : k.length ≤ 12 ∧ v.length ≤ 24 := by
  rw [l3Write_eq, isStored_eq] at h
  simp only [Bool.and_eq_true] at h
  exact ⟨l3Key_len h.1, l3Val_len h.2.1⟩
theorem f_l3Writes {l : List DWrite} (h : s_l3Writes l = true) : l.length ≤ 24 ∧ ∀ k, k < l.length → (l.getD k d_Write).Key.length ≤ 12 ∧ (l.getD k d_Write).Val.length ≤ 24 := by
  rw [l3Writes_eq, Bool.and_eq_true, decide_eq_true_eq] at h
  refine ⟨by omega, fun k hk => ?_⟩
  have := List.all_eq_true.1 h.1 k (List.mem_range.2 hk)
  rw [Bool.and_eq_true] at this
  exact l3Write_len this.1
theorem f_s_l31Copy {c : DCopy} (h : s_l31Copy c = true) : (c.Rows.length ≤ 24 ∧ 0 ≤ c.Time ∧ c.Time ≤ 100000) ∧ copyShort c := by
  have h' : i_GoodCopy c = true := by rw [GoodCopy_eq]; exact h
  unfold i_GoodCopy i_isTrue at h'
  obtain ⟨h1, h2⟩ := of_cond_f h'
  obtain ⟨h2, _⟩ := of_cond_f h2
  rw [isRows_eq, Bool.and_eq_true] at h2
  have h3 := f_l3Writes h2.1
  have h4 := f_within h1
  exact ⟨⟨h3.1, h4⟩, h3.2⟩
theorem f_i_GoodCopy {c : DCopy} (h : i_GoodCopy c = true) : (c.Rows.length ≤ 24 ∧ 0 ≤ c.Time ∧ c.Time ≤ 100000) ∧ copyShort c := f_s_l31Copy (by have := GoodCopy_eq c; rw [h] at this; exact this.symm)
theorem CopyBytes_eq (c : DCopy) : i_CopyBytes c = s_CopyBytes c := by
  unfold i_CopyBytes s_CopyBytes
  rw [GoodCopy_eq]
  unfold s_GoodCopy
  cases s_l31Copy c
  · rfl
  · simp only [cond_true]
    unfold i_copyBytes
    rw [catE (body := B_i_copyBytes_0 c) (xs := c.Rows) d_Write (fun w => i_textBytes w.Key ++ i_textBytes w.Val) fun k x _ => rfl, catE (body := B_s_CopyBytes_0 c) (xs := c.Rows) d_Write (fun w => i_textBytes w.Key ++ i_textBytes w.Val) fun k x _ => by unfold B_s_CopyBytes_0; dsimp only; rw [← textBytes_eq, ← textBytes_eq, List.append_assoc]]
    rw [seal_eq, numBytes_eq, numBytes_eq]
theorem true_CopyBytes (c : DCopy) (_ : wf_Copy c) : l_FnExactCopyBytes c = true := by
  unfold l_FnExactCopyBytes
  simp only [CopyBytes_eq, eq_Copy, beq_self_eq_true, cond_true, Bool.cond_self]
end Go.Proofs.Ytmlfbjlkccnpmaa
