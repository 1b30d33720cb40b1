/- Read Diff: plain laws of the models. -/
import Derived.Test.YtbamdefifgkbgaaReadDiffT
set_option linter.unusedVariables false
set_option linter.unusedSimpArgs false
namespace Go.Proofs.Ytbamdefifgkbgaa
open Go.RowKit Go.X
theorem eq_FeedItem (x : DFeedItem) : l_eqFeedItem x x = true := by unfold l_eqFeedItem; simp only [beq_self_eq_true, cond_true, decide_true]
theorem eq_FeedItemS (x : List DFeedItem) : l_eqFeedItemS x x = true := eqL_refl d_FeedItem (f := l_eqFeedItem) eq_FeedItem x
theorem eq_Diff (x : DDiff) : l_eqDiff x x = true := by unfold l_eqDiff; simp only [eq_FeedItemS, beq_self_eq_true, cond_true, decide_true]
def mk_FeedItem (_ : DFeedItem) (k : Int) : Int × DFeedItem := (IntKind.wrap .i64 ((IntKind.wrap .i64 ((IntKind.wrap .i64 ((IntKind.wrap .i64 ((IntKind.wrap .i64 (k + 1)) + 1)) + 1)) + 1)) + 1), ⟨k, IntKind.wrap .i64 (k + 1), l_markText (IntKind.wrap .i64 ((IntKind.wrap .i64 (k + 1)) + 1)), l_markText (IntKind.wrap .i64 ((IntKind.wrap .i64 ((IntKind.wrap .i64 (k + 1)) + 1)) + 1)), decide (Int.tmod (IntKind.wrap .i64 ((IntKind.wrap .i64 ((IntKind.wrap .i64 ((IntKind.wrap .i64 (k + 1)) + 1)) + 1)) + 1)) 3 = 0)⟩)
theorem mkc_FeedItem (x : DFeedItem) (k : Int) (h0 : 0 ≤ k) (h1 : k + ((5 : Nat) : Int) ≤ 4611686018427387904) : (mk_FeedItem x k).1 = k + ((5 : Nat) : Int) := by
  unfold mk_FeedItem
  simp only [IntKind.wrap_i64]; omega
theorem mark_FeedItemS (a : List DFeedItem) (k : Int) : l_markFeedItemS a k = mkL mk_FeedItem a k := by
  unfold l_markFeedItemS
  exact markE (d := d_FeedItem) (mk := mk_FeedItem) (fun i k xs hi => by unfold B_l_markFeedItemS_0; simp only [List.set_set, getD_set_self hi, mk_FeedItem]) a k
theorem held_FeedItemS (a : List DFeedItem) (k : Int) (h0 : 0 ≤ k) (h1 : k + (cntL (fun _ => 5) a : Int) ≤ 4611686018427387904) : l_heldFeedItemS (l_markFeedItemS a k).2 k = (l_markFeedItemS a k).1 := by
  rw [mark_FeedItemS]
  unfold l_heldFeedItemS
  exact heldE (d := d_FeedItem) (mk := mk_FeedItem) (c := fun _ => 5) a k mkc_FeedItem (fun i k x hx _ _ => by unfold B_l_heldFeedItemS_0; simp only [hx, mk_FeedItem, eq_self, decide_true, beq_self_eq_true, cond_true]) h0 h1
theorem mh_FeedItemS (a : List DFeedItem) (k : Int) (h0 : 0 ≤ k) (h1 : k + (((5 : Nat) * a.length : Nat) : Int) ≤ 4611686018427387904) : l_heldFeedItemS (l_markFeedItemS a k).2 k = (l_markFeedItemS a k).1 ∧ (l_markFeedItemS a k).1 = k + (((5 : Nat) * a.length : Nat) : Int) ∧ (l_markFeedItemS a k).2.length = a.length := by
  rw [← cntL_const] at h1 ⊢
  refine ⟨held_FeedItemS a k h0 h1, ?_, ?_⟩
  · rw [mark_FeedItemS]; exact mkL_cnt mkc_FeedItem a k h0 h1
  · rw [mark_FeedItemS]; exact mkL_length _ _ _
theorem rf_markFeedItemS (a : List DFeedItem) (k : Int) (h : k ≤ 9223372036854775807) : (l_markFeedItemS a k).1 ≤ 9223372036854775807 := by
  unfold l_markFeedItemS
  refine loopM_val (fun _ (s : Int × List DFeedItem) => s.1 ≤ 9223372036854775807) (fun (v : Int × List DFeedItem) => v.1 ≤ 9223372036854775807) h (fun s hs => hs) ?_
  rintro j ⟨k, x⟩ _ _ hk
  exact wrap_le _
theorem rf_heldFeedItemS (a : List DFeedItem) (k : Int) (h : k ≤ 9223372036854775807) : l_heldFeedItemS a k ≤ 9223372036854775807 := by
  unfold l_heldFeedItemS
  refine loopM_val (fun _ (s : Int) => s ≤ 9223372036854775807) (fun v => v ≤ 9223372036854775807) h (fun s hs => hs) ?_
  intro j k' _ _ hk
  unfold B_l_heldFeedItemS_0
  dsimp only
  cases decide (((a.getD j d_FeedItem).Time) = k') <;> cases decide (((a.getD j d_FeedItem).Group) = IntKind.wrap .i64 (k' + 1)) <;> cases (((a.getD j d_FeedItem).Key) == l_markText (IntKind.wrap .i64 ((IntKind.wrap .i64 (k' + 1)) + 1))) <;> cases (((a.getD j d_FeedItem).Val) == l_markText (IntKind.wrap .i64 ((IntKind.wrap .i64 ((IntKind.wrap .i64 (k' + 1)) + 1)) + 1))) <;> cases (((a.getD j d_FeedItem).Gone) == decide (Int.tmod (IntKind.wrap .i64 ((IntKind.wrap .i64 ((IntKind.wrap .i64 ((IntKind.wrap .i64 (k' + 1)) + 1)) + 1)) + 1)) 3 = 0)) <;> first | exact wrap_le _ | exact neg1_le
theorem mh_Diff (a : DDiff) (k : Int) (h0 : 0 ≤ k) (h1 : k + ((5 * a.List.length : Nat) : Int) ≤ 4611686018427387904) : l_heldDiff (l_markDiff a k).2 k = (l_markDiff a k).1 ∧ (l_markDiff a k).1 = k + ((5 * a.List.length : Nat) : Int) := by
  obtain ⟨e0, n0, _⟩ := mh_FeedItemS a.List k (by omega) (by omega)
  have q1 : l_heldDiff (l_markDiff a k).2 k = k + ((5 * a.List.length : Nat) : Int) := by unfold l_heldDiff l_markDiff; simp only [e0, n0, decide_eq_false (show ¬ k + ((5 * a.List.length : Nat) : Int) < 0 by omega), cond_false]
  have q2 : (l_markDiff a k).1 = k + ((5 * a.List.length : Nat) : Int) := by unfold l_markDiff; simp only [n0]
  exact ⟨q1.trans q2.symm, q2.trans (by omega)⟩
theorem eta_markDiff (r : DDiff) (k : Int) : (⟨r.From, r.To, (l_markDiff r k).2.List⟩ : DDiff) = (l_markDiff r k).2 := rfl
theorem rf_markDiff (a : DDiff) (k : Int) (h : k ≤ 9223372036854775807) : (l_markDiff a k).1 ≤ 9223372036854775807 := by
  unfold l_markDiff
  exact (rf_markFeedItemS _ _ h)
theorem rf_heldDiff (a : DDiff) (k : Int) (h : k ≤ 9223372036854775807) : l_heldDiff a k ≤ 9223372036854775807 := by
  unfold l_heldDiff
  cases decide (l_heldFeedItemS a.List k < 0) <;> first | exact neg1_le | exact (rf_heldFeedItemS _ _ h)
theorem ContainsFunc_FeedItem (xs : List DFeedItem) (f : DFeedItem → Bool) : g_slices_ContainsFunc_FeedItem xs f = xs.any f := idxF_any f d_FeedItem xs
theorem within_eq : i_within = s_l1In := rfl
theorem f_l1In {n lo hi : Int} (h : s_l1In n lo hi = true) : lo ≤ n ∧ n ≤ hi := by
  unfold s_l1In at h
  obtain ⟨h1, h2⟩ := of_cond_f h
  exact ⟨of_decide_eq_true h1, of_decide_eq_true h2⟩
theorem f_within {n lo hi : Int} (h : i_within n lo hi = true) : lo ≤ n ∧ n ≤ hi := f_l1In h
theorem indexByte_neg (l : List UInt8) (c : UInt8) : decide (Lib.indexByte l c < 0) = !(l.contains c) := by
  induction l with
  | nil => rfl
  | cons b l ih =>
    have hge := Lib.indexByte_ge l c
    rw [Bool.eq_iff_iff] at ih ⊢
    simp only [decide_eq_true_eq, Bool.not_eq_true', List.contains_cons] at ih ⊢
    unfold Lib.indexByte
    by_cases hb : b = c
    · subst hb; simp
    · have hb1 : (b == c) = false := by simpa using hb
      have hb2 : (c == b) = false := by simpa using fun h => hb h.symm
      rw [hb1, hb2]
      simp only [Bool.false_or, Bool.false_eq_true, if_false]
      split
      · rename_i h
        have : Lib.indexByte l c = -1 := by simpa using h
        rw [← ih]; omega
      · rename_i h
        have : Lib.indexByte l c ≠ -1 := by simpa using h
        constructor
        · intro h; omega
        · intro h; have := ih.2 h; omega
theorem byte_back (b : UInt8) : ((b.toNat : Int)).toNat.toUInt8 = b := by simp
theorem idxB_neg (s : Str) (b : UInt8) : decide (idxB s (b.toNat : Int) < 0) = !(s.contains b) := by
  unfold idxB
  rw [byte_back, indexByte_neg]
def byteOk (more : Str) (b : UInt8) : Bool := i_isLowerOrDigit (b.toNat : Int) || more.contains b
theorem hasBytes_eq (s more : Str) : i_hasBytes s more = s.all (byteOk more) := by
  unfold i_hasBytes
  rw [allE (0 : UInt8) (byteOk more) (r := false) fun k => by
    unfold B_i_hasBytes_0 byteOk g_strings_IndexByte g_internal_stringslite_IndexByte
    rw [idxB_neg]
    cases i_isLowerOrDigit ((s.getD k 0).toNat : Int) <;> cases more.contains (s.getD k 0) <;> rfl]
  cases s.all (byteOk more) <;> rfl
theorem toNat_eq (a b : UInt8) : decide ((a.toNat : Int) = (b.toNat : Int)) = (a == b) := by
  rw [Bool.eq_iff_iff, decide_eq_true_iff, beq_iff_eq]
  constructor
  · intro h; exact UInt8.toNat.inj (by omega)
  · intro h; rw [h]
theorem l3B1 {T : Type} (s more : Str) (k : Nat) (x0 : Bool) (fr : Bool → T) (fd : Bool → T) : loopE (loopM (B_s_l3Bytes_1 s more k) (more.length - 0) 0 x0) fr fd = fd (x0 || more.contains (s.getD k 0)) := by
  rw [orE (0 : UInt8) (fun b => (s.getD k 0) == b) fun j x => by
    unfold B_s_l3Bytes_1
    rw [toNat_eq]
    cases x <;> rfl]
  rw [List.contains_eq_any_beq]
theorem l3Bytes_eq (s more : Str) : s_l3Bytes s more = s.all (byteOk more) := by
  unfold s_l3Bytes
  rw [allE (0 : UInt8) (byteOk more) (r := false) fun k => by
    unfold B_s_l3Bytes_0 byteOk i_isLowerOrDigit
    simp only [l3B1]
    cases decide (97 ≤ ((s.getD k 0).toNat : Int)) <;> cases decide (((s.getD k 0).toNat : Int) ≤ 122) <;> cases decide (48 ≤ ((s.getD k 0).toNat : Int)) <;> cases decide (((s.getD k 0).toNat : Int) ≤ 57) <;> cases more.contains (s.getD k 0) <;> rfl]
  cases s.all (byteOk more) <;> rfl
theorem GoodKey_eq (s : Str) : i_GoodKey s = s_l3Key s := by
  unfold i_GoodKey s_l3Key
  rw [hasBytes_eq, l3Bytes_eq, within_eq]
theorem GoodVal_eq (s : Str) : i_GoodVal s = s_l3Val s := by
  unfold i_GoodVal s_l3Val
  rw [hasBytes_eq, l3Bytes_eq]

theorem and_all {α : Type} (l : List α) (p q : α → Bool) : (l.all p && l.all q) = l.all fun x => p x && q x := by
  induction l with
  | nil => rfl
  | cons x l ih =>
    simp only [List.all_cons, ← ih]
    cases p x <;> cases q x <;> cases l.all p <;> rfl
theorem isStored_eq (v : Str) (g : Bool) : i_isStored v g = (s_l3Val v && (!g || v == ([] : Str))) := by
  unfold i_isStored
  rw [GoodVal_eq]
  cases s_l3Val v <;> cases g <;> cases (v == ([] : Str)) <;> rfl
theorem l3Write_eq (k v : Str) (g : Bool) : s_l3Write k v g = (s_l3Key k && i_isStored v g) := by
  rw [isStored_eq]
  unfold s_l3Write
  cases s_l3Key k <;> cases s_l3Val v <;> cases g <;> cases (v == ([] : Str)) <;> rfl
theorem Compare_int_eq (x y : Int) : g_cmp_Compare_int x y = if x < y then -1 else if y < x then 1 else 0 := by
  unfold g_cmp_Compare_int g_cmp_isNaN_int
  simp only [decide_true, Bool.not_true, cond_false]
  by_cases h1 : x < y
  · simp [h1]
  · by_cases h2 : y < x
    · simp [h1, h2]
    · simp [h1, h2]
theorem Compare_string_eq (x y : Str) : g_cmp_Compare_string x y = if x < y then -1 else if x = y then 0 else 1 := by
  unfold g_cmp_Compare_string g_cmp_isNaN_string
  simp only [beq_self_eq_true, Bool.not_true, cond_false]
  by_cases h1 : x < y
  · rw [(sLt_iff x y).2 h1, if_pos h1]; rfl
  · have h0 : sLt x y = false := by cases h : sLt x y; rfl; exact absurd ((sLt_iff x y).1 h) h1
    rw [h0, cond_false, if_neg h1]
    unfold sLe
    rw [h0, Bool.false_or]
    by_cases h2 : x = y
    · subst h2; rw [beq_self_eq_true, if_pos rfl]; rfl
    · rw [beq_false_of_ne h2, if_neg h2]; rfl
theorem Or_int3 (a b c : Int) : g_cmp_Or_int [a, b, c] = if a = 0 then (if b = 0 then c else b) else a := by
  unfold g_cmp_Or_int
  have b0 : B_g_cmp_Or_int_0 [a, b, c] 0 () = bif decide (a = 0) then .cont () else .ret a := rfl
  have b1 : B_g_cmp_Or_int_0 [a, b, c] 1 () = bif decide (b = 0) then .cont () else .ret b := rfl
  have b2 : B_g_cmp_Or_int_0 [a, b, c] 2 () = bif decide (c = 0) then .cont () else .ret c := rfl
  show loopE (loopM (B_g_cmp_Or_int_0 [a, b, c]) 3 0 ()) _ _ = _
  simp only [loopM, Nat.zero_add, Nat.reduceAdd, b0, b1, b2]
  by_cases h1 : a = 0
  · by_cases h2 : b = 0
    · by_cases h3 : c = 0
      · simp [h1, h2, h3, loopE]
      · simp [h1, h2, h3, loopE]
    · simp [h1, h2, loopE]
  · simp [h1, loopE]
theorem ahead_eq (a b : DFeedItem) : decide (0 ≤ i_compareItems a b) = !(s_l23Ahead a b) := by
  unfold i_compareItems s_l23Ahead
  rw [Or_int3, Compare_int_eq, Compare_int_eq, Compare_string_eq]
  by_cases h1 : a.Time = b.Time
  · rw [if_neg (by omega : ¬ a.Time < b.Time), if_neg (by omega : ¬ b.Time < a.Time), if_pos rfl, decide_eq_true h1, cond_true]
    by_cases h2 : a.Group = b.Group
    · rw [if_neg (by omega : ¬ a.Group < b.Group), if_neg (by omega : ¬ b.Group < a.Group), if_pos rfl, decide_eq_true h2, cond_true]
      by_cases h3 : a.Key < b.Key
      · rw [if_pos h3, (sLt_iff _ _).2 h3]; rfl
      · have h0 : sLt a.Key b.Key = false := by cases h : sLt a.Key b.Key; rfl; exact absurd ((sLt_iff _ _).1 h) h3
        rw [if_neg h3, h0]
        by_cases h4 : a.Key = b.Key
        · rw [if_pos h4]; rfl
        · rw [if_neg h4]; rfl
    · rw [decide_eq_false h2, cond_false]
      by_cases h3 : a.Group < b.Group
      · simp only [if_pos h3, decide_eq_true h3]; rfl
      · simp only [if_neg h3, if_pos (show b.Group < a.Group by omega), decide_eq_false h3]; rfl
  · rw [decide_eq_false h1, cond_false]
    by_cases h3 : a.Time < b.Time
    · simp only [if_pos h3, decide_eq_true h3]; rfl
    · simp only [if_neg h3, if_pos (show b.Time < a.Time by omega), decide_eq_false h3]; rfl
def aheadAt (l : List DFeedItem) (k : Nat) : Bool := bif decide (0 < (k : Int)) then s_l23Ahead (l.getD ((IntKind.wrap .i64 ((k : Int) - 1)).toNat) d_FeedItem) (l.getD k d_FeedItem) else true
theorem isFeed_eq (l : List DFeedItem) : i_isFeed l = ((List.range l.length).all (aheadAt l) && decide ((l.length : Int) ≤ 400)) := by
  unfold i_isFeed
  rw [loopU (aheadAt l) (r := false) fun k _ => by
    unfold B_i_isFeed_0 aheadAt
    rw [ahead_eq]
    cases decide (0 < (k : Int)) <;> cases s_l23Ahead (l.getD ((IntKind.wrap .i64 ((k : Int) - 1)).toNat) d_FeedItem) (l.getD k d_FeedItem) <;> rfl]
  cases (List.range l.length).all (aheadAt l) <;> rfl
theorem GoodItem_eq (c : DFeedItem) : i_GoodItem c = s_l23Good c := by
  unfold i_GoodItem s_l23Good i_isTime i_isGroup
  rw [within_eq, GoodKey_eq, l3Write_eq]
  cases s_l1In c.Time 1 100000 <;> cases s_l1In c.Group 0 3 <;> cases s_l3Key c.Key <;> rfl
theorem l23Feed_eq (l : List DFeedItem) : s_l23Feed l = ((l.all s_l23Good && (List.range l.length).all (aheadAt l)) && decide ((l.length : Int) ≤ 400)) := by
  unfold s_l23Feed
  by_cases hl : l.length ≤ 400
  · rw [loopU (fun k => s_l23Good (l.getD k d_FeedItem) && aheadAt l k) (r := false) fun k hk => by
      unfold B_s_l23Feed_0 aheadAt
      rw [decide_eq_true (show (k : Int) ≤ 400 by omega)]
      cases s_l23Good (l.getD k d_FeedItem) <;> cases decide (0 < (k : Int)) <;> cases s_l23Ahead (l.getD ((IntKind.wrap .i64 ((k : Int) - 1)).toNat) d_FeedItem) (l.getD k d_FeedItem) <;> rfl]
    rw [← range_all d_FeedItem s_l23Good l, and_all]
    cases (List.range l.length).all fun k => s_l23Good (l.getD k d_FeedItem) && aheadAt l k <;> rfl
  · have h2 : decide ((l.length : Int) ≤ 400) = false := decide_eq_false (by omega)
    rw [h2, Bool.and_false]
    refine loopM_val (fun _ _ => True) (fun v => v = false) trivial (fun _ _ => rfl) ?_
    intro k _ _ _ _
    unfold B_s_l23Feed_0
    cases decide ((k : Int) ≤ 400) <;> cases s_l23Good (l.getD k d_FeedItem) <;> cases decide (0 < (k : Int)) <;> cases s_l23Ahead (l.getD ((IntKind.wrap .i64 ((k : Int) - 1)).toNat) d_FeedItem) (l.getD k d_FeedItem) <;> first | trivial | rfl
theorem GoodFeed_eq (l : List DFeedItem) : i_GoodFeed l = s_l23Feed l := by
  unfold i_GoodFeed
  rw [isFeed_eq, ContainsFunc_FeedItem, List.not_any_eq_all_not, l23Feed_eq]
  have : (l.all fun x => !i_GoodFeed_c1 x) = l.all s_l23Good := by
    congr 1; funext x; unfold i_GoodFeed_c1; rw [GoodItem_eq, Bool.not_not]
  rw [this]
  cases (List.range l.length).all (aheadAt l) <;> cases l.all s_l23Good <;> cases decide ((l.length : Int) ≤ 400) <;> rfl
def inDiff (d : DDiff) (c : DFeedItem) : Bool := decide (c.Group = 0) && decide (d.From < c.Time) && decide (c.Time ≤ d.To)
theorem l31Diff_eq (d : DDiff) (hw : wfI d.From) : s_l31Diff d = (s_l1In d.From 0 d.To && decide (d.To ≤ 100000) && decide ((d.List.length : Int) ≤ 60) && s_l23Feed d.List && d.List.all (inDiff d)) := by
  unfold s_l31Diff
  rw [allE d_FeedItem (fun c => decide (c.Group = 0) && s_l1In c.Time (IntKind.wrap .i64 (d.From + 1)) d.To) (r := false) fun k => by
    unfold B_s_l31Diff_0
    cases decide ((d.List.getD k d_FeedItem).Group = 0) <;> cases s_l1In ((d.List.getD k d_FeedItem).Time) (IntKind.wrap .i64 (d.From + 1)) d.To <;> rfl]
  cases h1 : s_l1In d.From 0 d.To
  · cases (d.List.all fun c => decide (c.Group = 0) && s_l1In c.Time (IntKind.wrap .i64 (d.From + 1)) d.To) <;> rfl
  · by_cases h2 : d.To ≤ 100000
    · have h3 := f_l1In h1
      have h4 : (d.List.all fun c => decide (c.Group = 0) && s_l1In c.Time (IntKind.wrap .i64 (d.From + 1)) d.To) = d.List.all (inDiff d) := by
        congr 1; funext c
        unfold inDiff
        rw [wrap_in (by omega)]
        unfold s_l1In
        by_cases h5 : d.From + 1 ≤ c.Time
        · rw [decide_eq_true h5, decide_eq_true (show d.From < c.Time by omega)]; cases decide (c.Group = 0) <;> rfl
        · rw [decide_eq_false h5, decide_eq_false (show ¬ d.From < c.Time by omega)]; cases decide (c.Group = 0) <;> rfl
      rw [h4, decide_eq_true h2]
      cases d.List.all (inDiff d) <;> cases decide ((d.List.length : Int) ≤ 60) <;> cases s_l23Feed d.List <;> rfl
    · rw [decide_eq_false h2]
      cases (d.List.all fun c => decide (c.Group = 0) && s_l1In c.Time (IntKind.wrap .i64 (d.From + 1)) d.To) <;> rfl
theorem GoodDiff_eq (d : DDiff) (hw : wfI d.From) : i_GoodDiff d = s_GoodDiff d := by
  unfold s_GoodDiff
  rw [l31Diff_eq d hw]
  unfold i_GoodDiff i_isTrue
  rw [within_eq, GoodFeed_eq, ContainsFunc_FeedItem, List.not_any_eq_all_not]
  have : (d.List.all fun x => !i_GoodDiff_c1 x d) = d.List.all (inDiff d) := by
    congr 1; funext c
    unfold i_GoodDiff_c1 inDiff
    by_cases h1 : c.Time ≤ d.From
    · rw [decide_eq_true h1, decide_eq_false (show ¬ d.From < c.Time by omega)]; cases decide (c.Group = 0) <;> rfl
    · rw [decide_eq_false h1, decide_eq_true (show d.From < c.Time by omega)]
      by_cases h2 : d.To < c.Time
      · rw [decide_eq_true h2, decide_eq_false (show ¬ c.Time ≤ d.To by omega)]; cases decide (c.Group = 0) <;> rfl
      · rw [decide_eq_false h2, decide_eq_true (show c.Time ≤ d.To by omega)]; cases decide (c.Group = 0) <;> rfl
  rw [this]
  have e : (bif s_l1In d.From 0 100000 then bif s_l1In d.To 0 100000 then decide (d.From ≤ d.To) else false else false) = (s_l1In d.From 0 d.To && decide (d.To ≤ 100000)) := by
    rw [Bool.eq_iff_iff]
    constructor
    · intro h
      obtain ⟨a, h⟩ := of_cond_f h
      obtain ⟨b, c⟩ := of_cond_f h
      have a := f_l1In a
      have b := f_l1In b
      have c := of_decide_eq_true c
      unfold s_l1In
      rw [decide_eq_true a.1, decide_eq_true c, decide_eq_true b.2]; rfl
    · intro h
      rw [Bool.and_eq_true] at h
      have a := f_l1In h.1
      have b := of_decide_eq_true h.2
      unfold s_l1In
      rw [decide_eq_true a.1, decide_eq_true (show d.From ≤ 100000 by omega), decide_eq_true (show 0 ≤ d.To by omega), decide_eq_true b, decide_eq_true a.2]; rfl
  rw [← e]
  cases s_l1In d.From 0 100000 <;> cases s_l1In d.To 0 100000 <;> cases decide (d.From ≤ d.To) <;> cases decide ((d.List.length : Int) ≤ 60) <;> cases s_l23Feed d.List <;> cases d.List.all (inDiff d) <;> rfl
theorem u8_mod (n : Int) : IntKind.wrap .u8 n = n % 256 := by
  simp [IntKind.wrap, IntKind.bits, IntKind.signed]
theorem u8_eq {a b : Int} (h : a % 256 = b % 256) : IntKind.wrap .u8 a = IntKind.wrap .u8 b := by rw [u8_mod, u8_mod, h]
theorem numBody_eq (n m : Int) : B_i_numBytes_0 n = B_s_l1NumB_0 m := by
  funext ⟨a, x⟩
  unfold B_i_numBytes_0 B_s_l1NumB_0
  dsimp only
  have : IntKind.wrap .u8 ((IntKind.wrap .u8 (Int.tmod a 128)) + 128) = IntKind.wrap .u8 (IntKind.wrap .i64 ((Int.tmod a 128) + 128)) := by
    simp only [u8_mod, IntKind.wrap_i64]; omega
  rw [this]
theorem numBytes_eq (n : Int) : i_numBytes n = s_l1NumB n := by
  unfold i_numBytes s_l1NumB
  rw [numBody_eq n n]
theorem textBytes_eq (s : Str) : i_textBytes s = s_l1TextB s := by
  unfold i_textBytes s_l1TextB
  rw [numBytes_eq]
theorem rf_numBytes (n : Int) (h : 0 ≤ n ∧ n ≤ 1073741824) : (i_numBytes n).length ≤ 5 := by
  unfold i_numBytes
  refine loopW_val (fun (p : Int × List Int) => 0 ≤ p.1 ∧ ((p.2.length = 0 ∧ p.1 ≤ 1073741824) ∨ (p.2.length = 1 ∧ p.1 ≤ 8388608) ∨ (p.2.length = 2 ∧ p.1 ≤ 65536) ∨ (p.2.length = 3 ∧ p.1 ≤ 512) ∨ (p.2.length = 4 ∧ p.1 ≤ 4))) (fun (p : Int × List Int) => p.1.toNat) (fun (v : Str) => v.length ≤ 5) ?_ _ _ ⟨h.1, .inl ⟨rfl, h.2⟩⟩ (Nat.lt_succ_self _)
  rintro ⟨a, x⟩ ⟨h1, h2⟩
  unfold B_i_numBytes_0
  dsimp only at h1 h2 ⊢
  by_cases h3 : 128 ≤ a
  · have h4 := wtd (n := a) (c := 128) (by decide) (by omega) (by omega)
    simp only [decide_eq_true h3, cond_true, Out.sat, List.length_append, List.length_cons, List.length_nil]
    omega
  · simp only [decide_eq_false h3, cond_false, Out.sat, toS_length, List.length_append, List.length_cons, List.length_nil]
    omega
theorem rf_l1NumB (n : Int) (h : 0 ≤ n ∧ n ≤ 1073741824) : (s_l1NumB n).length ≤ 5 := numBytes_eq n ▸ rf_numBytes n h
theorem rf_textBytes (s : Str) (h : s.length ≤ 1073741824) : (i_textBytes s).length ≤ s.length + 5 := by
  have := rf_numBytes (s.length : Int) (by omega)
  unfold i_textBytes
  rw [List.length_append]; omega
theorem rf_l1TextB (s : Str) (h : s.length ≤ 1073741824) : (s_l1TextB s).length ≤ s.length + 5 := textBytes_eq s ▸ rf_textBytes s h
theorem rf_flagByte (b : Bool) : (i_flagByte b).length = 1 := by cases b <;> rfl
theorem rf_l4Flag (b : Bool) : (s_l4Flag b).length = 1 := by cases b <;> rfl
theorem rf_seal (b : Str) : (i_seal b).length = b.length + 3 := by unfold i_seal; rw [List.length_append, toS_length]; rfl
theorem rf_l1Seal (b : Str) : (s_l1Seal b).length = b.length + 3 := by unfold s_l1Seal s_l1Three; rw [List.length_append, toS_length]; rfl
theorem sumOf_eq (b : Str) : i_sumOf b = s_l1Sum b := rfl
theorem sum_rng (b : Str) : 0 ≤ i_sumOf b ∧ i_sumOf b < 16000057 := by
  unfold i_sumOf
  refine loopM_val (fun _ (x : Int) => 0 ≤ x ∧ x < 16000057) (fun v => 0 ≤ v ∧ v < 16000057) ⟨by decide, by decide⟩ (fun s h => h) ?_
  intro j x _ _ hx
  unfold B_i_sumOf_0
  have h1 : 0 ≤ ((b.getD j 0).toNat : Int) ∧ ((b.getD j 0).toNat : Int) < 256 := ⟨by omega, by have := (b.getD j 0).toNat_lt; omega⟩
  dsimp only
  rw [wrap_in (n := 31 * x) (by omega), wrap_in (n := ((b.getD j 0).toNat : Int)) (by omega), wrap_in (n := 31 * x + _) (by omega), wrap_in (by omega)]
  exact ⟨Int.tmod_nonneg _ (by omega), Int.tmod_lt_of_pos _ (by decide)⟩
theorem seal_eq (b : Str) : i_seal b = s_l1Seal b := by
  unfold i_seal s_l1Seal s_l1Three
  rw [← sumOf_eq]
  have h := sum_rng b
  generalize i_sumOf b = n at h
  have t1 : Int.tdiv n 65536 = n / 65536 := Int.tdiv_eq_ediv_of_nonneg (by omega)
  have t2 : Int.tdiv n 256 = n / 256 := Int.tdiv_eq_ediv_of_nonneg (by omega)
  have f1 : Int.fdiv n 65536 = n / 65536 := Int.fdiv_eq_ediv_of_nonneg _ (by decide)
  have f2 : Int.fdiv n 256 = n / 256 := Int.fdiv_eq_ediv_of_nonneg _ (by decide)
  rw [t1, t2, f1, f2, wrap_in (n := n / 65536) (by omega), wrap_in (n := n / 256) (by omega)]
  have m1 : Int.tmod (n / 256) 256 = (n / 256) % 256 := Int.tmod_eq_emod_of_nonneg (by omega)
  have m2 : Int.tmod n 256 = n % 256 := Int.tmod_eq_emod_of_nonneg (by omega)
  rw [m1, m2]
  rw [u8_eq (a := n / 256) (b := n / 256 % 256) (by omega), u8_eq (a := n) (b := n % 256) (by omega)]
theorem l3Key_len {s : Str} (h : s_l3Key s = true) : s.length ≤ 12 := by
  unfold s_l3Key at h
  have := f_l1In (of_cond_f h).1
  omega
theorem l3Val_len {s : Str} (h : s_l3Val s = true) : s.length ≤ 24 := by
  unfold s_l3Val at h
  have := of_decide_eq_true (of_cond_f h).1
  omega
theorem l3Write_len {k v : Str} {g : Bool} (h : s_l3Write k v g = true) : k.length ≤ 12 ∧ v.length ≤ 24 := by
  rw [l3Write_eq, isStored_eq] at h
  simp only [Bool.and_eq_true] at h
  exact ⟨l3Key_len h.1, l3Val_len h.2.1⟩
def diffShort (d : DDiff) : Prop := ∀ k, k < d.List.length → (0 ≤ (d.List.getD k d_FeedItem).Time ∧ (d.List.getD k d_FeedItem).Time ≤ 100000) ∧ (d.List.getD k d_FeedItem).Key.length ≤ 12 ∧ (d.List.getD k d_FeedItem).Val.length ≤ 24
theorem f_i_GoodDiff {d : DDiff} (h : i_GoodDiff d = true) : (d.List.length ≤ 60 ∧ 0 ≤ d.From ∧ d.From ≤ 100000 ∧ 0 ≤ d.To ∧ d.To ≤ 100000) ∧ diffShort d := by
  unfold i_GoodDiff i_isTrue at h
  obtain ⟨h1, h⟩ := of_cond_f h
  obtain ⟨h2, h⟩ := of_cond_f h
  obtain ⟨_, h⟩ := of_cond_f h
  obtain ⟨h4, h⟩ := of_cond_f h
  obtain ⟨h5, _⟩ := of_cond_f h
  have h1 := f_within h1
  have h2 := f_within h2
  have h4 := of_decide_eq_true h4
  rw [GoodFeed_eq, l23Feed_eq, Bool.and_eq_true, Bool.and_eq_true] at h5
  refine ⟨⟨by omega, h1.1, h1.2, h2.1, h2.2⟩, fun k hk => ?_⟩
  have h6 := List.all_eq_true.1 h5.1.1 _ (getD_mem (d := d_FeedItem) hk)
  unfold s_l23Good at h6
  obtain ⟨a, h6⟩ := of_cond_f h6
  obtain ⟨_, h6⟩ := of_cond_f h6
  have a := f_l1In a
  exact ⟨⟨by omega, a.2⟩, l3Write_len h6⟩
theorem f_s_l31Diff {d : DDiff} (h : s_l31Diff d = true) : (d.List.length ≤ 60 ∧ 0 ≤ d.From ∧ d.From ≤ 100000 ∧ 0 ≤ d.To ∧ d.To ≤ 100000) ∧ diffShort d := by
  have hf : wfI d.From := by
    unfold s_l31Diff at h
    rw [allE d_FeedItem (fun c => decide (c.Group = 0) && s_l1In c.Time (IntKind.wrap .i64 (d.From + 1)) d.To) (r := false) fun k => by
      unfold B_s_l31Diff_0
      cases decide ((d.List.getD k d_FeedItem).Group = 0) <;> cases s_l1In ((d.List.getD k d_FeedItem).Time) (IntKind.wrap .i64 (d.From + 1)) d.To <;> rfl] at h
    obtain ⟨_, h⟩ := of_cond_f h
    obtain ⟨h1, h⟩ := of_cond_f h
    obtain ⟨h2, _⟩ := of_cond_f h
    have h1 := f_l1In h1
    have h2 := of_decide_eq_true h2
    unfold wfI; omega
  have := GoodDiff_eq d hf
  unfold s_GoodDiff at this
  rw [h] at this
  exact f_i_GoodDiff this
theorem flag_eq (b : Bool) : i_flagByte b = s_l4Flag b := rfl
def itemB (c : DFeedItem) : Str := (((i_numBytes c.Time) ++ (i_textBytes c.Key)) ++ (i_flagByte c.Gone)) ++ (i_textBytes c.Val)
theorem DiffBytes_eq (d : DDiff) (hw : wfI d.From) : i_DiffBytes d = s_DiffBytes d := by
  unfold i_DiffBytes s_DiffBytes
  rw [GoodDiff_eq d hw]
  unfold s_GoodDiff
  cases s_l31Diff d
  · rfl
  · simp only [cond_true]
    have hi : i_diffBytes d = i_seal ((((i_numBytes d.From) ++ (i_numBytes d.To)) ++ (i_numBytes (d.List.length : Int))) ++ (d.List.map itemB).flatten) := by
      unfold i_diffBytes
      rw [catE (body := B_i_diffBytes_0 d) (xs := d.List) d_FeedItem itemB fun k x _ => rfl]
    rw [catE (body := B_s_DiffBytes_0 d) (xs := d.List) d_FeedItem itemB fun k x _ => by unfold B_s_DiffBytes_0 itemB; rw [← textBytes_eq, ← textBytes_eq, ← numBytes_eq, ← flag_eq]; simp only [List.append_assoc]]
    rw [← numBytes_eq, ← numBytes_eq, ← numBytes_eq, hi, rf_seal, ← seal_eq]
    generalize (((i_numBytes d.From) ++ (i_numBytes d.To)) ++ (i_numBytes (d.List.length : Int))) ++ (d.List.map itemB).flatten = s
    by_cases h : 5997 < s.length
    · rw [decide_eq_true (show (6000 : Int) < ((s.length + 3 : Nat) : Int) by omega), decide_eq_true (show (5997 : Int) < (s.length : Int) by omega), cond_true]
    · rw [decide_eq_false (show ¬ (6000 : Int) < ((s.length + 3 : Nat) : Int) by omega), decide_eq_false (show ¬ (5997 : Int) < (s.length : Int) by omega), cond_false]
theorem mul_rng {a f m : Int} (h1 : 0 ≤ a) (h2 : a ≤ 127) (h3 : 0 ≤ f) (h4 : f ≤ m) : 0 ≤ a * f ∧ a * f ≤ 127 * m :=
  ⟨Int.mul_nonneg h1 h3, Int.le_trans (Int.mul_le_mul_of_nonneg_right h2 h3) (Int.mul_le_mul_of_nonneg_left h4 (by decide))⟩
theorem digit_mul (p : Str) {f : Int} (h1 : 0 ≤ f) (h2 : f ≤ 34359738368) : 0 ≤ IntKind.wrap .i64 ((IntKind.wrap .i64 (Int.tmod ((p.getD 0 0).toNat : Int) 128)) * f) ∧ IntKind.wrap .i64 ((IntKind.wrap .i64 (Int.tmod ((p.getD 0 0).toNat : Int) 128)) * f) ≤ 4363686772736 := by
  have h := Int.tmod_eq_emod_of_nonneg (a := ((p.getD 0 0).toNat : Int)) (b := 128) (by omega)
  have hw : IntKind.wrap .i64 (Int.tmod ((p.getD 0 0).toNat : Int) 128) = ((p.getD 0 0).toNat : Int) % 128 := by rw [h]; exact wrap_in (by omega)
  rw [hw]
  have hm := mul_rng (a := ((p.getD 0 0).toNat : Int) % 128) (f := f) (m := 34359738368) (by omega) (by omega) h1 h2
  rw [wrap_in (by omega)]; exact ⟨hm.1, by omega⟩
theorem rf_fail (b : Str) (s : Int × Bool) : (i_source_fail b s).1 = s.1 := rfl
theorem take_cases {b : Str} (o : okS b) (s : Int × Bool) (n : Int) (h : 0 ≤ s.1 ∧ s.1 ≤ (b.length : Int) ∧ 0 ≤ n ∧ n ≤ 1073741824) :
    (i_source_take b s n = ([], (s.1, true)) ∧ (s.2 = true ∨ (b.length : Int) < s.1 + n)) ∨ (i_source_take b s n = ((b.drop s.1.toNat).take n.toNat, (s.1 + n, false)) ∧ s.2 = false ∧ s.1 + n ≤ (b.length : Int)) := by
  unfold okS at o
  unfold i_source_take i_source_fail
  cases h2 : s.2 with
  | true => exact .inl ⟨rfl, .inl rfl⟩
  | false =>
    simp only [cond_false]
    rw [wrap_in (n := (b.length : Int) - s.1) (by omega)]
    by_cases h3 : (b.length : Int) - s.1 < n
    · rw [decide_eq_true h3]; exact .inl ⟨rfl, .inr (by omega)⟩
    · rw [decide_eq_false h3]
      refine .inr ⟨?_, trivial, by omega⟩
      simp only [cond_false]
      rw [wrap_in (n := s.1 + n) (by omega), wrap_in (n := s.1 + n - n) (by omega), List.drop_take, show s.1 + n - n = s.1 by omega, show (s.1 + n).toNat - s.1.toNat = n.toNat by omega]
theorem rf_take {b : Str} (o : okS b) (s : Int × Bool) (n : Int) (h : 0 ≤ s.1 ∧ s.1 ≤ (b.length : Int) ∧ 0 ≤ n ∧ n ≤ 1073741824) : s.1 ≤ (i_source_take b s n).2.1 ∧ (i_source_take b s n).2.1 ≤ (b.length : Int) := by
  rcases take_cases o s n h with ⟨e, _⟩ | ⟨e, _, h2⟩ <;> rw [e] <;> dsimp only <;> omega
theorem f_take {b : Str} {s : Int × Bool} {n : Int} (hf : (i_source_take b s n).2.2 = false) (o : okS b) (h : 0 ≤ s.1 ∧ s.1 ≤ (b.length : Int) ∧ 0 ≤ n ∧ n ≤ 1073741824) : (i_source_take b s n).2.1 = s.1 + n ∧ ((i_source_take b s n).1.length : Int) = n ∧ s.1 + n ≤ (b.length : Int) := by
  rcases take_cases o s n h with ⟨e, _⟩ | ⟨e, _, h2⟩ <;> rw [e] at hf ⊢
  · cases hf
  · dsimp only; rw [List.length_take, List.length_drop]; omega
theorem rf_num {b : Str} (o : okS b) (s : Int × Bool) (h : 0 ≤ s.1 ∧ s.1 ≤ (b.length : Int)) : s.1 ≤ (i_source_num b s).2.1 ∧ (i_source_num b s).2.1 ≤ (b.length : Int) ∧ 0 ≤ (i_source_num b s).1 ∧ (i_source_num b s).1 ≤ 1000000000 := by
  have ho : b.length ≤ 1073741824 := o
  unfold i_source_num
  refine loopW_val (fun (p : Int × Int × Int × Bool) => s.1 ≤ p.2.2.1 ∧ p.2.2.1 ≤ (b.length : Int) ∧ 0 ≤ p.1 ∧ p.1 ≤ 1000000000 ∧ p.2.2.1 - s.1 ≤ 5 ∧ 0 ≤ p.2.1 ∧ ((p.2.2.1 - s.1 = 0 ∧ p.2.1 = 1) ∨ (p.2.2.1 - s.1 = 1 ∧ p.2.1 = 128) ∨ (p.2.2.1 - s.1 = 2 ∧ p.2.1 = 16384) ∨ (p.2.2.1 - s.1 = 3 ∧ p.2.1 = 2097152) ∨ (p.2.2.1 - s.1 = 4 ∧ p.2.1 = 268435456) ∨ (p.2.2.1 - s.1 = 5 ∧ p.2.1 = 34359738368))) (fun (p : Int × Int × Int × Bool) => (6 - (p.2.2.1 - s.1)).toNat) (fun (v : Int × (Int × Bool)) => s.1 ≤ v.2.1 ∧ v.2.1 ≤ (b.length : Int) ∧ 0 ≤ v.1 ∧ v.1 ≤ 1000000000) ?_ _ _ ⟨Int.le_refl _, h.2, by dsimp only; omega, by dsimp only; omega, by dsimp only; omega, by dsimp only; omega, .inl ⟨by dsimp only; omega, rfl⟩⟩ (by dsimp only; omega)
  rintro ⟨n, f, a, g⟩ hI
  dsimp only at hI
  unfold B_i_source_num_0
  dsimp only
  have hr := rf_take o (a, g) 1 ⟨by dsimp only; omega, hI.2.1, by decide, by decide⟩
  dsimp only at hr
  cases ht : (i_source_take b (a, g) 1).2.2 with
  | true => simp only [cond_true, Out.sat]; exact ⟨by omega, hr.2, by omega, by omega⟩
  | false =>
    have hd := f_take ht o ⟨by dsimp only; omega, hI.2.1, by decide, by decide⟩
    dsimp only at hd
    have hm := digit_mul (i_source_take b (a, g) 1).1 (f := f) hI.2.2.2.2.2.1 (by omega)
    simp only [cond_false]
    generalize IntKind.wrap .i64 ((IntKind.wrap .i64 (Int.tmod (((i_source_take b (a, g) 1).1.getD 0 0).toNat : Int) 128)) * f) = z at hm
    rw [wrap_in (n := n + z) (by omega), wrap_in (n := (i_source_take b (a, g) 1).2.1 - s.1) (by omega)]
    by_cases h1 : (1000000000 : Int) < n + z
    · simp only [decide_eq_true h1, cond_true, Out.sat, rf_fail]; exact ⟨by omega, hr.2, by omega, by omega⟩
    · simp only [decide_eq_false h1, cond_false]
      by_cases h2 : (5 : Int) < (i_source_take b (a, g) 1).2.1 - s.1
      · simp only [decide_eq_true h2, cond_true, Out.sat, rf_fail]; exact ⟨by omega, hr.2, by omega, by omega⟩
      · simp only [decide_eq_false h2, cond_false]
        cases decide (((((i_source_take b (a, g) 1).1).getD 0 0).toNat : Int) < 128) with
        | true =>
          simp only [cond_true, Out.sat]
          cases hq : (i_numBytes (n + z)) == ((b.take ((i_source_take b (a, g) 1).2.1).toNat).drop s.1.toNat)
          · simp only [cond_false, rf_fail]; exact ⟨by omega, hr.2, by omega, by omega⟩
          · simp only [cond_true]; exact ⟨by omega, hr.2, by omega, by omega⟩
        | false =>
          simp only [cond_false, Out.sat]
          rw [wrap_in (n := f * 128) (by omega)]
          refine ⟨⟨by omega, hr.2, by omega, by omega, by omega, by omega, ?_⟩, by omega⟩
          omega
theorem rf_text {b : Str} (o : okS b) (s : Int × Bool) (h : 0 ≤ s.1 ∧ s.1 ≤ (b.length : Int)) : s.1 ≤ (i_source_text b s).2.1 ∧ (i_source_text b s).2.1 ≤ (b.length : Int) := by
  have hn := rf_num o s h
  unfold i_source_text
  by_cases h1 : 60 < (i_source_num b s).1
  · simp only [decide_eq_true h1, cond_true, rf_fail]; omega
  · simp only [decide_eq_false h1, cond_false]
    have ht := rf_take o (i_source_num b s).2 (i_source_num b s).1 ⟨by omega, by omega, by omega, by omega⟩
    omega
theorem one_cases {b : Str} (o : okS b) (s : Int × Bool) (h : 0 ≤ s.1 ∧ s.1 ≤ (b.length : Int)) :
    (s_l1R_one b s = (0, (s.1, true)) ∧ (s.2 = true ∨ (b.length : Int) = s.1)) ∨ (s_l1R_one b s = (((b.getD s.1.toNat 0).toNat : Int), (s.1 + 1, false)) ∧ s.2 = false ∧ s.1 < (b.length : Int)) := by
  unfold okS at o
  unfold s_l1R_one
  cases h2 : s.2 with
  | true => exact .inl ⟨rfl, .inl rfl⟩
  | false =>
    simp only [cond_false]
    by_cases h3 : (b.length : Int) ≤ s.1
    · rw [decide_eq_true h3]; exact .inl ⟨rfl, .inr (by omega)⟩
    · rw [decide_eq_false h3]
      refine .inr ⟨?_, trivial, by omega⟩
      simp only [cond_false]
      rw [wrap_in (n := s.1 + 1) (by omega), wrap_in (n := s.1 + 1 - 1) (by omega), show s.1 + 1 - 1 = s.1 by omega, wrap_in (n := ((b.getD s.1.toNat 0).toNat : Int)) (by have := (b.getD s.1.toNat 0).toNat_lt; omega)]
theorem rf_one {b : Str} (o : okS b) (s : Int × Bool) (h : 0 ≤ s.1 ∧ s.1 ≤ (b.length : Int)) : s.1 ≤ (s_l1R_one b s).2.1 ∧ (s_l1R_one b s).2.1 ≤ (b.length : Int) ∧ (s_l1R_one b s).2.1 ≤ s.1 + 1 ∧ 0 ≤ (s_l1R_one b s).1 ∧ (s_l1R_one b s).1 ≤ 255 := by
  rcases one_cases o s h with ⟨e, _⟩ | ⟨e, _, h2⟩ <;> rw [e] <;> dsimp only
  · omega
  · have := (b.getD s.1.toNat 0).toNat_lt; omega
theorem digit_mul2 {b : Str} (o : okS b) (s : Int × Bool) {f : Int} (h : 0 ≤ s.1 ∧ s.1 ≤ (b.length : Int)) (h1 : 0 ≤ f) (h2 : f ≤ 268435456) : 0 ≤ IntKind.wrap .i64 ((Int.tmod ((s_l1R_one b s).1) 128) * f) ∧ IntKind.wrap .i64 ((Int.tmod ((s_l1R_one b s).1) 128) * f) ≤ 34091302912 := by
  have hr := rf_one o s h
  rw [Int.tmod_eq_emod_of_nonneg (by omega)]
  have hm := mul_rng (a := (s_l1R_one b s).1 % 128) (f := f) (m := 268435456) (by omega) (by omega) h1 h2
  rw [wrap_in (by omega)]; exact ⟨hm.1, by omega⟩
theorem rf_rnum {b : Str} (o : okS b) (s : Int × Bool) (h : 0 ≤ s.1 ∧ s.1 ≤ (b.length : Int)) : s.1 ≤ (s_l1R_num b s).2.1 ∧ (s_l1R_num b s).2.1 ≤ (b.length : Int) ∧ 0 ≤ (s_l1R_num b s).1 ∧ (s_l1R_num b s).1 ≤ 1000000000 := by
  have ho : b.length ≤ 1073741824 := o
  unfold s_l1R_num
  refine loopM_val (fun k (p : Int × Int × Int × Bool) => s.1 ≤ p.2.2.1 ∧ p.2.2.1 ≤ (b.length : Int) ∧ 0 ≤ p.1 ∧ p.1 ≤ 34091302912 * (k : Int) ∧ 0 ≤ p.2.1 ∧ ((k = 0 ∧ p.2.1 = 1) ∨ (k = 1 ∧ p.2.1 = 128) ∨ (k = 2 ∧ p.2.1 = 16384) ∨ (k = 3 ∧ p.2.1 = 2097152) ∨ (k = 4 ∧ p.2.1 = 268435456) ∨ (k = 5 ∧ p.2.1 = 34359738368))) (fun (v : Int × (Int × Bool)) => s.1 ≤ v.2.1 ∧ v.2.1 ≤ (b.length : Int) ∧ 0 ≤ v.1 ∧ v.1 ≤ 1000000000) ⟨Int.le_refl _, h.2, by dsimp only; omega, by dsimp only; omega, by dsimp only; omega, .inl ⟨rfl, rfl⟩⟩ ?_ ?_
  · rintro ⟨n, f, a, g⟩ hI
    dsimp only at hI ⊢
    cases g
    · simp only [cond_false]
      by_cases h1 : (1000000000 : Int) < n
      · simp only [decide_eq_true h1, cond_true]; omega
      · simp only [decide_eq_false h1, cond_false]
        cases hq : (s_l1NumB n) == ((b.take (a).toNat).drop (s.1).toNat)
        · simp only [cond_false]; omega
        · simp only [cond_true]; omega
    · simp only [cond_true]; omega
  · rintro k ⟨n, f, a, g⟩ hk hk2 hI
    dsimp only at hI
    unfold B_s_l1R_num_0
    dsimp only
    have hr := rf_one o (a, g) ⟨by dsimp only; omega, hI.2.1⟩
    dsimp only at hr
    have hm := digit_mul2 o (a, g) (f := f) ⟨by dsimp only; omega, hI.2.1⟩ hI.2.2.2.2.1 (by omega)
    generalize IntKind.wrap .i64 ((Int.tmod ((s_l1R_one b (a, g)).1) 128) * f) = z at hm
    rw [wrap_in (n := n + z) (by omega), wrap_in (n := f * 128) (by omega)]
    by_cases h3 : (s_l1R_one b (a, g)).1 < 128
    · simp only [decide_eq_true h3, cond_true, Out.sat]
      cases (s_l1R_one b (a, g)).2.2
      · simp only [cond_false]
        by_cases h1 : (1000000000 : Int) < n + z
        · simp only [decide_eq_true h1, cond_true]; omega
        · simp only [decide_eq_false h1, cond_false]
          cases hq : (s_l1NumB (n + z)) == ((b.take ((s_l1R_one b (a, g)).2.1).toNat).drop (s.1).toNat)
          · simp only [cond_false]; omega
          · simp only [cond_true]; omega
      · simp only [cond_true]; omega
    · simp only [decide_eq_false h3, cond_false, Out.sat]
      omega
theorem rf_rtext {b : Str} (o : okS b) (s : Int × Bool) (h : 0 ≤ s.1 ∧ s.1 ≤ (b.length : Int)) : s.1 ≤ (s_l1R_text b s).2.1 ∧ (s_l1R_text b s).2.1 ≤ (b.length : Int) := by
  have ho : b.length ≤ 1073741824 := o
  have hn := rf_rnum o s h
  unfold s_l1R_text
  cases ((s_l1R_num b s).2).2
  · simp only [cond_false]
    by_cases h1 : 60 < (s_l1R_num b s).1
    · simp only [decide_eq_true h1, cond_true]; omega
    · simp only [decide_eq_false h1, cond_false]
      rw [wrap_in (n := (s_l1R_num b s).2.1 + (s_l1R_num b s).1) (by omega)]
      by_cases h2 : (b.length : Int) < (s_l1R_num b s).2.1 + (s_l1R_num b s).1
      · simp only [decide_eq_true h2, cond_true]; omega
      · simp only [decide_eq_false h2, cond_false]; omega
  · simp only [cond_true]; omega

def nb : Nat → Nat → Str
  | 0, n => [n.toUInt8]
  | f + 1, n => if n < 128 then [n.toUInt8] else (n % 128 + 128).toUInt8 :: nb f (n / 128)
theorem numBytes_loop (a : Int) : ∀ (f n m : Nat) (x : List Int), n < 128 ^ (f + 1) → n ≤ 1073741824 → n < m → loopE (loopW (B_i_numBytes_0 a) m ((n : Int), x)) (fun r => r) (fun (x27, x28) => toS (x28 ++ ([IntKind.wrap .u8 x27] : List Int))) = toS x ++ nb f n
  | f, n, 0, x, _, _, h => absurd h (Nat.not_lt_zero _)
  | f, n, m + 1, x, h, hb, hm => by
    have hs : ∀ y : List Int, toS (x ++ y) = toS x ++ toS y := fun y => List.map_append ..
    by_cases h1 : (128 : Int) ≤ (n : Int)
    · have hf : ∃ g, f = g + 1 := by cases f with | zero => simp at h; omega | succ g => exact ⟨g, rfl⟩
      obtain ⟨g, rfl⟩ := hf
      have hq : IntKind.wrap .i64 (Int.tdiv (n : Int) 128) = ((n / 128 : Nat) : Int) := by
        rw [Int.tdiv_eq_ediv_of_nonneg (by omega), wrap_in (by omega)]; omega
      have hB : B_i_numBytes_0 a ((n : Int), x) = .cont (((n / 128 : Nat) : Int), (x ++ ([IntKind.wrap .u8 ((IntKind.wrap .u8 (Int.tmod (n : Int) 128)) + 128)] : List Int))) := by
        unfold B_i_numBytes_0; dsimp only; rw [decide_eq_true h1, hq]; rfl
      rw [loopW.cont hm hB, Nat.add_sub_cancel, numBytes_loop a g (n / 128) m _ (by rw [Nat.div_lt_iff_lt_mul (by decide)]; rw [Nat.pow_succ] at h; exact h) (by omega) (by omega), hs]
      have hd : toS [IntKind.wrap .u8 ((IntKind.wrap .u8 (Int.tmod (n : Int) 128)) + 128)] = [(n % 128 + 128).toUInt8] := by
        rw [Int.tmod_eq_emod_of_nonneg (by omega), u8_mod, u8_mod]
        show [UInt8.ofNat _] = [UInt8.ofNat _]
        congr 2; omega
      rw [hd, List.append_assoc]
      congr 1
      show _ = nb (g + 1) n
      conv => rhs; unfold nb
      rw [if_neg (by omega)]; rfl
    · have hB : B_i_numBytes_0 a ((n : Int), x) = .brk ((n : Int), x) := by
        unfold B_i_numBytes_0; dsimp only; rw [decide_eq_false h1]; rfl
      rw [loopW.brk hm hB]
      show toS (x ++ [IntKind.wrap .u8 (n : Int)]) = _
      rw [hs]
      have hd : toS [IntKind.wrap .u8 (n : Int)] = [n.toUInt8] := by
        rw [u8_mod]
        show [UInt8.ofNat _] = [UInt8.ofNat _]
        congr 2; omega
      rw [hd]
      congr 1
      cases f with
      | zero => rfl
      | succ g => unfold nb; rw [if_pos (by omega)]
theorem numBytes_nb {n : Nat} (h : n ≤ 1000000000) : i_numBytes (n : Int) = nb 4 n := by
  unfold i_numBytes
  rw [numBytes_loop _ 4 n _ [] (by omega) (by omega) (by omega)]; rfl
theorem nb_pos (f n : Nat) : 0 < (nb f n).length := by
  cases f with
  | zero => exact Nat.one_pos
  | succ f => unfold nb; split <;> simp
theorem drop_tail {b : Str} {a : Nat} {c : UInt8} {r : Str} (h : b.drop a = c :: r) : a < b.length ∧ b.drop (a + 1) = r ∧ b.getD a 0 = c := by
  have hl : a < b.length := by
    have := congrArg List.length h
    rw [List.length_drop, List.length_cons] at this; omega
  rw [List.drop_eq_getElem_cons hl] at h
  injection h with h1 h2
  exact ⟨hl, h2, by rw [← h1]; simp [List.getD, List.getElem?_eq_getElem hl]⟩
theorem take_one {b : Str} (o : okS b) {a : Nat} {c : UInt8} {r : Str} (h : b.drop a = c :: r) : i_source_take b ((a : Int), false) 1 = ([c], (((a + 1 : Nat) : Int), false)) := by
  have hd := drop_tail h
  rcases take_cases o ((a : Int), false) 1 ⟨by dsimp only; omega, by dsimp only; omega, by decide, by decide⟩ with ⟨_, h2⟩ | ⟨e, _, _⟩
  · rcases h2 with h2 | h2
    · cases h2
    · dsimp only at h2; omega
  · rw [e]; dsimp only
    rw [Int.toNat_natCast, h]; rfl
theorem one_one {b : Str} (o : okS b) {a : Nat} {c : UInt8} {r : Str} (h : b.drop a = c :: r) : s_l1R_one b ((a : Int), false) = ((c.toNat : Int), (((a + 1 : Nat) : Int), false)) := by
  have hd := drop_tail h
  rcases one_cases o ((a : Int), false) ⟨by dsimp only; omega, by dsimp only; omega⟩ with ⟨_, h2⟩ | ⟨e, _, _⟩
  · rcases h2 with h2 | h2
    · cases h2
    · dsimp only at h2; omega
  · rw [e]; dsimp only
    rw [Int.toNat_natCast, hd.2.2]; rfl
theorem digit_step {m F : Nat} : m * F = (m % 128) * F + (m / 128) * (F * 128) := by
  conv => lhs; rw [← Nat.div_add_mod m 128]
  rw [Nat.add_mul, Nat.add_comm, Nat.mul_comm 128, Nat.mul_assoc, Nat.mul_comm 128]
theorem nb_cons (f m : Nat) : ∃ c r, nb f m = c :: r := by
  cases h : nb f m with
  | nil => have := nb_pos f m; rw [h] at this; cases this
  | cons c r => exact ⟨c, r, rfl⟩
theorem nb_last {f m : Nat} {c : UInt8} {r : Str} (h : m < 128) (hc : nb f m = c :: r) : c.toNat = m ∧ r = [] := by
  have hcm : c = m.toUInt8 ∧ r = [] := by
    cases f with
    | zero => injection hc with h1 h2; exact ⟨h1.symm, h2.symm⟩
    | succ g => unfold nb at hc; rw [if_pos h] at hc; injection hc with h1 h2; exact ⟨h1.symm, h2.symm⟩
  refine ⟨?_, hcm.2⟩
  rw [hcm.1]; simp [Nat.toUInt8]; omega
theorem nb_more {g m : Nat} {c : UInt8} {r : Str} (h : ¬ m < 128) (hc : nb (g + 1) m = c :: r) : c.toNat = m % 128 + 128 ∧ r = nb g (m / 128) := by
  unfold nb at hc; rw [if_neg h] at hc; injection hc with h1 h2
  refine ⟨?_, h2.symm⟩
  rw [← h1]; simp [Nat.toUInt8]; omega
theorem digit_next {m F n N : Nat} (h : n + m * F = N) (hm : ¬ m < 128) (hN : N ≤ 1000000000) : F * 128 ≤ 1000000000 ∧ n + (m % 128) * F + (m / 128) * (F * 128) = N ∧ n + (m % 128) * F ≤ N := by
  have hst := digit_step (m := m) (F := F)
  have h1 : 1 ≤ m / 128 := by omega
  have h2 : 1 * (F * 128) ≤ (m / 128) * (F * 128) := Nat.mul_le_mul_right _ h1
  omega
theorem num_loop {b : Str} (o : okS b) (s : Int × Bool) {post : Str} {N : Nat} (hN : N ≤ 1000000000) : ∀ (f m F i a n mu : Nat), n + m * F = N → F ≤ 1000000000 → b.drop a = nb f m ++ post → m < 128 ^ (f + 1) → s.1 = ((a - i : Nat) : Int) → i ≤ a → i + f ≤ 4 → f < mu → ∃ F' : Int, loopW (B_i_source_num_0 b s) mu ((n : Int), (F : Int), (a : Int), false) = .done ((N : Int), F', ((a + (nb f m).length : Nat) : Int), false)
  | f, m, F, i, a, n, 0, _, _, _, _, _, _, _, h => absurd h (Nat.not_lt_zero _)
  | f, m, F, i, a, n, mu + 1, hn, hF, hb, hm, hs, hia, hi, hmu => by
    have ho : b.length ≤ 1073741824 := o
    obtain ⟨c, r, hc⟩ := nb_cons f m
    have hb2 : b.drop a = c :: (r ++ post) := by rw [hb, hc]; rfl
    have ht := take_one o hb2
    have hd := drop_tail hb2
    have hg : ([c] : Str).getD 0 0 = c := rfl
    have hc8 := c.toNat_lt
    have hw : IntKind.wrap .i64 (Int.tmod (c.toNat : Int) 128) = ((c.toNat % 128 : Nat) : Int) := by
      rw [Int.tmod_eq_emod_of_nonneg (by omega), wrap_in (by omega)]; omega
    have e2 : ¬ (5 : Int) < ((a + 1 : Nat) : Int) - s.1 := by rw [hs]; omega
    by_cases h128 : m < 128
    · obtain ⟨hcn, hr⟩ := nb_last h128 hc
      have hmul : ((c.toNat % 128 : Nat) : Int) * (F : Int) = ((m * F : Nat) : Int) := by
        rw [hcn, Nat.mod_eq_of_lt h128]; exact (Int.natCast_mul ..).symm
      have e1 : ¬ (1000000000 : Int) < (n : Int) + ((m * F : Nat) : Int) := by omega
      have e3 : ((c.toNat : Nat) : Int) < 128 := by omega
      have hB : B_i_source_num_0 b s ((n : Int), (F : Int), (a : Int), false) = .brk ((n : Int) + ((m * F : Nat) : Int), (F : Int), ((a + 1 : Nat) : Int), false) := by
        unfold B_i_source_num_0
        dsimp only
        rw [ht]
        dsimp only [cond_false]
        rw [hg, hw, hmul, wrap_in (n := ((m * F : Nat) : Int)) (by omega), wrap_in (n := (n : Int) + _) (by omega), wrap_in (n := (((a + 1 : Nat) : Int)) - s.1) (by rw [hs]; omega), decide_eq_false e1, decide_eq_false e2, decide_eq_true e3]
        rfl
      refine ⟨(F : Int), ?_⟩
      rw [loopW.brk hmu hB, hc, hr]
      congr 2
      omega
    · have hg' : ∃ g, f = g + 1 := by
        cases f with
        | zero => simp at hm; omega
        | succ g => exact ⟨g, rfl⟩
      obtain ⟨g, rfl⟩ := hg'
      obtain ⟨hcn, hr⟩ := nb_more h128 hc
      obtain ⟨n1, n2, n3⟩ := digit_next hn h128 hN
      have hmul : ((c.toNat % 128 : Nat) : Int) * (F : Int) = (((m % 128) * F : Nat) : Int) := by
        rw [hcn, show (m % 128 + 128) % 128 = m % 128 by omega]; exact (Int.natCast_mul ..).symm
      have e1 : ¬ (1000000000 : Int) < (n : Int) + (((m % 128) * F : Nat) : Int) := by omega
      have e3 : ¬ ((c.toNat : Nat) : Int) < 128 := by omega
      have hB : B_i_source_num_0 b s ((n : Int), (F : Int), (a : Int), false) = .cont (((n + (m % 128) * F : Nat) : Int), ((F * 128 : Nat) : Int), ((a + 1 : Nat) : Int), false) := by
        unfold B_i_source_num_0
        dsimp only
        rw [ht]
        dsimp only [cond_false]
        rw [hg, hw, hmul, wrap_in (n := (((m % 128) * F : Nat) : Int)) (by omega), wrap_in (n := (n : Int) + _) (by omega), wrap_in (n := (((a + 1 : Nat) : Int)) - s.1) (by rw [hs]; omega), wrap_in (n := (F : Int) * 128) (by omega), decide_eq_false e1, decide_eq_false e2, decide_eq_false e3]
        dsimp only [cond_false]
        congr 2
      obtain ⟨F', ih⟩ := num_loop o s (post := post) hN g (m / 128) (F * 128) (i + 1) (a + 1) (n + (m % 128) * F) mu n2 n1 (by rw [hd.2.1, hr]) (by rw [Nat.div_lt_iff_lt_mul (by decide)]; rw [Nat.pow_succ] at hm; exact hm) (by rw [hs]; congr 1; omega) (by omega) (by omega) (by omega)
      refine ⟨F', ?_⟩
      rw [loopW.cont hmu hB, Nat.add_sub_cancel, ih, hc, hr]
      congr 4
      rw [List.length_cons]; omega
theorem rnum_loop {b : Str} (o : okS b) (s : Int × Bool) {post : Str} {N : Nat} (hN : N ≤ 1000000000) : ∀ (f m F i a n : Nat), n + m * F = N → F ≤ 1000000000 → b.drop a = nb f m ++ post → m < 128 ^ (f + 1) → i + f ≤ 4 → ∃ F' : Int, loopM (B_s_l1R_num_0 b s) (5 - i) i ((n : Int), (F : Int), (a : Int), false) = .done ((N : Int), F', ((a + (nb f m).length : Nat) : Int), false)
  | f, m, F, i, a, n, hn, hF, hb, hm, hi => by
    have ho : b.length ≤ 1073741824 := o
    obtain ⟨c, r, hc⟩ := nb_cons f m
    have hb2 : b.drop a = c :: (r ++ post) := by rw [hb, hc]; rfl
    have ht := one_one o hb2
    have hd := drop_tail hb2
    have hc8 := c.toNat_lt
    have hw : Int.tmod (c.toNat : Int) 128 = ((c.toNat % 128 : Nat) : Int) := by
      rw [Int.tmod_eq_emod_of_nonneg (by omega)]; omega
    by_cases h128 : m < 128
    · obtain ⟨hcn, hr⟩ := nb_last h128 hc
      have hmul : ((c.toNat % 128 : Nat) : Int) * (F : Int) = ((m * F : Nat) : Int) := by
        rw [hcn, Nat.mod_eq_of_lt h128]; exact (Int.natCast_mul ..).symm
      have e3 : ((c.toNat : Nat) : Int) < 128 := by omega
      have hB : B_s_l1R_num_0 b s i ((n : Int), (F : Int), (a : Int), false) = .brk ((n : Int) + ((m * F : Nat) : Int), (F : Int) * 128, ((a + 1 : Nat) : Int), false) := by
        unfold B_s_l1R_num_0
        dsimp only
        rw [ht]
        dsimp only
        rw [hw, hmul, wrap_in (n := ((m * F : Nat) : Int)) (by omega), wrap_in (n := (n : Int) + _) (by omega), wrap_in (n := (F : Int) * 128) (by omega), decide_eq_true e3]
        rfl
      refine ⟨(F : Int) * 128, ?_⟩
      rw [loopM.brk (by omega) hB, hc, hr]
      congr 2
      omega
    · have hg' : ∃ g, f = g + 1 := by
        cases f with
        | zero => simp at hm; omega
        | succ g => exact ⟨g, rfl⟩
      obtain ⟨g, rfl⟩ := hg'
      obtain ⟨hcn, hr⟩ := nb_more h128 hc
      obtain ⟨n1, n2, n3⟩ := digit_next hn h128 hN
      have hmul : ((c.toNat % 128 : Nat) : Int) * (F : Int) = (((m % 128) * F : Nat) : Int) := by
        rw [hcn, show (m % 128 + 128) % 128 = m % 128 by omega]; exact (Int.natCast_mul ..).symm
      have e3 : ¬ ((c.toNat : Nat) : Int) < 128 := by omega
      have hB : B_s_l1R_num_0 b s i ((n : Int), (F : Int), (a : Int), false) = .cont (((n + (m % 128) * F : Nat) : Int), ((F * 128 : Nat) : Int), ((a + 1 : Nat) : Int), false) := by
        unfold B_s_l1R_num_0
        dsimp only
        rw [ht]
        dsimp only
        rw [hw, hmul, wrap_in (n := (((m % 128) * F : Nat) : Int)) (by omega), wrap_in (n := (n : Int) + _) (by omega), wrap_in (n := (F : Int) * 128) (by omega), decide_eq_false e3]
        dsimp only [cond_false]
        congr 2
      obtain ⟨F', ih⟩ := rnum_loop o s (post := post) hN g (m / 128) (F * 128) (i + 1) (a + 1) (n + (m % 128) * F) n2 n1 (by rw [hd.2.1, hr]) (by rw [Nat.div_lt_iff_lt_mul (by decide)]; rw [Nat.pow_succ] at hm; exact hm) (by omega)
      refine ⟨F', ?_⟩
      rw [loopM.cont (by omega) hB, ih, hc, hr]
      congr 4
      rw [List.length_cons]; omega
theorem take_part {b x post : Str} {a : Nat} (h : b.drop a = x ++ post) : (b.take (a + x.length)).drop a = x := by
  rw [List.drop_take, h, Nat.add_sub_cancel_left, List.take_left']
  rfl
theorem num_back {b : Str} (o : okS b) {post : Str} {N a : Nat} (hN : N ≤ 1000000000) (h : b.drop a = i_numBytes (N : Int) ++ post) : i_source_num b ((a : Int), false) = ((N : Int), (((a + (i_numBytes (N : Int)).length : Nat) : Int), false)) := by
  rw [numBytes_nb hN] at h ⊢
  obtain ⟨F', hl⟩ := num_loop o ((a : Int), false) hN 4 N 1 0 a 0 7 (by omega) (by omega) h (by omega) rfl (Nat.zero_le _) (by omega) (by omega)
  unfold i_source_num
  rw [show ((6 - (((a : Int), false).1 - ((a : Int), false).1)).toNat + 1) = 7 by dsimp only; omega]
  dsimp only
  rw [show ((0 : Int), (1 : Int), (a : Int), false) = (((0 : Nat) : Int), ((1 : Nat) : Int), (a : Int), false) from rfl, hl, loopE_done]
  dsimp only
  rw [Int.toNat_natCast, Int.toNat_natCast, take_part h, numBytes_nb hN, beq_self_eq_true]
  rfl
theorem rnum_back {b : Str} (o : okS b) {post : Str} {N a : Nat} (hN : N ≤ 1000000000) (h : b.drop a = i_numBytes (N : Int) ++ post) : s_l1R_num b ((a : Int), false) = ((N : Int), (((a + (i_numBytes (N : Int)).length : Nat) : Int), false)) := by
  rw [numBytes_nb hN] at h ⊢
  obtain ⟨F', hl⟩ := rnum_loop o ((a : Int), false) hN 4 N 1 0 a 0 (by omega) (by omega) h (by omega) (by omega)
  unfold s_l1R_num
  dsimp only
  rw [show ((0 : Int), (1 : Int), (a : Int), false) = (((0 : Nat) : Int), ((1 : Nat) : Int), (a : Int), false) from rfl, hl, loopE_done]
  dsimp only
  have e1 : ¬ (1000000000 : Int) < (N : Int) := by omega
  rw [Int.toNat_natCast, Int.toNat_natCast, take_part h, ← numBytes_eq, numBytes_nb hN, beq_self_eq_true, decide_eq_false e1]
  rfl
theorem drop_more {b x post : Str} {a : Nat} (h : b.drop a = x ++ post) : b.drop (a + x.length) = post := by
  rw [← List.drop_drop, h, List.drop_left']
  rfl
theorem text_back {b : Str} (o : okS b) {post t : Str} {a : Nat} (ht : t.length ≤ 60) (hl : a + (i_textBytes t).length ≤ b.length) (h : b.drop a = i_textBytes t ++ post) : i_source_text b ((a : Int), false) = (t, (((a + (i_textBytes t).length : Nat) : Int), false)) := by
  have ho : b.length ≤ 1073741824 := o
  unfold i_textBytes at h hl ⊢
  rw [List.append_assoc] at h
  rw [List.length_append] at hl
  have hn := num_back o (by omega) h
  have hd := drop_more h
  unfold i_source_text
  rw [hn]
  dsimp only
  rw [decide_eq_false (by omega), cond_false]
  rcases take_cases o (((a + (i_numBytes (t.length : Int)).length : Nat) : Int), false) (t.length : Int) ⟨by dsimp only; omega, by dsimp only; omega, by omega, by omega⟩ with ⟨_, h2⟩ | ⟨e, _, _⟩
  · rcases h2 with h2 | h2
    · cases h2
    · dsimp only at h2; omega
  · rw [e]; dsimp only
    rw [Int.toNat_natCast, Int.toNat_natCast, hd, List.take_left' rfl, List.length_append]
    congr 2; omega
theorem rtext_back {b : Str} (o : okS b) {post t : Str} {a : Nat} (ht : t.length ≤ 60) (hl : a + (i_textBytes t).length ≤ b.length) (h : b.drop a = i_textBytes t ++ post) : s_l1R_text b ((a : Int), false) = (t, (((a + (i_textBytes t).length : Nat) : Int), false)) := by
  have ho : b.length ≤ 1073741824 := o
  unfold i_textBytes at h hl ⊢
  rw [List.append_assoc] at h
  rw [List.length_append] at hl
  have hn := rnum_back o (by omega) h
  have hd := drop_more h
  unfold s_l1R_text
  rw [hn]
  dsimp only [cond_false]
  rw [decide_eq_false (by omega), cond_false, wrap_in (by omega), decide_eq_false (by omega), cond_false, wrap_in (by omega), List.drop_take]
  rw [show (((a + (i_numBytes (t.length : Int)).length : Nat) : Int) + (t.length : Int) - (t.length : Int)).toNat = a + (i_numBytes (t.length : Int)).length by omega, hd, show (((a + (i_numBytes (t.length : Int)).length : Nat) : Int) + (t.length : Int)).toNat - (a + (i_numBytes (t.length : Int)).length) = t.length by omega, List.take_left' rfl, List.length_append]
  congr 2; omega

theorem okS_OpenSeal {b : Str} (o : okS b) : okS (i_OpenSeal b).1 := by
  unfold okS at *
  unfold i_OpenSeal
  cases i_within (b.length : Int) 3 6000
  · exact Nat.zero_le _
  · dsimp only [cond_true]
    cases (i_seal (b.take ((IntKind.wrap .i64 ((b.length : Int) - 3)).toNat))) == b
    · exact Nat.zero_le _
    · dsimp only [cond_true]; rw [List.length_take]; omega
theorem okS_sOpenSeal {b : Str} (o : okS b) : okS (s_OpenSeal b).1 := by
  unfold okS at *
  unfold s_OpenSeal
  cases decide ((IntKind.wrap .i64 ((b.length : Int) - 3)) < 0)
  · cases decide (6000 < (b.length : Int))
    · dsimp only [cond_false]
      cases (s_l1Seal (b.take ((IntKind.wrap .i64 ((b.length : Int) - 3)).toNat))) == b
      · exact Nat.zero_le _
      · dsimp only [cond_true]; rw [List.length_take]; omega
    · exact Nat.zero_le _
  · exact Nat.zero_le _
theorem seal_take (x : Str) : (i_seal x).take x.length = x := by
  unfold i_seal
  exact List.take_left' rfl
theorem OpenSeal_seal {x : Str} (h : x.length ≤ 5997) : i_OpenSeal (i_seal x) = (x, true) := by
  unfold i_OpenSeal
  have hl := rf_seal x
  have hw : i_within ((i_seal x).length : Int) 3 6000 = true := by
    unfold i_within
    rw [hl, decide_eq_true (by omega), cond_true, decide_eq_true (by omega)]
  rw [hw, cond_true, wrap_in (by omega), show (((i_seal x).length : Int) - 3).toNat = x.length by omega, seal_take, beq_self_eq_true, cond_true]
theorem sOpenSeal_seal {x : Str} (h : x.length ≤ 5997) : s_OpenSeal (i_seal x) = (x, true) := by
  unfold s_OpenSeal
  have hl := rf_seal x
  rw [wrap_in (by omega), decide_eq_false (by omega), cond_false, decide_eq_false (by omega), cond_false, show (((i_seal x).length : Int) - 3).toNat = x.length by omega, seal_take, ← seal_eq, beq_self_eq_true, cond_true]
def diffIn (d : DDiff) : Str := (((i_numBytes d.From) ++ (i_numBytes d.To)) ++ (i_numBytes (d.List.length : Int))) ++ (d.List.map itemB).flatten
theorem diffBytes_seal (d : DDiff) : i_diffBytes d = i_seal (diffIn d) := by
  unfold i_diffBytes diffIn
  rw [catE (body := B_i_diffBytes_0 d) (xs := d.List) d_FeedItem itemB fun k x _ => rfl]
def itemOk (c : DFeedItem) : Prop := 0 ≤ c.Time ∧ c.Time ≤ 100000 ∧ c.Key.length ≤ 12 ∧ c.Val.length ≤ 24 ∧ c.Group = 0
theorem diff_items {d : DDiff} (h : i_GoodDiff d = true) : (d.List.length ≤ 60 ∧ 0 ≤ d.From ∧ d.From ≤ 100000 ∧ 0 ≤ d.To ∧ d.To ≤ 100000) ∧ ∀ c ∈ d.List, itemOk c := by
  have h1 := f_i_GoodDiff h
  refine ⟨h1.1, fun c hc => ?_⟩
  obtain ⟨k, hk, rfl⟩ := List.getElem_of_mem hc
  have h2 := h1.2 k hk
  rw [getD_eq hk] at h2
  refine ⟨h2.1.1, h2.1.2, h2.2.1, h2.2.2, ?_⟩
  have hw : wfI d.From := by have := h1.1; unfold wfI; omega
  have h3 := GoodDiff_eq d hw
  unfold s_GoodDiff at h3
  rw [h, l31Diff_eq d hw] at h3
  have h4 := h3.symm
  simp only [Bool.and_eq_true] at h4
  have h5 := List.all_eq_true.1 h4.2 _ hc
  unfold inDiff at h5
  simp only [Bool.and_eq_true, decide_eq_true_eq] at h5
  exact h5.1.1
theorem item_split {x : Str} {c : DFeedItem} {cs : List DFeedItem} {a : Nat} (hc : itemOk c) (h : x.drop a = ((c :: cs).map itemB).flatten) (hl : a + ((c :: cs).map itemB).flatten.length ≤ x.length) :
    ∃ T a1 a2 a4 : Nat, c.Time = (T : Int) ∧ T ≤ 100000 ∧ a1 = a + (i_numBytes (T : Int)).length ∧ a2 = a1 + (i_textBytes c.Key).length ∧ a4 = a2 + 1 + (i_textBytes c.Val).length ∧
    x.drop a = i_numBytes (T : Int) ++ (i_textBytes c.Key ++ (i_flagByte c.Gone ++ (i_textBytes c.Val ++ (cs.map itemB).flatten))) ∧ x.drop a1 = i_textBytes c.Key ++ (i_flagByte c.Gone ++ (i_textBytes c.Val ++ (cs.map itemB).flatten)) ∧ x.drop a2 = (bif c.Gone then 1 else 0 : UInt8) :: (i_textBytes c.Val ++ (cs.map itemB).flatten) ∧ x.drop (a2 + 1) = i_textBytes c.Val ++ (cs.map itemB).flatten ∧ x.drop a4 = (cs.map itemB).flatten ∧
    a4 + (cs.map itemB).flatten.length ≤ x.length ∧ a4 + (cs.map itemB).flatten.length = a + ((c :: cs).map itemB).flatten.length := by
  unfold itemOk at hc
  have e : ((c :: cs).map itemB).flatten = i_numBytes c.Time ++ (i_textBytes c.Key ++ (i_flagByte c.Gone ++ (i_textBytes c.Val ++ (cs.map itemB).flatten))) := by
    rw [List.map_cons, List.flatten_cons]; unfold itemB; simp only [List.append_assoc]
  have hT : c.Time = ((c.Time.toNat : Nat) : Int) := by omega
  rw [e] at h hl
  rw [hT] at h hl e
  have h1 := drop_more h
  have h2 := drop_more h1
  have h3 := drop_more h2
  have h4 := drop_more h3
  have hf := rf_flagByte c.Gone
  rw [hf] at h3 h4
  simp only [List.length_append, hf] at hl
  have hfl : ∀ r : Str, i_flagByte c.Gone ++ r = (bif c.Gone then 1 else 0 : UInt8) :: r := by intro r; cases c.Gone <;> rfl
  refine ⟨c.Time.toNat, _, _, _, hT, by omega, rfl, rfl, rfl, h, h1, by rw [h2, hfl], h3, h4, by omega, by rw [e]; simp only [List.length_append, hf]; omega⟩
theorem items_loop {b x : Str} (o : okS x) (hx : (i_OpenSeal b).1 = x) : ∀ (cs : List DFeedItem) (a mu : Nat) (acc : List DFeedItem), (∀ c ∈ cs, itemOk c) → x.drop a = (cs.map itemB).flatten → a + (cs.map itemB).flatten.length ≤ x.length → cs.length < mu → cs.length ≤ 1000 →
    loopW (B_i_ReadDiff_0 b) mu ((cs.length : Int), (a : Int), false, acc) = .done (0, ((a + (cs.map itemB).flatten.length : Nat) : Int), false, acc ++ cs)
  | cs, a, 0, acc, _, _, _, h, _ => absurd h (Nat.not_lt_zero _)
  | [], a, mu + 1, acc, _, _, _, hm, _ => by
    have hB : B_i_ReadDiff_0 b (((0 : Nat) : Int), (a : Int), false, acc) = .brk (0, (a : Int), false, acc) := by
      unfold B_i_ReadDiff_0; dsimp only; rw [decide_eq_false (by omega)]; rfl
    have := loopW.brk (n := 0) hm hB
    rw [List.length_nil, this]
    simp
  | c :: cs, a, mu + 1, acc, hw, hd, hl, hm, hn => by
    have hk := hw c (by simp)
    obtain ⟨T, a1, a2, a4, hT, hT2, e1, e2, e4, d1, d2, d3, d4, d5, l1, l2⟩ := item_split hk hd hl
    unfold itemOk at hk
    have t1 := num_back o (by omega) d1
    rw [← e1] at t1
    have t2 := text_back o (t := c.Key) (by omega) (by omega) d2
    rw [← e2] at t2
    have t3 := take_one o d3
    have t4 := text_back o (t := c.Val) (by omega) (by omega) d4
    rw [← e4] at t4
    have hg : (([(bif c.Gone then 1 else 0 : UInt8)] : Str) == ([1] : Str)) = c.Gone := by cases c.Gone <;> rfl
    have hB : B_i_ReadDiff_0 b (((c :: cs).length : Int), (a : Int), false, acc) = .cont ((cs.length : Int), (a4 : Int), false, acc ++ [c]) := by
      unfold B_i_ReadDiff_0
      dsimp only
      rw [decide_eq_true (by rw [List.length_cons]; omega), cond_true, hx, t1]
      dsimp only
      rw [t2]
      dsimp only
      rw [t3]
      dsimp only
      rw [t4, wrap_in (by omega), List.length_cons, hg]
      dsimp only [cond_false]
      rw [show ((cs.length + 1 : Nat) : Int) - 1 = (cs.length : Int) by omega]
      have : (⟨(T : Int), 0, c.Key, c.Val, c.Gone⟩ : DFeedItem) = c := by rw [← hT, ← hk.2.2.2.2]
      rw [this]
    rw [loopW.cont hm hB, Nat.add_sub_cancel, items_loop o hx cs _ mu _ (fun y hy => hw y (by simp [hy])) d5 l1 (by rw [List.length_cons] at hm; omega) (by rw [List.length_cons] at hn; omega), l2, List.append_assoc]
    rfl
theorem sitems_loop {b x : Str} (o : okS x) (hx : (s_OpenSeal b).1 = x) {n : Nat} (hn : (s_l1R_num x ((s_l1R_num x ((s_l1R_num x (0, false)).2)).2)).1 = (n : Int)) (hn2 : n ≤ 60) : ∀ (cs : List DFeedItem) (i a mu : Nat) (acc : List DFeedItem), (∀ c ∈ cs, itemOk c) → x.drop a = (cs.map itemB).flatten → a + (cs.map itemB).flatten.length ≤ x.length → cs.length < mu → i + cs.length = n →
    loopW (B_s_ReadDiff_0 b) mu ((i : Int), (a : Int), false, acc) = .done ((n : Int), ((a + (cs.map itemB).flatten.length : Nat) : Int), false, acc ++ cs)
  | cs, i, a, 0, acc, _, _, _, h, _ => absurd h (Nat.not_lt_zero _)
  | [], i, a, mu + 1, acc, _, _, _, hm, hi => by
    have hi : i = n := hi
    subst hi
    have hB : B_s_ReadDiff_0 b ((i : Int), (a : Int), false, acc) = .brk ((i : Int), (a : Int), false, acc) := by
      unfold B_s_ReadDiff_0; dsimp only; rw [hx, hn, decide_eq_false (by omega)]; rfl
    rw [loopW.brk (n := 0) hm hB]
    simp
  | c :: cs, i, a, mu + 1, acc, hw, hd, hl, hm, hi => by
    have hk := hw c (by simp)
    obtain ⟨T, a1, a2, a4, hT, hT2, e1, e2, e4, d1, d2, d3, d4, d5, l1, l2⟩ := item_split hk hd hl
    unfold itemOk at hk
    rw [List.length_cons] at hi
    have t1 := rnum_back o (by omega) d1
    rw [← e1] at t1
    have t2 := rtext_back o (t := c.Key) (by omega) (by omega) d2
    rw [← e2] at t2
    have t3 := one_one o d3
    have t4 := rtext_back o (t := c.Val) (by omega) (by omega) d4
    rw [← e4] at t4
    have hg : decide (((bif c.Gone then 1 else 0 : UInt8).toNat : Int) = 1) = c.Gone := by cases c.Gone <;> rfl
    have hB : B_s_ReadDiff_0 b ((i : Int), (a : Int), false, acc) = .cont (((i + 1 : Nat) : Int), (a4 : Int), false, acc ++ [c]) := by
      unfold B_s_ReadDiff_0
      dsimp only
      rw [hx, hn, decide_eq_true (by omega), cond_true, decide_eq_true (by omega), cond_true, t1]
      dsimp only
      rw [t2]
      dsimp only
      rw [t3]
      dsimp only
      rw [t4, wrap_in (by omega), hg]
      dsimp only [cond_false]
      have : (⟨(T : Int), 0, c.Key, c.Val, c.Gone⟩ : DFeedItem) = c := by rw [← hT, ← hk.2.2.2.2]
      rw [this]
      rfl
    rw [loopW.cont hm hB, Nat.add_sub_cancel, sitems_loop o hx hn hn2 cs (i + 1) _ mu _ (fun y hy => hw y (by simp [hy])) d5 l1 (by rw [List.length_cons] at hm; omega) (by omega), l2, List.append_assoc]
    rfl
theorem diff_nums {d : DDiff} (h : i_GoodDiff d = true) : ∃ F T : Nat, d.From = (F : Int) ∧ d.To = (T : Int) ∧ F ≤ 1000000000 ∧ T ≤ 1000000000 := ⟨d.From.toNat, d.To.toNat, by have := (diff_items h).1; omega, by have := (diff_items h).1; omega, by have := (diff_items h).1; omega, by have := (diff_items h).1; omega⟩
theorem diff_cuts {d : DDiff} {F T : Nat} (hF : d.From = (F : Int)) (hT : d.To = (T : Int)) : (diffIn d).drop 0 = i_numBytes (F : Int) ++ (i_numBytes (T : Int) ++ (i_numBytes (d.List.length : Int) ++ (d.List.map itemB).flatten)) ∧
    (diffIn d).length = (i_numBytes (F : Int)).length + (i_numBytes (T : Int)).length + (i_numBytes (d.List.length : Int)).length + (d.List.map itemB).flatten.length := by
  rw [List.drop_zero, ← hF, ← hT]; unfold diffIn
  exact ⟨by simp only [List.append_assoc], by simp only [List.length_append]⟩
theorem diff_back {d : DDiff} (h : i_GoodDiff d = true) (hl : (i_diffBytes d).length ≤ 6000) : i_ReadDiff (i_diffBytes d) = (d, true) := by
  obtain ⟨h1, h2⟩ := diff_items h
  obtain ⟨F, T, hF, hT, hF2, hT2⟩ := diff_nums h
  rw [diffBytes_seal, rf_seal] at hl
  have hO : i_OpenSeal (i_diffBytes d) = (diffIn d, true) := by rw [diffBytes_seal]; exact OpenSeal_seal (by omega)
  have o : okS (diffIn d) := by unfold okS; omega
  obtain ⟨d0, hlen⟩ := diff_cuts hF hT
  have n1 := num_back o hF2 d0
  rw [Nat.zero_add] at n1
  have d1 := drop_more d0
  rw [Nat.zero_add] at d1
  have n2 := num_back o hT2 d1
  have d2 := drop_more d1
  have n3 := num_back o (by omega) d2
  have d3 := drop_more d2
  have hr := items_loop (b := i_diffBytes d) o (by rw [hO]) d.List _ (d.List.length + 1) [] h2 d3 (by omega) (by omega) (by omega)
  have z : ((0 : Int), false) = (((0 : Nat) : Int), false) := rfl
  unfold i_ReadDiff
  rw [hO]
  dsimp only [cond_true]
  rw [z, n1]
  dsimp only
  rw [n2]
  dsimp only
  rw [n3]
  dsimp only
  rw [Int.toNat_natCast, hr, loopE_done, List.nil_append, ← hT, ← hF]
  dsimp only [cond_false]
  rw [show (⟨d.From, d.To, d.List⟩ : DDiff) = d from rfl, h, cond_true, beq_self_eq_true, cond_true]
theorem sdiff_back {d : DDiff} (h : i_GoodDiff d = true) (hl : (i_diffBytes d).length ≤ 6000) : s_ReadDiff (i_diffBytes d) = (d, true) := by
  obtain ⟨h1, h2⟩ := diff_items h
  obtain ⟨F, T, hF, hT, hF2, hT2⟩ := diff_nums h
  have hl0 := hl
  rw [diffBytes_seal, rf_seal] at hl
  have hO : s_OpenSeal (i_diffBytes d) = (diffIn d, true) := by rw [diffBytes_seal]; exact sOpenSeal_seal (by omega)
  have o : okS (diffIn d) := by unfold okS; omega
  obtain ⟨d0, hlen⟩ := diff_cuts hF hT
  have n1 := rnum_back o hF2 d0
  rw [Nat.zero_add] at n1
  have d1 := drop_more d0
  rw [Nat.zero_add] at d1
  have n2 := rnum_back o hT2 d1
  have d2 := drop_more d1
  have n3 := rnum_back o (by omega) d2
  have d3 := drop_more d2
  have z : ((0 : Int), false) = (((0 : Nat) : Int), false) := rfl
  have hr := sitems_loop (b := i_diffBytes d) o (by rw [hO]) (n := d.List.length) (by rw [z, n1]; dsimp only; rw [n2]; dsimp only; rw [n3]) (by omega) d.List 0 _ 61 [] h2 d3 (by omega) (by omega) (by omega)
  unfold s_ReadDiff
  rw [hO]
  dsimp only [cond_true]
  rw [z, n1]
  dsimp only
  rw [n2]
  dsimp only
  rw [n3]
  dsimp only
  rw [show ((60 - (0 : Int)).toNat + 1) = 61 from rfl, show (0 : Int) = ((0 : Nat) : Int) from rfl, hr, loopE_done, List.nil_append, ← hT, ← hF]
  dsimp only [cond_false]
  rw [show (⟨d.From, d.To, d.List⟩ : DDiff) = d from rfl, ← DiffBytes_eq d (by unfold wfI; omega)]
  unfold i_DiffBytes
  rw [h]
  dsimp only [cond_true]
  rw [decide_eq_false (by omega)]
  dsimp only [cond_false]
  rw [beq_self_eq_true]
  rfl
def DiffV (b : Str) (v : DDiff × Bool) : Prop := v = (⟨0, 0, []⟩, false) ∨ (v.2 = true ∧ i_GoodDiff v.1 = true ∧ i_diffBytes v.1 = b ∧ b.length ≤ 6000)
theorem OpenSeal_len {b : Str} (h : (i_OpenSeal b).2 = true) : b.length ≤ 6000 := by
  unfold i_OpenSeal at h
  cases hw : i_within (b.length : Int) 3 6000
  · rw [hw] at h; cases h
  · have := f_within hw; omega
theorem ReadDiff_sound {b : Str} (o : okS b) : DiffV b (i_ReadDiff b) := by
  have o1 := okS_OpenSeal o
  have r1 := rf_num o1 (0, false) ⟨by decide, by dsimp only; omega⟩
  have r2 := rf_num o1 (i_source_num (i_OpenSeal b).1 (0, false)).2 ⟨by omega, by omega⟩
  have r3 := rf_num o1 (i_source_num (i_OpenSeal b).1 (i_source_num (i_OpenSeal b).1 (0, false)).2).2 ⟨by omega, by omega⟩
  unfold i_ReadDiff
  cases hb : (i_OpenSeal b).2
  · exact .inl rfl
  · have hbl := OpenSeal_len hb
    dsimp only [cond_true]
    refine loopW_val (fun (p : Int × Int × Bool × List DFeedItem) => 0 ≤ p.1 ∧ p.1 ≤ 1000000000) (fun p => p.1.toNat) (DiffV b) ?_ _ _ ⟨r3.2.2.1, r3.2.2.2⟩ (Nat.lt_succ_self _)
    have hend : ∀ (F T : Int) (x : List DFeedItem) (g : Bool), DiffV b (bif g then ((⟨0, 0, []⟩ : DDiff), false) else bif i_GoodDiff (⟨F, T, x⟩ : DDiff) then bif (i_diffBytes (⟨F, T, x⟩ : DDiff)) == b then ((⟨F, T, x⟩ : DDiff), true) else ((⟨0, 0, []⟩ : DDiff), false) else ((⟨0, 0, []⟩ : DDiff), false)) := by
      intro F T x g
      cases g
      · dsimp only [cond_false]
        cases hg : i_GoodDiff (⟨F, T, x⟩ : DDiff)
        · exact .inl rfl
        · cases hb : (i_diffBytes (⟨F, T, x⟩ : DDiff)) == b
          · exact .inl rfl
          · exact .inr ⟨rfl, hg, eq_of_beq hb, hbl⟩
      · exact .inl rfl
    rintro ⟨n, a, g, x⟩ ⟨h1, h2⟩
    unfold B_i_ReadDiff_0
    dsimp only at h1 h2 ⊢
    by_cases hn : 0 < n
    · rw [decide_eq_true hn]
      cases g
      · dsimp only [cond_true, cond_false, Out.sat]
        rw [wrap_in (by omega)]; omega
      · exact hend _ _ x true
    · rw [decide_eq_false hn]
      exact hend _ _ x g
theorem sReadDiff_sound {b : Str} (o : okS b) : DiffV b (s_ReadDiff b) := by
  have o1 := okS_sOpenSeal o
  have r1 := rf_rnum o1 (0, false) ⟨by decide, by dsimp only; omega⟩
  unfold s_ReadDiff
  refine loopW_val (fun (p : Int × Int × Bool × List DFeedItem) => 0 ≤ p.1 ∧ p.1 ≤ 60) (fun p => (60 - p.1).toNat) (DiffV b) ?_ _ _ ⟨by dsimp only; omega, by dsimp only; omega⟩ (Nat.lt_succ_self _)
  have hend : ∀ (F T : Int) (_ : 0 ≤ F ∧ F ≤ 1000000000) (x : List DFeedItem) (g : Bool), DiffV b (bif (s_OpenSeal b).2 then bif g then ((⟨0, 0, []⟩ : DDiff), false) else bif (s_DiffBytes (⟨F, T, x⟩ : DDiff)).2 then bif ((s_DiffBytes (⟨F, T, x⟩ : DDiff)).1) == b then ((⟨F, T, x⟩ : DDiff), true) else ((⟨0, 0, []⟩ : DDiff), false) else ((⟨0, 0, []⟩ : DDiff), false) else ((⟨0, 0, []⟩ : DDiff), false)) := by
    intro F T hF x g
    cases (s_OpenSeal b).2
    · exact .inl rfl
    · cases g
      · dsimp only [cond_false, cond_true]
        rw [← DiffBytes_eq ⟨F, T, x⟩ (by unfold wfI; dsimp only; omega)]
        unfold i_DiffBytes
        cases hg : i_GoodDiff (⟨F, T, x⟩ : DDiff)
        · exact .inl rfl
        · dsimp only [cond_true]
          by_cases hl : (6000 : Int) < ((i_diffBytes (⟨F, T, x⟩ : DDiff)).length : Int)
          · rw [decide_eq_true hl]; exact .inl rfl
          · rw [decide_eq_false hl]
            dsimp only [cond_false, cond_true]
            cases hb : (i_diffBytes (⟨F, T, x⟩ : DDiff)) == b
            · exact .inl rfl
            · have hb := eq_of_beq hb
              exact .inr ⟨rfl, hg, hb, by rw [hb] at hl; omega⟩
      · exact .inl rfl
  rintro ⟨n, a, g, x⟩ ⟨h1, h2⟩
  unfold B_s_ReadDiff_0
  dsimp only at h1 h2 ⊢
  cases decide (n < ((s_l1R_num ((s_OpenSeal b).1) ((s_l1R_num ((s_OpenSeal b).1) ((s_l1R_num ((s_OpenSeal b).1) (0, false)).2)).2)).1))
  · exact hend _ _ r1.2.2 x g
  · dsimp only [cond_true]
    by_cases hn : n < 60
    · rw [decide_eq_true hn]
      cases g
      · dsimp only [cond_true, cond_false, Out.sat]
        rw [wrap_in (by omega)]; omega
      · exact hend _ _ r1.2.2 x true
    · rw [decide_eq_false hn]
      exact hend _ _ r1.2.2 x g
theorem ReadDiff_eq {b : Str} (o : okS b) : i_ReadDiff b = s_ReadDiff b := by
  rcases ReadDiff_sound o with h | ⟨h1, h2, h3, h4⟩
  · rcases sReadDiff_sound o with g | ⟨g1, g2, g3, g4⟩
    · rw [h, g]
    · have := diff_back g2 (by rw [g3]; exact g4)
      rw [g3, h] at this
      injection this with _ e; cases e
  · have := sdiff_back h2 (by rw [h3]; exact h4)
    rw [h3] at this
    rw [this]
    exact Prod.ext rfl h1
theorem diffV_len {b : Str} {v : DDiff × Bool} (h : DiffV b v) : v.1.List.length ≤ 60 := by
  rcases h with rfl | ⟨_, h, _⟩
  · exact Nat.zero_le _
  · exact (diff_items h).1.1
theorem true_ReadDiff (b : Str) (_ : wfS b) : l_FnExactReadDiff b = true := by
  unfold l_FnExactReadDiff
  cases h1 : decide (1048576 < (b.length : Int))
  case true => rfl
  have h1 := of_decide_eq_false h1
  have o : okS b := by unfold okS; omega
  have hl := diffV_len (ReadDiff_sound o)
  obtain ⟨h4, h5⟩ := mh_Diff (i_ReadDiff b).1 1 (by decide) (by omega)
  simp only [cond_false, eta_markDiff, ← ReadDiff_eq o, eq_Diff, beq_self_eq_true, cond_true, h4]
  rw [h5, decide_eq_false (by omega), cond_false, decide_true]; rfl

end Go.Proofs.Ytbamdefifgkbgaa
