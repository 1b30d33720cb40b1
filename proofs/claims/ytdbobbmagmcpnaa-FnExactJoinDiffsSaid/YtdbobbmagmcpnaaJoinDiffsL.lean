/- Join Diffs: plain laws of the models. -/
import Derived.Test.YtdbobbmagmcpnaaJoinDiffsT
set_option linter.unusedVariables false
set_option linter.unusedSimpArgs false
namespace Go.Proofs.Ytdbobbmagmcpnaa
open Go.RowKit Go.X
theorem szok_FeedItem {x : DFeedItem} {L : Int} (hw : wf_FeedItem x) (hL : 0 ≤ L ∧ L ≤ 1048576) (h : ¬ l_szFeedItem x L < 0) : ok_FeedItem x ∧ 0 ≤ l_szFeedItem x L ∧ l_szFeedItem x L ≤ 1048576 := by
  unfold l_szFeedItem at h ⊢
  obtain ⟨a0, e0, h⟩ := szc h
  rw [e0]
  have s0 := szS_ok hw.2.2.1 hL a0
  obtain ⟨a1, e1, h⟩ := szc h
  rw [e1]
  have s1 := szS_ok hw.2.2.2 s0.2 a1
  exact ⟨⟨s0.1, s1.1⟩, s1.2⟩
theorem to_FeedItem (x : DFeedItem) : l_toFeedItem x = x := rfl
theorem eq_FeedItem (x : DFeedItem) : l_eqFeedItem x x = true := by unfold l_eqFeedItem; simp only [beq_self_eq_true, cond_true, decide_true]
theorem szok_FeedItemS {x : List DFeedItem} {L : Int} (hw : (wfL wf_FeedItem) x) (hL : 0 ≤ L ∧ L ≤ 1048576) (h : ¬ l_szFeedItemS x L < 0) : (okL ok_FeedItem) x ∧ 0 ≤ l_szFeedItemS x L ∧ l_szFeedItemS x L ≤ 1048576 := szLL_ok d_FeedItem (f := l_szFeedItem) szok_FeedItem hw hL h
theorem to_FeedItemS (x : List DFeedItem) : l_toFeedItemS x = x := toL_id d_FeedItem (f := fun s => s) (fun _ => rfl) x
theorem eq_FeedItemS (x : List DFeedItem) : l_eqFeedItemS x x = true := eqL_refl d_FeedItem (f := l_eqFeedItem) eq_FeedItem x
theorem szok_Diff {x : DDiff} {L : Int} (hw : wf_Diff x) (hL : 0 ≤ L ∧ L ≤ 1048576) (h : ¬ l_szDiff x L < 0) : ok_Diff x ∧ 0 ≤ l_szDiff x L ∧ l_szDiff x L ≤ 1048576 := by
  unfold l_szDiff at h ⊢
  obtain ⟨a0, e0, h⟩ := szc h
  rw [e0]
  have s0 := szok_FeedItemS hw.2.2 hL a0
  exact ⟨s0.1, s0.2⟩
theorem to_Diff (x : DDiff) : l_toDiff x = x := rfl
theorem eq_Diff (x : DDiff) : l_eqDiff x x = true := by unfold l_eqDiff; simp only [eq_FeedItemS, beq_self_eq_true, cond_true, decide_true]
def mk_FeedItem (_ : DFeedItem) (k : Int) : Int × DFeedItem := (IntKind.wrap .i64 ((IntKind.wrap .i64 ((IntKind.wrap .i64 ((IntKind.wrap .i64 ((IntKind.wrap .i64 (k + 1)) + 1)) + 1)) + 1)) + 1), ⟨k, IntKind.wrap .i64 (k + 1), l_markText (IntKind.wrap .i64 ((IntKind.wrap .i64 (k + 1)) + 1)), l_markText (IntKind.wrap .i64 ((IntKind.wrap .i64 ((IntKind.wrap .i64 (k + 1)) + 1)) + 1)), decide (Int.tmod (IntKind.wrap .i64 ((IntKind.wrap .i64 ((IntKind.wrap .i64 ((IntKind.wrap .i64 (k + 1)) + 1)) + 1)) + 1)) 3 = 0)⟩)
theorem mkc_FeedItem (x : DFeedItem) (k : Int) (h0 : 0 ≤ k) (h1 : k + ((5 : Nat) : Int) ≤ 4611686018427387904) : (mk_FeedItem x k).1 = k + ((5 : Nat) : Int) := by
  unfold mk_FeedItem
  simp only [IntKind.wrap_i64]; omega
theorem mark_FeedItemS (a : List DFeedItem) (k : Int) : l_markFeedItemS a k = mkL mk_FeedItem a k := by
  unfold l_markFeedItemS
  exact markE (d := d_FeedItem) (mk := mk_FeedItem) (fun i k xs hi => by unfold B_l_markFeedItemS_0; simp only [List.set_set, getD_set_self hi, mk_FeedItem]) a k
theorem held_FeedItemS (a : List DFeedItem) (k : Int) (h0 : 0 ≤ k) (h1 : k + (cntL (fun _ => 5) a : Int) ≤ 4611686018427387904) : l_heldFeedItemS (l_markFeedItemS a k).2 k = (l_markFeedItemS a k).1 := by
  rw [mark_FeedItemS]
  unfold l_heldFeedItemS
  exact heldE (d := d_FeedItem) (mk := mk_FeedItem) (c := fun _ => 5) a k mkc_FeedItem (fun i k x hx _ _ => by unfold B_l_heldFeedItemS_0; simp only [hx, mk_FeedItem, eq_self, decide_true, beq_self_eq_true, cond_true]) h0 h1
theorem mh_FeedItemS (a : List DFeedItem) (k : Int) (h0 : 0 ≤ k) (h1 : k + (((5 : Nat) * a.length : Nat) : Int) ≤ 4611686018427387904) : l_heldFeedItemS (l_markFeedItemS a k).2 k = (l_markFeedItemS a k).1 ∧ (l_markFeedItemS a k).1 = k + (((5 : Nat) * a.length : Nat) : Int) ∧ (l_markFeedItemS a k).2.length = a.length := by
  rw [← cntL_const] at h1 ⊢
  refine ⟨held_FeedItemS a k h0 h1, ?_, ?_⟩
  · rw [mark_FeedItemS]; exact mkL_cnt mkc_FeedItem a k h0 h1
  · rw [mark_FeedItemS]; exact mkL_length _ _ _
theorem rf_markFeedItemS (a : List DFeedItem) (k : Int) (h : k ≤ 9223372036854775807) : (l_markFeedItemS a k).1 ≤ 9223372036854775807 := by
  unfold l_markFeedItemS
  refine loopM_val (fun _ (s : Int × List DFeedItem) => s.1 ≤ 9223372036854775807) (fun (v : Int × List DFeedItem) => v.1 ≤ 9223372036854775807) h (fun s hs => hs) ?_
  rintro j ⟨k, x⟩ _ _ hk
  exact wrap_le _
theorem rf_heldFeedItemS (a : List DFeedItem) (k : Int) (h : k ≤ 9223372036854775807) : l_heldFeedItemS a k ≤ 9223372036854775807 := by
  unfold l_heldFeedItemS
  refine loopM_val (fun _ (s : Int) => s ≤ 9223372036854775807) (fun v => v ≤ 9223372036854775807) h (fun s hs => hs) ?_
  intro j k' _ _ hk
  unfold B_l_heldFeedItemS_0
  dsimp only
  cases decide (((a.getD j d_FeedItem).Time) = k') <;> cases decide (((a.getD j d_FeedItem).Group) = IntKind.wrap .i64 (k' + 1)) <;> cases (((a.getD j d_FeedItem).Key) == l_markText (IntKind.wrap .i64 ((IntKind.wrap .i64 (k' + 1)) + 1))) <;> cases (((a.getD j d_FeedItem).Val) == l_markText (IntKind.wrap .i64 ((IntKind.wrap .i64 ((IntKind.wrap .i64 (k' + 1)) + 1)) + 1))) <;> cases (((a.getD j d_FeedItem).Gone) == decide (Int.tmod (IntKind.wrap .i64 ((IntKind.wrap .i64 ((IntKind.wrap .i64 ((IntKind.wrap .i64 (k' + 1)) + 1)) + 1)) + 1)) 3 = 0)) <;> first | exact wrap_le _ | exact neg1_le
theorem mh_Diff (a : DDiff) (k : Int) (h0 : 0 ≤ k) (h1 : k + ((5 * a.List.length : Nat) : Int) ≤ 4611686018427387904) : l_heldDiff (l_markDiff a k).2 k = (l_markDiff a k).1 ∧ (l_markDiff a k).1 = k + ((5 * a.List.length : Nat) : Int) := by
  obtain ⟨e0, n0, _⟩ := mh_FeedItemS a.List k (by omega) (by omega)
  have q1 : l_heldDiff (l_markDiff a k).2 k = k + ((5 * a.List.length : Nat) : Int) := by unfold l_heldDiff l_markDiff; simp only [e0, n0, decide_eq_false (show ¬ k + ((5 * a.List.length : Nat) : Int) < 0 by omega), cond_false]
  have q2 : (l_markDiff a k).1 = k + ((5 * a.List.length : Nat) : Int) := by unfold l_markDiff; simp only [n0]
  exact ⟨q1.trans q2.symm, q2.trans (by omega)⟩
theorem eta_markDiff (r : DDiff) (k : Int) : (⟨r.From, r.To, (l_markDiff r k).2.List⟩ : DDiff) = (l_markDiff r k).2 := rfl
theorem rf_markDiff (a : DDiff) (k : Int) (h : k ≤ 9223372036854775807) : (l_markDiff a k).1 ≤ 9223372036854775807 := by
  unfold l_markDiff
  exact (rf_markFeedItemS _ _ h)
theorem rf_heldDiff (a : DDiff) (k : Int) (h : k ≤ 9223372036854775807) : l_heldDiff a k ≤ 9223372036854775807 := by
  unfold l_heldDiff
  cases decide (l_heldFeedItemS a.List k < 0) <;> first | exact neg1_le | exact (rf_heldFeedItemS _ _ h)
theorem ContainsFunc_FeedItem (xs : List DFeedItem) (f : DFeedItem → Bool) : g_slices_ContainsFunc_FeedItem xs f = xs.any f := idxF_any f d_FeedItem xs
theorem within_eq : i_within = s_l1In := rfl
theorem f_l1In {n lo hi : Int} (h : s_l1In n lo hi = true) : lo ≤ n ∧ n ≤ hi := by
  unfold s_l1In at h
  obtain ⟨h1, h2⟩ := of_cond_f h
  exact ⟨of_decide_eq_true h1, of_decide_eq_true h2⟩
theorem f_within {n lo hi : Int} (h : i_within n lo hi = true) : lo ≤ n ∧ n ≤ hi := f_l1In h
theorem indexByte_neg (l : List UInt8) (c : UInt8) : decide (Lib.indexByte l c < 0) = !(l.contains c) := by
  induction l with
  | nil => rfl
  | cons b l ih =>
    have hge := Lib.indexByte_ge l c
    rw [Bool.eq_iff_iff] at ih ⊢
    simp only [decide_eq_true_eq, Bool.not_eq_true', List.contains_cons] at ih ⊢
    unfold Lib.indexByte
    by_cases hb : b = c
    · subst hb; simp
    · have hb1 : (b == c) = false := by simpa using hb
      have hb2 : (c == b) = false := by simpa using fun h => hb h.symm
      rw [hb1, hb2]
      simp only [Bool.false_or, Bool.false_eq_true, if_false]
      split
      · rename_i h
        have : Lib.indexByte l c = -1 := by simpa using h
        rw [← ih]; omega
      · rename_i h
        have : Lib.indexByte l c ≠ -1 := by simpa using h
        constructor
        · intro h; omega
        · intro h; have := ih.2 h; omega
theorem byte_back (b : UInt8) : ((b.toNat : Int)).toNat.toUInt8 = b := by simp
theorem idxB_neg (s : Str) (b : UInt8) : decide (idxB s (b.toNat : Int) < 0) = !(s.contains b) := by
  unfold idxB
  rw [byte_back, indexByte_neg]
def byteOk (more : Str) (b : UInt8) : Bool := i_isLowerOrDigit (b.toNat : Int) || more.contains b
theorem hasBytes_eq (s more : Str) : i_hasBytes s more = s.all (byteOk more) := by
  unfold i_hasBytes
  rw [allE (0 : UInt8) (byteOk more) (r := false) fun k => by
    unfold B_i_hasBytes_0 byteOk g_strings_IndexByte g_internal_stringslite_IndexByte
    rw [idxB_neg]
    cases i_isLowerOrDigit ((s.getD k 0).toNat : Int) <;> cases more.contains (s.getD k 0) <;> rfl]
  cases s.all (byteOk more) <;> rfl
theorem toNat_eq (a b : UInt8) : decide ((a.toNat : Int) = (b.toNat : Int)) = (a == b) := by
  rw [Bool.eq_iff_iff, decide_eq_true_iff, beq_iff_eq]
  constructor
  · intro h; exact UInt8.toNat.inj (by omega)
  · intro h; rw [h]
theorem l3B1 {T : Type} (s more : Str) (k : Nat) (x0 : Bool) (fr : Bool → T) (fd : Bool → T) : loopE (loopM (B_s_l3Bytes_1 s more k) (more.length - 0) 0 x0) fr fd = fd (x0 || more.contains (s.getD k 0)) := by
  rw [orE (0 : UInt8) (fun b => (s.getD k 0) == b) fun j x => by
    unfold B_s_l3Bytes_1
    rw [toNat_eq]
    cases x <;> rfl]
  rw [List.contains_eq_any_beq]
theorem l3Bytes_eq (s more : Str) : s_l3Bytes s more = s.all (byteOk more) := by
  unfold s_l3Bytes
  rw [allE (0 : UInt8) (byteOk more) (r := false) fun k => by
    unfold B_s_l3Bytes_0 byteOk i_isLowerOrDigit
    simp only [l3B1]
    cases decide (97 ≤ ((s.getD k 0).toNat : Int)) <;> cases decide (((s.getD k 0).toNat : Int) ≤ 122) <;> cases decide (48 ≤ ((s.getD k 0).toNat : Int)) <;> cases decide (((s.getD k 0).toNat : Int) ≤ 57) <;> cases more.contains (s.getD k 0) <;> rfl]
  cases s.all (byteOk more) <;> rfl
theorem GoodKey_eq (s : Str) : i_GoodKey s = s_l3Key s := by
  unfold i_GoodKey s_l3Key
  rw [hasBytes_eq, l3Bytes_eq, within_eq]
theorem GoodVal_eq (s : Str) : i_GoodVal s = s_l3Val s := by
  unfold i_GoodVal s_l3Val
  rw [hasBytes_eq, l3Bytes_eq]

theorem and_all {α : Type} (l : List α) (p q : α → Bool) : (l.all p && l.all q) = l.all fun x => p x && q x := by
  induction l with
  | nil => rfl
  | cons x l ih =>
    simp only [List.all_cons, ← ih]
    cases p x <;> cases q x <;> cases l.all p <;> rfl
theorem isStored_eq (v : Str) (g : Bool) : i_isStored v g = (s_l3Val v && (!g || v == ([] : Str))) := by
  unfold i_isStored
  rw [GoodVal_eq]
  cases s_l3Val v <;> cases g <;> cases (v == ([] : Str)) <;> rfl
theorem l3Write_eq (k v : Str) (g : Bool) : s_l3Write k v g = (s_l3Key k && i_isStored v g) := by
  rw [isStored_eq]
  unfold s_l3Write
  cases s_l3Key k <;> cases s_l3Val v <;> cases g <;> cases (v == ([] : Str)) <;> rfl
theorem Compare_int_eq (x y : Int) : g_cmp_Compare_int x y = if x < y then -1 else if y < x then 1 else 0 := by
  unfold g_cmp_Compare_int g_cmp_isNaN_int
  simp only [decide_true, Bool.not_true, cond_false]
  by_cases h1 : x < y
  · simp [h1]
  · by_cases h2 : y < x
    · simp [h1, h2]
    · simp [h1, h2]
theorem Compare_string_eq (x y : Str) : g_cmp_Compare_string x y = if x < y then -1 else if x = y then 0 else 1 := by
  unfold g_cmp_Compare_string g_cmp_isNaN_string
  simp only [beq_self_eq_true, Bool.not_true, cond_false]
  by_cases h1 : x < y
  · rw [(sLt_iff x y).2 h1, if_pos h1]; rfl
  · have h0 : sLt x y = false := by cases h : sLt x y; rfl; exact absurd ((sLt_iff x y).1 h) h1
    rw [h0, cond_false, if_neg h1]
    unfold sLe
    rw [h0, Bool.false_or]
    by_cases h2 : x = y
    · subst h2; rw [beq_self_eq_true, if_pos rfl]; rfl
    · rw [beq_false_of_ne h2, if_neg h2]; rfl
theorem Or_int3 (a b c : Int) : g_cmp_Or_int [a, b, c] = if a = 0 then (if b = 0 then c else b) else a := by
  unfold g_cmp_Or_int
  have b0 : B_g_cmp_Or_int_0 [a, b, c] 0 () = bif decide (a = 0) then .cont () else .ret a := rfl
  have b1 : B_g_cmp_Or_int_0 [a, b, c] 1 () = bif decide (b = 0) then .cont () else .ret b := rfl
  have b2 : B_g_cmp_Or_int_0 [a, b, c] 2 () = bif decide (c = 0) then .cont () else .ret c := rfl
  show loopE (loopM (B_g_cmp_Or_int_0 [a, b, c]) 3 0 ()) _ _ = _
  simp only [loopM, Nat.zero_add, Nat.reduceAdd, b0, b1, b2]
  by_cases h1 : a = 0
  · by_cases h2 : b = 0
    · by_cases h3 : c = 0
      · simp [h1, h2, h3, loopE]
      · simp [h1, h2, h3, loopE]
    · simp [h1, h2, loopE]
  · simp [h1, loopE]
theorem ahead_eq (a b : DFeedItem) : decide (0 ≤ i_compareItems a b) = !(s_l23Ahead a b) := by
  unfold i_compareItems s_l23Ahead
  rw [Or_int3, Compare_int_eq, Compare_int_eq, Compare_string_eq]
  by_cases h1 : a.Time = b.Time
  · rw [if_neg (by omega : ¬ a.Time < b.Time), if_neg (by omega : ¬ b.Time < a.Time), if_pos rfl, decide_eq_true h1, cond_true]
    by_cases h2 : a.Group = b.Group
    · rw [if_neg (by omega : ¬ a.Group < b.Group), if_neg (by omega : ¬ b.Group < a.Group), if_pos rfl, decide_eq_true h2, cond_true]
      by_cases h3 : a.Key < b.Key
      · rw [if_pos h3, (sLt_iff _ _).2 h3]; rfl
      · have h0 : sLt a.Key b.Key = false := by cases h : sLt a.Key b.Key; rfl; exact absurd ((sLt_iff _ _).1 h) h3
        rw [if_neg h3, h0]
        by_cases h4 : a.Key = b.Key
        · rw [if_pos h4]; rfl
        · rw [if_neg h4]; rfl
    · rw [decide_eq_false h2, cond_false]
      by_cases h3 : a.Group < b.Group
      · simp only [if_pos h3, decide_eq_true h3]; rfl
      · simp only [if_neg h3, if_pos (show b.Group < a.Group by omega), decide_eq_false h3]; rfl
  · rw [decide_eq_false h1, cond_false]
    by_cases h3 : a.Time < b.Time
    · simp only [if_pos h3, decide_eq_true h3]; rfl
    · simp only [if_neg h3, if_pos (show b.Time < a.Time by omega), decide_eq_false h3]; rfl
def aheadAt (l : List DFeedItem) (k : Nat) : Bool := bif decide (0 < (k : Int)) then s_l23Ahead (l.getD ((IntKind.wrap .i64 ((k : Int) - 1)).toNat) d_FeedItem) (l.getD k d_FeedItem) else true
theorem isFeed_eq (l : List DFeedItem) : i_isFeed l = ((List.range l.length).all (aheadAt l) && decide ((l.length : Int) ≤ 400)) := by
  unfold i_isFeed
  rw [loopU (aheadAt l) (r := false) fun k _ => by
    unfold B_i_isFeed_0 aheadAt
    rw [ahead_eq]
    cases decide (0 < (k : Int)) <;> cases s_l23Ahead (l.getD ((IntKind.wrap .i64 ((k : Int) - 1)).toNat) d_FeedItem) (l.getD k d_FeedItem) <;> rfl]
  cases (List.range l.length).all (aheadAt l) <;> rfl
theorem GoodItem_eq (c : DFeedItem) : i_GoodItem c = s_l23Good c := by
  unfold i_GoodItem s_l23Good i_isTime i_isGroup
  rw [within_eq, GoodKey_eq, l3Write_eq]
  cases s_l1In c.Time 1 100000 <;> cases s_l1In c.Group 0 3 <;> cases s_l3Key c.Key <;> rfl
theorem l23Feed_eq (l : List DFeedItem) : s_l23Feed l = ((l.all s_l23Good && (List.range l.length).all (aheadAt l)) && decide ((l.length : Int) ≤ 400)) := by
  unfold s_l23Feed
  by_cases hl : l.length ≤ 400
  · rw [loopU (fun k => s_l23Good (l.getD k d_FeedItem) && aheadAt l k) (r := false) fun k hk => by
      unfold B_s_l23Feed_0 aheadAt
      rw [decide_eq_true (show (k : Int) ≤ 400 by omega)]
      cases s_l23Good (l.getD k d_FeedItem) <;> cases decide (0 < (k : Int)) <;> cases s_l23Ahead (l.getD ((IntKind.wrap .i64 ((k : Int) - 1)).toNat) d_FeedItem) (l.getD k d_FeedItem) <;> rfl]
    rw [← range_all d_FeedItem s_l23Good l, and_all]
    cases (List.range l.length).all fun k => s_l23Good (l.getD k d_FeedItem) && aheadAt l k <;> rfl
  · have h2 : decide ((l.length : Int) ≤ 400) = false := decide_eq_false (by omega)
    rw [h2, Bool.and_false]
    refine loopM_val (fun _ _ => True) (fun v => v = false) trivial (fun _ _ => rfl) ?_
    intro k _ _ _ _
    unfold B_s_l23Feed_0
    cases decide ((k : Int) ≤ 400) <;> cases s_l23Good (l.getD k d_FeedItem) <;> cases decide (0 < (k : Int)) <;> cases s_l23Ahead (l.getD ((IntKind.wrap .i64 ((k : Int) - 1)).toNat) d_FeedItem) (l.getD k d_FeedItem) <;> first | trivial | rfl
theorem GoodFeed_eq (l : List DFeedItem) : i_GoodFeed l = s_l23Feed l := by
  unfold i_GoodFeed
  rw [isFeed_eq, ContainsFunc_FeedItem, List.not_any_eq_all_not, l23Feed_eq]
  have : (l.all fun x => !i_GoodFeed_c1 x) = l.all s_l23Good := by
    congr 1; funext x; unfold i_GoodFeed_c1; rw [GoodItem_eq, Bool.not_not]
  rw [this]
  cases (List.range l.length).all (aheadAt l) <;> cases l.all s_l23Good <;> cases decide ((l.length : Int) ≤ 400) <;> rfl
def inDiff (d : DDiff) (c : DFeedItem) : Bool := decide (c.Group = 0) && decide (d.From < c.Time) && decide (c.Time ≤ d.To)
theorem l31Diff_eq (d : DDiff) (hw : wfI d.From) : s_l31Diff d = (s_l1In d.From 0 d.To && decide (d.To ≤ 100000) && decide ((d.List.length : Int) ≤ 60) && s_l23Feed d.List && d.List.all (inDiff d)) := by
  unfold s_l31Diff
  rw [allE d_FeedItem (fun c => decide (c.Group = 0) && s_l1In c.Time (IntKind.wrap .i64 (d.From + 1)) d.To) (r := false) fun k => by
    unfold B_s_l31Diff_0
    cases decide ((d.List.getD k d_FeedItem).Group = 0) <;> cases s_l1In ((d.List.getD k d_FeedItem).Time) (IntKind.wrap .i64 (d.From + 1)) d.To <;> rfl]
  cases h1 : s_l1In d.From 0 d.To
  · cases (d.List.all fun c => decide (c.Group = 0) && s_l1In c.Time (IntKind.wrap .i64 (d.From + 1)) d.To) <;> rfl
  · by_cases h2 : d.To ≤ 100000
    · have h3 := f_l1In h1
      have h4 : (d.List.all fun c => decide (c.Group = 0) && s_l1In c.Time (IntKind.wrap .i64 (d.From + 1)) d.To) = d.List.all (inDiff d) := by
        congr 1; funext c
        unfold inDiff
        rw [wrap_in (by omega)]
        unfold s_l1In
        by_cases h5 : d.From + 1 ≤ c.Time
        · rw [decide_eq_true h5, decide_eq_true (show d.From < c.Time by omega)]; cases decide (c.Group = 0) <;> rfl
        · rw [decide_eq_false h5, decide_eq_false (show ¬ d.From < c.Time by omega)]; cases decide (c.Group = 0) <;> rfl
      rw [h4, decide_eq_true h2]
      cases d.List.all (inDiff d) <;> cases decide ((d.List.length : Int) ≤ 60) <;> cases s_l23Feed d.List <;> rfl
    · rw [decide_eq_false h2]
      cases (d.List.all fun c => decide (c.Group = 0) && s_l1In c.Time (IntKind.wrap .i64 (d.From + 1)) d.To) <;> rfl
theorem GoodDiff_eq (d : DDiff) (hw : wfI d.From) : i_GoodDiff d = s_GoodDiff d := by
  unfold s_GoodDiff
  rw [l31Diff_eq d hw]
  unfold i_GoodDiff i_isTrue
  rw [within_eq, GoodFeed_eq, ContainsFunc_FeedItem, List.not_any_eq_all_not]
  have : (d.List.all fun x => !i_GoodDiff_c1 x d) = d.List.all (inDiff d) := by
    congr 1; funext c
    unfold i_GoodDiff_c1 inDiff
    by_cases h1 : c.Time ≤ d.From
    · rw [decide_eq_true h1, decide_eq_false (show ¬ d.From < c.Time by omega)]; cases decide (c.Group = 0) <;> rfl
    · rw [decide_eq_false h1, decide_eq_true (show d.From < c.Time by omega)]
      by_cases h2 : d.To < c.Time
      · rw [decide_eq_true h2, decide_eq_false (show ¬ c.Time ≤ d.To by omega)]; cases decide (c.Group = 0) <;> rfl
      · rw [decide_eq_false h2, decide_eq_true (show c.Time ≤ d.To by omega)]; cases decide (c.Group = 0) <;> rfl
  rw [this]
  have e : (bif s_l1In d.From 0 100000 then bif s_l1In d.To 0 100000 then decide (d.From ≤ d.To) else false else false) = (s_l1In d.From 0 d.To && decide (d.To ≤ 100000)) := by
    rw [Bool.eq_iff_iff]
    constructor
    · intro h
      obtain ⟨a, h⟩ := of_cond_f h
      obtain ⟨b, c⟩ := of_cond_f h
      have a := f_l1In a
      have b := f_l1In b
      have c := of_decide_eq_true c
      unfold s_l1In
      rw [decide_eq_true a.1, decide_eq_true c, decide_eq_true b.2]; rfl
    · intro h
      rw [Bool.and_eq_true] at h
      have a := f_l1In h.1
      have b := of_decide_eq_true h.2
      unfold s_l1In
      rw [decide_eq_true a.1, decide_eq_true (show d.From ≤ 100000 by omega), decide_eq_true (show 0 ≤ d.To by omega), decide_eq_true b, decide_eq_true a.2]; rfl
  rw [← e]
  cases s_l1In d.From 0 100000 <;> cases s_l1In d.To 0 100000 <;> cases decide (d.From ≤ d.To) <;> cases decide ((d.List.length : Int) ≤ 60) <;> cases s_l23Feed d.List <;> cases d.List.all (inDiff d) <;> rfl
theorem l3Key_len {s : Str} (h : s_l3Key s = true) : s.length ≤ 12 := by
  unfold s_l3Key at h
  have := f_l1In (of_cond_f h).1
  omega
theorem l3Val_len {s : Str} (h : s_l3Val s = true) : s.length ≤ 24 := by
  unfold s_l3Val at h
  have := of_decide_eq_true (of_cond_f h).1
  omega
theorem l3Write_len {k v : Str} {g : Bool} (h : s_l3Write k v g = true) : k.length ≤ 12 ∧ v.length ≤ 24 := by
  rw [l3Write_eq, isStored_eq] at h
  simp only [Bool.and_eq_true] at h
  exact ⟨l3Key_len h.1, l3Val_len h.2.1⟩
def diffShort (d : DDiff) : Prop := ∀ k, k < d.List.length → (0 ≤ (d.List.getD k d_FeedItem).Time ∧ (d.List.getD k d_FeedItem).Time ≤ 100000) ∧ (d.List.getD k d_FeedItem).Key.length ≤ 12 ∧ (d.List.getD k d_FeedItem).Val.length ≤ 24
theorem f_i_GoodDiff {d : DDiff} (h : i_GoodDiff d = true) : (d.List.length ≤ 60 ∧ 0 ≤ d.From ∧ d.From ≤ 100000 ∧ 0 ≤ d.To ∧ d.To ≤ 100000) ∧ diffShort d := by
  unfold i_GoodDiff i_isTrue at h
  obtain ⟨h1, h⟩ := of_cond_f h
  obtain ⟨h2, h⟩ := of_cond_f h
  obtain ⟨_, h⟩ := of_cond_f h
  obtain ⟨h4, h⟩ := of_cond_f h
  obtain ⟨h5, _⟩ := of_cond_f h
  have h1 := f_within h1
  have h2 := f_within h2
  have h4 := of_decide_eq_true h4
  rw [GoodFeed_eq, l23Feed_eq, Bool.and_eq_true, Bool.and_eq_true] at h5
  refine ⟨⟨by omega, h1.1, h1.2, h2.1, h2.2⟩, fun k hk => ?_⟩
  have h6 := List.all_eq_true.1 h5.1.1 _ (getD_mem (d := d_FeedItem) hk)
  unfold s_l23Good at h6
  obtain ⟨a, h6⟩ := of_cond_f h6
  obtain ⟨_, h6⟩ := of_cond_f h6
  have a := f_l1In a
  exact ⟨⟨by omega, a.2⟩, l3Write_len h6⟩
theorem f_s_l31Diff {d : DDiff} (h : s_l31Diff d = true) : (d.List.length ≤ 60 ∧ 0 ≤ d.From ∧ d.From ≤ 100000 ∧ 0 ≤ d.To ∧ d.To ≤ 100000) ∧ diffShort d := by
  have hf : wfI d.From := by
    unfold s_l31Diff at h
    rw [allE d_FeedItem (fun c => decide (c.Group = 0) && s_l1In c.Time (IntKind.wrap .i64 (d.From + 1)) d.To) (r := false) fun k => by
      unfold B_s_l31Diff_0
      cases decide ((d.List.getD k d_FeedItem).Group = 0) <;> cases s_l1In ((d.List.getD k d_FeedItem).Time) (IntKind.wrap .i64 (d.From + 1)) d.To <;> rfl] at h
    obtain ⟨_, h⟩ := of_cond_f h
    obtain ⟨h1, h⟩ := of_cond_f h
    obtain ⟨h2, _⟩ := of_cond_f h
    have h1 := f_l1In h1
    have h2 := of_decide_eq_true h2
    unfold wfI; omega
  have := GoodDiff_eq d hf
  unfold s_GoodDiff at this
  rw [h] at this
  exact f_i_GoodDiff this
theorem Concat_eq (l : List (List DFeedItem)) : g_slices_Concat_FeedItem l = l.flatten := by
  unfold g_slices_Concat_FeedItem
  refine loopM_val (fun _ (_ : Int) => True) (fun (v : List DFeedItem) => v = l.flatten) trivial (fun s _ => ?_) (fun _ _ _ _ _ => trivial)
  show loopE _ _ _ = _
  rw [catE (body := B_g_slices_Concat_FeedItem_1 l s) (xs := l) d_LFeedItem (fun x => x) (fun _ _ _ => rfl)]
  show [] ++ _ = _
  rw [List.nil_append, List.map_id']
theorem ok_concat2 {a b : DDiff} (ha : ok_Diff a) (hb : ok_Diff b) (la : a.List.length ≤ 60) (lb : b.List.length ≤ 60) : okL ok_FeedItem (g_slices_Concat_FeedItem [a.List, b.List]) := by
  rw [Concat_eq]
  have e : [a.List, b.List].flatten = a.List ++ b.List := by simp
  rw [e]
  refine ⟨by rw [List.length_append]; omega, fun y hy => ?_⟩
  rcases List.mem_append.1 hy with hy | hy
  · exact ha.2 y hy
  · exact hb.2 y hy
theorem JoinDiffs_eq (a b : DDiff) (ha : wfI a.From) (hb : wfI b.From) : i_JoinDiffs a b = s_JoinDiffs a b := by
  have e : g_slices_Concat_FeedItem [a.List, b.List] = ([] ++ a.List) ++ b.List := by rw [Concat_eq]; simp
  unfold i_JoinDiffs s_JoinDiffs i_ifDiff s_l31If
  rw [e, GoodDiff_eq a ha, GoodDiff_eq b hb, GoodDiff_eq _ (show wfI (⟨a.From, b.To, ([] ++ a.List) ++ b.List⟩ : DDiff).From from ha)]
  rfl
theorem JoinDiffs_len (a b : DDiff) (h : a.List.length ≤ 2147483648 ∧ b.List.length ≤ 2147483648) : (i_JoinDiffs a b).1.List.length ≤ 4294967296 := by
  unfold i_JoinDiffs
  cases i_GoodDiff a
  · exact Nat.zero_le _
  · cases i_GoodDiff b
    · exact Nat.zero_le _
    · cases decide (a.To = b.From)
      · exact Nat.zero_le _
      · show (i_ifDiff _).1.List.length ≤ _
        unfold i_ifDiff
        cases i_GoodDiff (⟨a.From, b.To, g_slices_Concat_FeedItem [a.List, b.List]⟩ : DDiff)
        · exact Nat.zero_le _
        · show (g_slices_Concat_FeedItem [a.List, b.List]).length ≤ _
          rw [Concat_eq, show [a.List, b.List].flatten = a.List ++ b.List by simp, List.length_append]; omega
theorem true_JoinDiffs (a b : DDiff) (hw : wf_Diff a) (hw2 : wf_Diff b) : l_FnExactJoinDiffs a b = true := by
  unfold l_FnExactJoinDiffs
  cases h1 : decide (l_szDiff a 1048576 < 0)
  case true => rfl
  cases h2 : decide (l_szDiff b (l_szDiff a 1048576) < 0)
  case true => rfl
  have hz := szok_Diff hw (by decide) (of_decide_eq_false h1)
  have hz2 := szok_Diff hw2 hz.2 (of_decide_eq_false h2)
  have l1 : a.List.length ≤ 2147483648 := hz.1.1
  have l2 : b.List.length ≤ 2147483648 := hz2.1.1
  have hc := JoinDiffs_len a b ⟨l1, l2⟩
  obtain ⟨_, h3⟩ := mh_Diff a 1 (by decide) (by omega)
  obtain ⟨_, h3'⟩ := mh_Diff b (l_markDiff a 1).1 (by omega) (by omega)
  obtain ⟨h4, h5⟩ := mh_Diff (i_JoinDiffs a b).1 1 (by decide) (by omega)
  simp only [cond_false, eta_markDiff, ← JoinDiffs_eq a b hw.1 hw2.1, eq_Diff, beq_self_eq_true, cond_true, h4]
  rw [h3', decide_eq_false (by omega), cond_false, h5, decide_eq_false (by omega), cond_false, decide_true]; rfl

end Go.Proofs.Ytdbobbmagmcpnaa
