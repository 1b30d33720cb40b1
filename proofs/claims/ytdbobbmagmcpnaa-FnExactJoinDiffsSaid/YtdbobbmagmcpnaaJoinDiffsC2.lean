/- Join Diffs: what each call returns, part 2. -/
import Derived.Test.YtdbobbmagmcpnaaJoinDiffsC1
set_option linter.unusedVariables false
set_option linter.unusedSimpArgs false
namespace Go.Proofs.Ytdbobbmagmcpnaa
open Go.RowKit Go.X
set_option maxRecDepth 100000 in
set_option maxHeartbeats 2000000 in
theorem c_i_GoodDiff {A1 : Option Addr} {c1 : Nat} {w : World} (p_d : DDiff) (h1 : RdS w (Iv 0 w.heap.size) (RF e_FeedItem) 5 A1 p_d.List.length c1 p_d.List) (o2 : ok_Diff p_d) : Cal Try.prog 101 #[.agg #[.int .i64 (p_d.From), .int .i64 (p_d.To), .slice A1 p_d.List.length c1]] w fun v w' => v = .bool ((i_GoodDiff p_d)) ∧ Ex w w' := by
 have hol3 := o2.1
 refine Cal.of (vs := [.agg #[.int .i64 (p_d.From), .int .i64 (p_d.To), .slice A1 p_d.List.length c1]]) Try.func101 rfl Try.ntmps101 rfl (CW.seq (CW.region (sd rfl (yl_box (cs := [.int .i64 (p_d.From), .int .i64 (p_d.To), .slice A1 p_d.List.length c1]) rfl rfl rfl ?_))))
 intro b4 w5 hs6 hz7 hB8 hE9
 refine sd rfl (yl_assign rfl rfl (SeqR.done (tn (CW.seq (CW.region (sd rfl (yl_fieldAddr Try.fd85_0 rfl rfl (sd rfl (yl_load1 Try.ty3 rfl rfl ((hB8.cell 0).trans rfl) (sd rfl (yl_call Try.en119 rfl (opvs_cons rfl opvs_nil) (Cal.mono (c_i_isTrue p_d.From) ?_))))))))))))
 rintro v11 w10 ⟨rfl, hE12⟩
 have hE12z := Ex.size hE12
 refine sd rfl (yl_move rfl rfl (bcase (i_isTrue p_d.From) (fun hb13 => ?_) (fun hb13 => ?_)))
 ·refine sy rfl rfl hb13 (yl_fieldAddr Try.fd85_1 rfl rfl ?_)
  have q14 := Box.ex hB8 hE12
  refine sy rfl rfl hb13 (yl_load1 Try.ty3 rfl rfl ((q14.cell 1).trans rfl) (sy rfl rfl hb13 (yl_call Try.en119 rfl (opvs_cons rfl opvs_nil) (Cal.mono (c_i_isTrue p_d.To) ?_))))
  rintro v16 w15 ⟨rfl, hE17⟩
  have hE17z := Ex.size hE17
  refine sd rfl (yl_pick_t rfl rfl hb13 rfl (sd rfl (yl_move rfl rfl (bcase (i_isTrue p_d.To) (fun hb18 => ?_) (fun hb18 => ?_)))))
  ·refine sy rfl rfl hb18 (yl_fieldAddr Try.fd85_0 rfl rfl ?_)
   have q19 := Box.ex q14 hE17
   refine sy rfl rfl hb18 (yl_load1 Try.ty3 rfl rfl ((q19.cell 0).trans rfl) (sy rfl rfl hb18 (yl_fieldAddr Try.fd85_1 rfl rfl (sy rfl rfl hb18 (yl_load1 Try.ty3 rfl rfl ((q19.cell 1).trans rfl) (sy rfl rfl hb18 (yl_leq rfl rfl rfl (sd rfl (yl_pick_t rfl rfl hb18 rfl (sd rfl (yl_move rfl rfl (bcase (decide (p_d.From ≤ p_d.To)) (fun hb20 => ?_) (fun hb20 => ?_)))))))))))))
   ·have hb20p := dec_t hb20
    refine sy rfl rfl hb20 (yl_fieldAddr Try.fd85_2 rfl rfl (sy rfl rfl hb20 (yl_load1 Try.ty83 rfl rfl ((q19.cell 2).trans rfl) (sy rfl rfl hb20 (yl_len Try.un83 rfl rfl (sy rfl rfl hb20 (yl_leq rfl rfl rfl (sd rfl (yl_pick_t rfl rfl hb20 rfl (sd rfl (yl_move rfl rfl (bcase (decide ((p_d.List.length : Int) ≤ 60)) (fun hb21 => ?_) (fun hb21 => ?_)))))))))))))
    ·have hb21p := dec_t hb21
     refine sy rfl rfl hb21 (yl_fieldAddr Try.fd85_2 rfl rfl (sy rfl rfl hb21 (yl_load1 Try.ty83 rfl rfl ((q19.cell 2).trans rfl) ?_)))
     have q24 := RdS.ex good_FeedItem (RdS.ex good_FeedItem (RdS.ex good_FeedItem h1 hE9) hE12) hE17
     refine sy rfl rfl hb21 (yl_call Try.en150 rfl (opvs_cons rfl opvs_nil) (Cal.mono (c_i_GoodFeed p_d.List (RdS.up q24 good_FeedItem) o2) ?_))
     rintro v26 w25 ⟨rfl, hE27⟩
     have hE27z := Ex.size hE27
     refine sd rfl (yl_pick_t rfl rfl hb21 rfl (sd rfl (yl_move rfl rfl (bcase (i_GoodFeed p_d.List) (fun hb28 => ?_) (fun hb28 => ?_)))))
     ·refine sy rfl rfl hb28 (yl_fieldAddr Try.fd85_2 rfl rfl ?_)
      have q29 := Box.ex q19 hE27
      refine sy rfl rfl hb28 (yl_load1 Try.ty83 rfl rfl ((q29.cell 2).trans rfl) (sy rfl rfl hb28 (yl_makeFunc rfl (opvs_cons rfl opvs_nil) ?_)))
      have q30 := RdS.ex good_FeedItem q24 hE27
      refine sy rfl rfl hb28 (yl_call Try.en151 rfl (opvs_cons rfl (opvs_cons rfl opvs_nil)) (Cal.mono (c_g_slices_ContainsFunc_FeedItem p_d.List (fun y0 => i_GoodDiff_c1 y0 p_d) (RdS.up q30 good_FeedItem) Try.en152 (fun _ y0 => fun hE hm0 ov0 => c_i_GoodDiff_c1 y0 p_d (RdS.up (RdS.ex good_FeedItem q30 hE) good_FeedItem) (Box.ex q29 hE) ov0 o2) o2) ?_))
      rintro v32 w31 ⟨rfl, hE33⟩
      have hE33z := Ex.size hE33
      refine sy rfl rfl hb28 (yl_not rfl rfl (sd rfl (yl_pick_t rfl rfl hb28 rfl (sd rfl (yl_assign rfl rfl (SeqR.done (tn (CW.ret (rr rfl (.cons rfl .nil) ?_)))))))))
      have hM34 : (i_GoodDiff p_d) = (!(g_slices_ContainsFunc_FeedItem p_d.List (fun y0 => i_GoodDiff_c1 y0 p_d))) := by simp only [i_GoodDiff, hb13, hb18, hb20, hb21, hb28, cond_true, cond_false, loopE_done, loopE_ret]
      rw [hM34]
      exact ⟨rfl, (Ex.trans (Ex.trans (Ex.trans (Ex.trans (Ex.trans (Ex.refl w) hE9) hE12) hE17) hE27) hE33)⟩
     ·refine sz rfl rfl hb28 (sz rfl rfl hb28 (sz rfl rfl hb28 (sz rfl rfl hb28 (sz rfl rfl hb28 (sd rfl (yl_pick_f rfl rfl hb28 rfl (sd rfl (yl_assign rfl rfl (SeqR.done (tn ?_))))))))))
      refine CW.ret (rr rfl (.cons rfl .nil) ?_)
      have hM40 : (i_GoodDiff p_d) = (false) := by simp only [i_GoodDiff, hb13, hb18, hb20, hb21, hb28, cond_true, cond_false, loopE_done, loopE_ret]
      rw [hM40]
      exact ⟨rfl, (Ex.trans (Ex.trans (Ex.trans (Ex.trans (Ex.refl w) hE9) hE12) hE17) hE27)⟩
    ·have hb21p := dec_f hb21
     refine sz rfl rfl hb21 (sz rfl rfl hb21 (sz rfl rfl hb21 (sd rfl (yl_pick_f rfl rfl hb21 rfl (sd rfl (yl_move rfl rfl (sz rfl rfl rfl (sz rfl rfl rfl (sz rfl rfl rfl (sz rfl rfl rfl ?_))))))))))
     refine sz rfl rfl rfl (sd rfl (yl_pick_f rfl rfl rfl rfl (sd rfl (yl_assign rfl rfl (SeqR.done (tn (CW.ret (rr rfl (.cons rfl .nil) ?_))))))))
     have hM45 : (i_GoodDiff p_d) = (false) := by simp only [i_GoodDiff, hb13, hb18, hb20, hb21, cond_true, cond_false, loopE_done, loopE_ret]
     rw [hM45]
     exact ⟨rfl, (Ex.trans (Ex.trans (Ex.trans (Ex.refl w) hE9) hE12) hE17)⟩
   ·have hb20p := dec_f hb20
    refine sz rfl rfl hb20 (sz rfl rfl hb20 (sz rfl rfl hb20 (sz rfl rfl hb20 (sd rfl (yl_pick_f rfl rfl hb20 rfl (sd rfl (yl_move rfl rfl (sz rfl rfl rfl (sz rfl rfl rfl (sz rfl rfl rfl ?_))))))))))
    refine sd rfl (yl_pick_f rfl rfl rfl rfl (sd rfl (yl_move rfl rfl (sz rfl rfl rfl (sz rfl rfl rfl (sz rfl rfl rfl (sz rfl rfl rfl (sz rfl rfl rfl (sd rfl (yl_pick_f rfl rfl rfl rfl (sd rfl (yl_assign rfl rfl ?_))))))))))))
    refine SeqR.done (tn (CW.ret (rr rfl (.cons rfl .nil) ?_)))
    have hM49 : (i_GoodDiff p_d) = (false) := by simp only [i_GoodDiff, hb13, hb18, hb20, cond_true, cond_false, loopE_done, loopE_ret]
    rw [hM49]
    exact ⟨rfl, (Ex.trans (Ex.trans (Ex.trans (Ex.refl w) hE9) hE12) hE17)⟩
  ·refine sz rfl rfl hb18 (sz rfl rfl hb18 (sz rfl rfl hb18 (sz rfl rfl hb18 (sz rfl rfl hb18 (sd rfl (yl_pick_f rfl rfl hb18 rfl (sd rfl (yl_move rfl rfl (sz rfl rfl rfl (sz rfl rfl rfl ?_))))))))))
   refine sz rfl rfl rfl (sz rfl rfl rfl (sd rfl (yl_pick_f rfl rfl rfl rfl (sd rfl (yl_move rfl rfl (sz rfl rfl rfl (sz rfl rfl rfl (sz rfl rfl rfl (sd rfl (yl_pick_f rfl rfl rfl rfl (sd rfl (yl_move rfl rfl ?_))))))))))))
   refine sz rfl rfl rfl (sz rfl rfl rfl (sz rfl rfl rfl (sz rfl rfl rfl (sz rfl rfl rfl (sd rfl (yl_pick_f rfl rfl rfl rfl (sd rfl (yl_assign rfl rfl (SeqR.done (tn ?_))))))))))
   refine CW.ret (rr rfl (.cons rfl .nil) ?_)
   have hM53 : (i_GoodDiff p_d) = (false) := by simp only [i_GoodDiff, hb13, hb18, cond_true, cond_false, loopE_done, loopE_ret]
   rw [hM53]
   exact ⟨rfl, (Ex.trans (Ex.trans (Ex.trans (Ex.refl w) hE9) hE12) hE17)⟩
 ·refine sz rfl rfl hb13 (sz rfl rfl hb13 (sz rfl rfl hb13 (sd rfl (yl_pick_f rfl rfl hb13 rfl (sd rfl (yl_move rfl rfl (sz rfl rfl rfl (sz rfl rfl rfl (sz rfl rfl rfl (sz rfl rfl rfl ?_))))))))))
  refine sz rfl rfl rfl (sd rfl (yl_pick_f rfl rfl rfl rfl (sd rfl (yl_move rfl rfl (sz rfl rfl rfl (sz rfl rfl rfl (sz rfl rfl rfl (sz rfl rfl rfl (sd rfl (yl_pick_f rfl rfl rfl rfl (sd rfl (yl_move rfl rfl ?_))))))))))))
  refine sz rfl rfl rfl (sz rfl rfl rfl (sz rfl rfl rfl (sd rfl (yl_pick_f rfl rfl rfl rfl (sd rfl (yl_move rfl rfl (sz rfl rfl rfl (sz rfl rfl rfl (sz rfl rfl rfl (sz rfl rfl rfl ?_))))))))))
  refine sz rfl rfl rfl (sd rfl (yl_pick_f rfl rfl rfl rfl (sd rfl (yl_assign rfl rfl (SeqR.done (tn (CW.ret (rr rfl (.cons rfl .nil) ?_))))))))
  have hM57 : (i_GoodDiff p_d) = (false) := by simp only [i_GoodDiff, hb13, cond_true, cond_false, loopE_done, loopE_ret]
  rw [hM57]
  exact ⟨rfl, (Ex.trans (Ex.trans (Ex.refl w) hE9) hE12)⟩
set_option maxRecDepth 100000 in
set_option maxHeartbeats 2000000 in
theorem c_i_ifDiff {A1 : Option Addr} {c1 : Nat} {lo1 hi1 : Nat} {w : World} (p_d : DDiff) (h1 : OwnL w lo1 hi1 140 5 (RF e_FeedItem) A1 p_d.List.length c1 p_d.List) (hrn3 : (0 ≤ lo1 ∧ lo1 ≤ hi1 ∧ hi1 ≤ w.heap.size)) (o2 : ok_Diff p_d) : Cal Try.prog 102 #[.agg #[.int .i64 (p_d.From), .int .i64 (p_d.To), .slice A1 p_d.List.length c1]] w fun v w' => ∃ A_1 c_1, v = .tuple #[.agg #[.int .i64 ((i_ifDiff p_d).1.From), .int .i64 ((i_ifDiff p_d).1.To), .slice A_1 (((i_ifDiff p_d).1.List).length) c_1], .bool ((i_ifDiff p_d).2)] ∧ OwnL w' lo1 hi1 140 5 (RF e_FeedItem) A_1 (((i_ifDiff p_d).1.List).length) c_1 ((i_ifDiff p_d).1.List) ∧ ok_Diff ((i_ifDiff p_d).1) ∧ Ex w w' := by
 have hol4 := o2.1
 refine Cal.of (vs := [.agg #[.int .i64 (p_d.From), .int .i64 (p_d.To), .slice A1 p_d.List.length c1]]) Try.func102 rfl Try.ntmps102 rfl (CW.seq (CW.region (sd rfl (yl_box (cs := [.int .i64 (p_d.From), .int .i64 (p_d.To), .slice A1 p_d.List.length c1]) rfl rfl rfl ?_))))
 intro b5 w6 hs7 hz8 hB9 hE10
 refine sd rfl (yl_alloc Try.ty85 (cs := [.int .i64 (0), .int .i64 (0), .slice none 0 0]) rfl rfl ?_)
 intro b11 w12 hs13 hz14 hB15 hE16
 refine sd rfl (yl_assign rfl rfl (SeqR.done (tn (CW.seq (CW.seq (CW.region ?_))))))
 have q17 := Box.ex hB9 hE16
 refine sd rfl (yl_loadN (cs := [.int .i64 (p_d.From), .int .i64 (p_d.To), .slice A1 p_d.List.length c1]) Try.ty85 rfl rfl (q17.cells (n := 3) rfl) rfl ?_)
 have q20 := OwnL.ex good_FeedItem (OwnL.ex good_FeedItem h1 hE10) hE16
 refine sd rfl (yl_call Try.en101 rfl (opvs_cons rfl opvs_nil) (Cal.mono (c_i_GoodDiff p_d (RdS.up (OwnL.rd good_FeedItem q20) good_FeedItem) o2) ?_))
 rintro v22 w21 ⟨rfl, hE23⟩
 have hE23z := Ex.size hE23
 refine sd rfl (yl_not rfl rfl (SeqR.done (tn (bcase (i_GoodDiff p_d) (fun hb24 => ?_) (fun hb24 => ?_)))))
 ·refine CW.cond_f rfl (not_t hb24) (CW.skip (tn (CW.seq (CW.region (sd rfl (yl_loadN (cs := [.int .i64 (p_d.From), .int .i64 (p_d.To), .slice A1 p_d.List.length c1]) Try.ty85 rfl rfl ((Box.ex q17 hE23).cells (n := 3) rfl) rfl (SeqR.u rfl rfl (yl_store (vs := [.int .i64 (p_d.From), .int .i64 (p_d.To), .slice A1 p_d.List.length c1]) Try.ty85 rfl rfl rfl rfl rfl rfl (Box.ex hB15 hE23) (Nat.le_of_ble_eq_true rfl) ?_))))))))
  intro w27 hB28 hO29
  have hB28 : Box w27 b11 85 [.int .i64 (p_d.From), .int .i64 (p_d.To), .slice A1 p_d.List.length c1] := hB28
  have hO29z := hO29.size
  refine sd rfl (yl_assign rfl rfl (SeqR.done (tn (CW.ret (rr rfl (.cons ⟨_, rfl, run_loadN Try.ty85 (cs := [.int .i64 (p_d.From), .int .i64 (p_d.To), .slice A1 p_d.List.length c1]) rfl (hB28.cells (n := 3) rfl)⟩ (.cons rfl .nil)) ?_)))))
  have hM30 : (i_ifDiff p_d) = ((p_d, true)) := by simp only [i_ifDiff, hb24, cond_true, cond_false, loopE_done, loopE_ret]
  rw [hM30]
  exact ⟨A1, c1, rfl, (OwnL.more (lo' := lo1) (hi' := hi1) (OwnL.only good_FeedItem (OwnL.ex good_FeedItem q20 hE23) hO29 (by omega)) (by omega) (by omega)), o2, (Below.only (Ex.trans (Ex.trans (Ex.trans (Ex.refl w) hE10) hE16) hE23) hO29 (by omega))⟩
 ·refine CW.cond_t rfl (not_f hb24) (CW.seq (CW.region (sd rfl (yl_build (cs := [.int .i64 (0), .int .i64 (0), .slice none 0 0]) rfl opvs_nil (by kernel_rfl) (SeqR.u rfl rfl (yl_store (vs := [.int .i64 (0), .int .i64 (0), .slice none 0 0]) Try.ty85 rfl rfl rfl rfl rfl rfl (Box.ex hB15 hE23) (Nat.le_of_ble_eq_true rfl) ?_))))))
  intro w38 hB39 hO40
  have hB39 : Box w38 b11 85 [.int .i64 (0), .int .i64 (0), .slice none 0 0] := hB39
  have hO40z := hO40.size
  refine sd rfl (yl_assign rfl rfl (SeqR.done (tn (CW.ret (tr (rr rfl (.cons ⟨_, rfl, run_loadN Try.ty85 (cs := [.int .i64 (0), .int .i64 (0), .slice none 0 0]) rfl (hB39.cells (n := 3) rfl)⟩ (.cons rfl .nil)) ?_))))))
  have hM41 : (i_ifDiff p_d) = (((⟨0, 0, []⟩ : DDiff), false)) := by simp only [i_ifDiff, hb24, cond_true, cond_false, loopE_done, loopE_ret]
  rw [hM41]
  exact ⟨none, 0, rfl, (OwnL.nil _ _ _ _ _ _), (okL.nil _), (Below.only (Ex.trans (Ex.trans (Ex.trans (Ex.refl w) hE10) hE16) hE23) hO40 (by omega))⟩
set_option maxRecDepth 100000 in
set_option maxHeartbeats 2000000 in
theorem c_g_slices_Concat_FeedItem {A1 : Option Addr} {c1 : Nat} {w : World} (p_slices : List (List DFeedItem)) (h1 : RdS w (Iv 0 w.heap.size) R_LFeedItem 1 A1 p_slices.length c1 p_slices) (o2 : (okL (okL ok_FeedItem)) p_slices) (pre0 : p_slices.length ≤ 4) : Cal Try.prog 103 #[.slice A1 p_slices.length c1] w fun v w' => ∃ A_1 c_1 lo_1 hi_1, v = .slice A_1 ((g_slices_Concat_FeedItem p_slices).length) c_1 ∧ OwnL w' lo_1 hi_1 140 5 (RF e_FeedItem) A_1 ((g_slices_Concat_FeedItem p_slices).length) c_1 (g_slices_Concat_FeedItem p_slices) ∧ (w.heap.size ≤ lo_1 ∧ lo_1 ≤ hi_1 ∧ hi_1 ≤ w'.heap.size) ∧ Ex w w' := by
 have hol3 := o2.1
 refine Cal.of (vs := [.slice A1 p_slices.length c1]) Try.func103 rfl Try.ntmps103 rfl (CW.seq (CW.region (sd rfl (yl_assign rfl rfl (SeqR.done (tn (CW.seq (CW.region (sd rfl (yl_assign rfl rfl ?_))))))))))
 refine SeqR.done (tn (CW.seq (CW.seq (CW.region (sd rfl (yl_move rfl rfl (sd rfl (yl_len Try.un192 rfl rfl (sd rfl (yl_move rfl rfl (SeqR.done ?_)))))))))))
 refine tn (CW.block (CW.loop (fun m6 L7 w8 => ∃ (k4 : Nat) (x5 : Int), m6 = p_slices.length - k4 ∧ k4 ≤ p_slices.length ∧ w.heap.size ≤ w8.heap.size ∧ lkp L7 0 = some (.slice A1 p_slices.length c1) ∧ lkp L7 3 = some (.int .i64 (x5)) ∧ lkp L7 9 = some (.slice A1 p_slices.length c1) ∧ lkp L7 10 = some (.int .i64 ((p_slices.length : Int))) ∧ lkp L7 11 = some (.int .i64 ((k4 : Int))) ∧ RdS w8 (Iv 0 w.heap.size) R_LFeedItem 1 A1 p_slices.length c1 p_slices ∧ Ex w w8 ∧ 0 ≤ x5 ∧ x5 ≤ (k4 : Int) * 2147483648 ∧ loopM (B_g_slices_Concat_FeedItem_0 p_slices) (p_slices.length - k4) k4 (x5) = loopM (B_g_slices_Concat_FeedItem_0 p_slices) (p_slices.length - 0) 0 (0)) (p_slices.length - 0) ?_ ?_))
 ·exact ⟨0, 0, rfl, (by omega), Nat.le_refl _, rfl, rfl, rfl, rfl, rfl, h1, (Ex.refl w), (by first | omega | (simp only [IntKind.wrap_i64]; omega)), (by first | omega | (simp only [IntKind.wrap_i64]; omega)), rfl⟩
 ·rintro m9 L10 w11 ⟨k4, x5, rfl, hk12, hsz14, hl15, hl16, hl17, hl18, hl19, hf20, hf21, hv22, hv23, hI13⟩
  refine CW.sub (Sub.cons hl15 (Sub.cons hl16 (Sub.cons hl17 (Sub.cons hl18 (Sub.cons hl19 (Sub.nil _)))))) ?_
  have hf21z := Ex.size hf21
  have hbg24 := RdS.big hf20
  rcases Nat.lt_or_ge k4 p_slices.length with hlt25 | hlt25
  ·have hcl := (‹okL (okL ok_FeedItem) _›.2 _ (getD_mem (d := d_LFeedItem) hlt25)).1
   refine CW.seq (CW.region (sd rfl (yl_lss rfl rfl rfl (SeqR.done (tn (CW.seq (CW.cond_t rfl (lt_t hlt25) (CW.skip (tn ?_)))))))))
   refine CW.seq (CW.block (CW.seq (CW.region ?_)))
   obtain ⟨eb26, eo26, ec26, eA26, eS26, ebl26, el26, eR26, eC26⟩ := RdS.atD hf20 d_LFeedItem (i := k4) (by first | omega | assumption)
   obtain ⟨A27, c27, rfl, h27⟩ := eR26
   have eC26 : Cells w11 eb26 (eo26 + k4 * 1) [.slice A27 ((p_slices.getD k4 d_LFeedItem).length) c27] := eC26
   refine sd rfl (yl_indexAddrN Try.un192 Try.ty83 rfl rfl rfl eA26 (by first | omega | assumption | (simp only [IntKind.wrap_i64] at *; omega)) (sd rfl (yl_load1 Try.ty83 rfl rfl (eC26 0 _ rfl) (sd rfl (yl_assign rfl rfl (SeqR.done (tn (CW.seq (CW.region (sd rfl (yl_move rfl rfl (sd rfl (yl_move rfl rfl ?_)))))))))))))
   refine sd rfl (yl_len Try.un83 rfl rfl (sd rfl (yl_add rfl rfl rfl (sd rfl (yl_assign rfl rfl (SeqR.done (tn (CW.seq (CW.region (sd rfl (yl_move rfl rfl (sd rfl (yl_lss rfl rfl rfl ?_)))))))))))))
   refine SeqR.done (tn (CW.cond_f rfl (decide_eq_false (by simp only [IntKind.wrap_i64]; omega)) (CW.skip (bn (tn (CW.region (sd rfl (yl_inc rfl rfl rfl (by omega) (sd rfl (yl_move rfl rfl ?_))))))))))
   refine SeqR.done (tn ?_)
   have hB28 : B_g_slices_Concat_FeedItem_0 p_slices k4 (x5) = .cont (IntKind.wrap .i64 (x5 + ((p_slices.getD k4 d_LFeedItem).length : Int))) := by simp only [B_g_slices_Concat_FeedItem_0, cond_true, cond_false, loopE_done, loopE_ret]
   exact ⟨p_slices.length - (k4 + 1), by omega, k4 + 1, IntKind.wrap .i64 (x5 + ((p_slices.getD k4 d_LFeedItem).length : Int)), rfl, hlt25, (by omega), rfl, rfl, rfl, rfl, rfl, hf20, hf21, (by first | omega | (simp only [IntKind.wrap_i64]; omega)), (by first | omega | (simp only [IntKind.wrap_i64]; omega)), (loopM.cont hlt25 hB28).symm.trans hI13⟩
  ·refine CW.seq (CW.region (sd rfl (yl_lss rfl rfl rfl (SeqR.done (tn (CW.seq (CW.cond_f rfl (lt_f hlt25) (CW.exit (tx ?_)))))))))
   refine tx ?_
   have hL29 : loopM (B_g_slices_Concat_FeedItem_0 p_slices) (p_slices.length - 0) 0 (0) = .done (x5) := hI13.symm.trans (loopM.stop hlt25)
   refine bx (tn (CW.seq (CW.region (sd rfl (yl_move rfl rfl (sd rfl (yl_call Try.en153 rfl (opvs_cons rfl (opvs_cons rfl opvs_nil)) (Cal.mono (c_g_slices_Grow_FeedItem x5 (by first | omega | assumption | (simp only [IntKind.wrap_i64] at *; omega))) ?_))))))))
   rintro v32 w30 ⟨A31, c31, lo31, hi31, rfl, h31, hrn34, hE33⟩
   have hE33z := Ex.size hE33
   have hrf35 := (show (g_slices_Grow_FeedItem x5).length = 0 from rfl)
   refine sd rfl (yl_assign rfl rfl (SeqR.done (tn (CW.seq (CW.seq (CW.region (sd rfl (yl_move rfl rfl (sd rfl (yl_len Try.un192 rfl rfl (sd rfl (yl_move rfl rfl ?_))))))))))))
   refine SeqR.done (tn (CW.block (CW.loop (fun m55 L56 w57 => ∃ (k36 : Nat) (x51 : List DFeedItem) (A52 : Option Addr) (c53 : Nat) (u54 : Nat), m55 = p_slices.length - k36 ∧ k36 ≤ p_slices.length ∧ w30.heap.size ≤ w57.heap.size ∧ lkp L56 6 = some (.slice A52 x51.length c53) ∧ lkp L56 25 = some (.slice A1 p_slices.length c1) ∧ lkp L56 26 = some (.int .i64 ((p_slices.length : Int))) ∧ lkp L56 27 = some (.int .i64 ((k36 : Int))) ∧ OwnL w57 lo31 u54 140 5 (RF e_FeedItem) A52 x51.length c53 x51 ∧ RdS w57 (Iv 0 w.heap.size) R_LFeedItem 1 A1 p_slices.length c1 p_slices ∧ Ex w w57 ∧ (lo31 ≤ u54 ∧ u54 ≤ w57.heap.size) ∧ x51.length ≤ (g_slices_Grow_FeedItem x5).length + 2147483648 * (k36 - 0) ∧ loopM (B_g_slices_Concat_FeedItem_1 p_slices x5) (p_slices.length - k36) k36 (x51) = loopM (B_g_slices_Concat_FeedItem_1 p_slices x5) (p_slices.length - 0) 0 ((g_slices_Grow_FeedItem x5))) (p_slices.length - 0) ?_ ?_)))
   ·exact ⟨0, (g_slices_Grow_FeedItem x5), A31, c31, hi31, rfl, (by omega), Nat.le_refl _, rfl, rfl, rfl, rfl, h31, (RdS.ex good_LFeedItem hf20 hE33), (Ex.trans hf21 hE33), (by omega), (by first | (simp; done) | (first | omega | (simp only [List.length_append, List.length_cons, List.length_nil, List.length_set, toS_length]; omega))), rfl⟩
   ·rintro m60 L61 w62 ⟨k36, x51, A52, c53, u54, rfl, hk63, hsz65, hl66, hl67, hl68, hl69, hf70, hf71, hf72, hu73, hln74, hI64⟩
    refine CW.sub (Sub.cons hl66 (Sub.cons hl67 (Sub.cons hl68 (Sub.cons hl69 (Sub.nil _))))) ?_
    have hf72z := Ex.size hf72
    have hbg75 := RdS.big hf71
    rcases Nat.lt_or_ge k36 p_slices.length with hlt76 | hlt76
    ·have hcl := (‹okL (okL ok_FeedItem) _›.2 _ (getD_mem (d := d_LFeedItem) hlt76)).1
     refine CW.seq (CW.region (sd rfl (yl_lss rfl rfl rfl (SeqR.done (tn (CW.seq (CW.cond_t rfl (lt_t hlt76) (CW.skip (tn ?_)))))))))
     refine CW.seq (CW.block (CW.seq (CW.region ?_)))
     obtain ⟨eb77, eo77, ec77, eA77, eS77, ebl77, el77, eR77, eC77⟩ := RdS.atD hf71 d_LFeedItem (i := k36) (by first | omega | assumption)
     obtain ⟨A78, c78, rfl, h78⟩ := eR77
     have eC77 : Cells w62 eb77 (eo77 + k36 * 1) [.slice A78 ((p_slices.getD k36 d_LFeedItem).length) c78] := eC77
     refine sd rfl (yl_indexAddrN Try.un192 Try.ty83 rfl rfl rfl eA77 (by first | omega | assumption | (simp only [IntKind.wrap_i64] at *; omega)) (sd rfl (yl_load1 Try.ty83 rfl rfl (eC77 0 _ rfl) (sd rfl (yl_assign rfl rfl (SeqR.done (tn (CW.region (sd rfl (yl_move rfl rfl (sd rfl (yl_move rfl rfl ?_))))))))))))
     obtain ⟨nw79, he80, hs81⟩ := RdS.src h78
     have hol82 : (p_slices.getD k36 d_LFeedItem).length ≤ 2147483648 := (okL.getD o2 ok_d_LFeedItem _).1
     refine sd rfl (yl_appendL (S := (fun _ => False)) (lo := lo31) (hi := u54) (xs := x51) (ys := (p_slices.getD k36 d_LFeedItem)) good_FeedItem Try.un83 Try.ty140 rfl (Nat.le_of_ble_eq_true rfl) rfl rfl rfl hf70 he80 hs81 rfl (by first | omega | (simp only [List.length_append, List.length_cons, List.length_nil, List.length_take, List.length_drop, List.length_replicate, List.length_set, toS_length]; omega)) (by first | omega | (simp only [List.length_append, List.length_cons, List.length_nil, List.length_take, List.length_drop, List.length_replicate, List.length_set, toS_length]; omega)) (by omega) (by omega) (fun _ h _ => False.elim h) (by omega) ?_)
     intro A83 c84 w85 row86 hO87 hG88 hrg89
     have hG88z := hG88.size
     refine sd rfl (yl_assign rfl rfl (SeqR.done (bn (tn (CW.region (sd rfl (yl_inc rfl rfl rfl (by omega) (sd rfl (yl_move rfl rfl (SeqR.done (tn ?_)))))))))))
     have hB90 : B_g_slices_Concat_FeedItem_1 p_slices x5 k36 (x51) = .cont ((x51 ++ (p_slices.getD k36 d_LFeedItem))) := by simp only [B_g_slices_Concat_FeedItem_1, hL29, cond_true, cond_false, loopE_done, loopE_ret]
     exact ⟨p_slices.length - (k36 + 1), by omega, k36 + 1, (x51 ++ (p_slices.getD k36 d_LFeedItem)), A83, c84, w85.heap.size, rfl, hlt76, (by omega), rfl, rfl, rfl, rfl, hO87, (RdS.grown good_LFeedItem hf71 hG88 (fun k hk => by have := hrg89 k hk; simp only [Iv]; omega)), (Below.grown hf72 hG88 (by omega) (fun k hk => by have := hrg89 k hk; omega)), (by omega), (by first | omega | (simp only [List.length_append, List.length_cons, List.length_nil, List.length_set, toS_length]; omega)), (loopM.cont hlt76 hB90).symm.trans hI64⟩
    ·refine CW.seq (CW.region (sd rfl (yl_lss rfl rfl rfl (SeqR.done (tn (CW.seq (CW.cond_f rfl (lt_f hlt76) (CW.exit (tx ?_)))))))))
     refine tx ?_
     have hL93 : loopM (B_g_slices_Concat_FeedItem_1 p_slices x5) (p_slices.length - 0) 0 ((g_slices_Grow_FeedItem x5)) = .done (x51) := hI64.symm.trans (loopM.stop hlt76)
     refine bx (tn (CW.seq (CW.region (sd rfl (yl_move rfl rfl (sd rfl (yl_assign rfl rfl (SeqR.done (tn (CW.ret ?_))))))))))
     refine rr rfl (.cons rfl .nil) ?_
     have hM94 : (g_slices_Concat_FeedItem p_slices) = (x51) := by simp only [g_slices_Concat_FeedItem, hL29, hL93, cond_true, cond_false, loopE_done, loopE_ret]
     rw [hM94]
     exact ⟨A52, c53, lo31, u54, rfl, hf70, (by omega), hf72⟩
set_option maxRecDepth 100000 in
set_option maxHeartbeats 2000000 in
theorem c_i_JoinDiffs {A1 : Option Addr} {c1 : Nat} {A3 : Option Addr} {c3 : Nat} {w : World} (p_a : DDiff) (p_b : DDiff) (h1 : RdS w (Iv 0 w.heap.size) (RF e_FeedItem) 5 A1 p_a.List.length c1 p_a.List) (h3 : RdS w (Iv 0 w.heap.size) (RF e_FeedItem) 5 A3 p_b.List.length c3 p_b.List) (o2 : ok_Diff p_a) (o4 : ok_Diff p_b) : Cal Try.prog 47 #[.agg #[.int .i64 (p_a.From), .int .i64 (p_a.To), .slice A1 p_a.List.length c1], .agg #[.int .i64 (p_b.From), .int .i64 (p_b.To), .slice A3 p_b.List.length c3]] w fun v w' => ∃ A_1 c_1 lo_1 hi_1, v = .tuple #[.agg #[.int .i64 ((i_JoinDiffs p_a p_b).1.From), .int .i64 ((i_JoinDiffs p_a p_b).1.To), .slice A_1 (((i_JoinDiffs p_a p_b).1.List).length) c_1], .bool ((i_JoinDiffs p_a p_b).2)] ∧ OwnL w' lo_1 hi_1 140 5 (RF e_FeedItem) A_1 (((i_JoinDiffs p_a p_b).1.List).length) c_1 ((i_JoinDiffs p_a p_b).1.List) ∧ ok_Diff ((i_JoinDiffs p_a p_b).1) ∧ (w.heap.size ≤ lo_1 ∧ lo_1 ≤ hi_1 ∧ hi_1 ≤ w'.heap.size) ∧ Ex w w' := by
 have hol5 := o2.1
 have hol6 := o4.1
 refine Cal.of (vs := [.agg #[.int .i64 (p_a.From), .int .i64 (p_a.To), .slice A1 p_a.List.length c1], .agg #[.int .i64 (p_b.From), .int .i64 (p_b.To), .slice A3 p_b.List.length c3]]) Try.func47 rfl Try.ntmps47 rfl (CW.seq (CW.region (sd rfl (yl_box (cs := [.int .i64 (p_a.From), .int .i64 (p_a.To), .slice A1 p_a.List.length c1]) rfl rfl rfl ?_))))
 intro b7 w8 hs9 hz10 hB11 hE12
 refine sd rfl (yl_box (cs := [.int .i64 (p_b.From), .int .i64 (p_b.To), .slice A3 p_b.List.length c3]) rfl rfl rfl ?_)
 intro b13 w14 hs15 hz16 hB17 hE18
 refine sd rfl (yl_alloc Try.ty85 (cs := [.int .i64 (0), .int .i64 (0), .slice none 0 0]) rfl rfl ?_)
 intro b19 w20 hs21 hz22 hB23 hE24
 refine sd rfl (yl_assign rfl rfl (SeqR.done (tn (CW.seq (CW.seq (CW.region ?_))))))
 have q26 := Box.ex (Box.ex hB11 hE18) hE24
 refine sd rfl (yl_loadN (cs := [.int .i64 (p_a.From), .int .i64 (p_a.To), .slice A1 p_a.List.length c1]) Try.ty85 rfl rfl (q26.cells (n := 3) rfl) rfl ?_)
 have q29 := RdS.ex good_FeedItem (RdS.ex good_FeedItem (RdS.ex good_FeedItem h1 hE12) hE18) hE24
 refine sd rfl (yl_call Try.en101 rfl (opvs_cons rfl opvs_nil) (Cal.mono (c_i_GoodDiff p_a (RdS.up q29 good_FeedItem) o2) ?_))
 rintro v31 w30 ⟨rfl, hE32⟩
 have hE32z := Ex.size hE32
 refine sd rfl (yl_not rfl rfl (sd rfl (yl_move rfl rfl (bcase (i_GoodDiff p_a) (fun hb33 => ?_) (fun hb33 => ?_)))))
 ·have hb33p := (fun h => (f_i_GoodDiff h).1) hb33
  have q35 := Box.ex (Box.ex hB17 hE24) hE32
  refine sy rfl rfl (not_t hb33) (yl_loadN (cs := [.int .i64 (p_b.From), .int .i64 (p_b.To), .slice A3 p_b.List.length c3]) Try.ty85 rfl rfl (q35.cells (n := 3) rfl) rfl ?_)
  have q39 := RdS.ex good_FeedItem (RdS.ex good_FeedItem (RdS.ex good_FeedItem (RdS.ex good_FeedItem h3 hE12) hE18) hE24) hE32
  refine sy rfl rfl (not_t hb33) (yl_call Try.en101 rfl (opvs_cons rfl opvs_nil) (Cal.mono (c_i_GoodDiff p_b (RdS.up q39 good_FeedItem) o4) ?_))
  rintro v41 w40 ⟨rfl, hE42⟩
  have hE42z := Ex.size hE42
  refine sy rfl rfl (not_t hb33) (yl_not rfl rfl (sd rfl (yl_pick_f rfl rfl (not_t hb33) rfl (sd rfl (yl_move rfl rfl (bcase (i_GoodDiff p_b) (fun hb43 => ?_) (fun hb43 => ?_)))))))
  ·have hb43p := (fun h => (f_i_GoodDiff h).1) hb43
   refine sy rfl rfl (not_t hb43) (yl_fieldAddr Try.fd85_1 rfl rfl ?_)
   have q45 := Box.ex (Box.ex q26 hE32) hE42
   refine sy rfl rfl (not_t hb43) (yl_load1 Try.ty3 rfl rfl ((q45.cell 1).trans rfl) (sy rfl rfl (not_t hb43) (yl_fieldAddr Try.fd85_0 rfl rfl ?_)))
   have q46 := Box.ex q35 hE42
   refine sy rfl rfl (not_t hb43) (yl_load1 Try.ty3 rfl rfl ((q46.cell 0).trans rfl) (sy rfl rfl (not_t hb43) (yl_neq rfl rfl rfl (sd rfl (yl_pick_f rfl rfl (not_t hb43) rfl (SeqR.done (tn (bcase (decide (p_a.To = p_b.From)) (fun hb47 => ?_) (fun hb47 => ?_)))))))))
   ·have hb47p := dec_t hb47
    refine CW.cond_f rfl (not_t hb47) (CW.skip (tn (CW.seq (CW.drawsG 14 (fun _ _ => False) (fun _ _ _ => False) (vgetG [DetG (.pointer (some ⟨b7, 0 + 0, none⟩)), DetG (.int .i64 (p_a.From)), DetG (.pointer (some ⟨b13, 0 + 1, none⟩)), DetG (.int .i64 (p_b.To)), DetG (.pointer (some ⟨b7, 0 + 2, none⟩)), DetG (.slice A1 p_a.List.length c1), DetG (.pointer (some ⟨b13, 0 + 2, none⟩)), DetG (.slice A3 p_b.List.length c3), fun G v wq => ∃ A48, v = .slice A48 2 2 ∧ OwnL wq 0 (G.fh 8) 83 1 R_LFeedItem A48 2 2 ([p_a.List, p_b.List] : List (List DFeedItem)), fun G v wq => ∃ A52 c52 lo52 hi52, v = .slice A52 ((g_slices_Concat_FeedItem ([p_a.List, p_b.List] : List (List DFeedItem))).length) c52 ∧ OwnL wq lo52 hi52 140 5 (RF e_FeedItem) A52 ((g_slices_Concat_FeedItem ([p_a.List, p_b.List] : List (List DFeedItem))).length) c52 (g_slices_Concat_FeedItem ([p_a.List, p_b.List] : List (List DFeedItem))) ∧ ((G.fl 9) ≤ lo52 ∧ lo52 ≤ hi52 ∧ hi52 ≤ (G.fh 9)), fun G v wq => ∃ A52 c52 lo52 hi52, v = .agg #[.int .i64 (p_a.From), .int .i64 (p_b.To), .slice A52 ((g_slices_Concat_FeedItem ([p_a.List, p_b.List] : List (List DFeedItem))).length) c52] ∧ OwnL wq lo52 hi52 140 5 (RF e_FeedItem) A52 ((g_slices_Concat_FeedItem ([p_a.List, p_b.List] : List (List DFeedItem))).length) c52 (g_slices_Concat_FeedItem ([p_a.List, p_b.List] : List (List DFeedItem))) ∧ ((G.fl 9) ≤ lo52 ∧ lo52 ≤ hi52 ∧ hi52 ≤ (G.fh 9)), fun G v wq => ∃ A55 c55, v = .tuple #[.agg #[.int .i64 ((i_ifDiff (⟨p_a.From, p_b.To, (g_slices_Concat_FeedItem ([p_a.List, p_b.List] : List (List DFeedItem)))⟩ : DDiff)).1.From), .int .i64 ((i_ifDiff (⟨p_a.From, p_b.To, (g_slices_Concat_FeedItem ([p_a.List, p_b.List] : List (List DFeedItem)))⟩ : DDiff)).1.To), .slice A55 (((i_ifDiff (⟨p_a.From, p_b.To, (g_slices_Concat_FeedItem ([p_a.List, p_b.List] : List (List DFeedItem)))⟩ : DDiff)).1.List).length) c55], .bool ((i_ifDiff (⟨p_a.From, p_b.To, (g_slices_Concat_FeedItem ([p_a.List, p_b.List] : List (List DFeedItem)))⟩ : DDiff)).2)] ∧ OwnL wq (G.fl 9) (G.fh 9) 140 5 (RF e_FeedItem) A55 (((i_ifDiff (⟨p_a.From, p_b.To, (g_slices_Concat_FeedItem ([p_a.List, p_b.List] : List (List DFeedItem)))⟩ : DDiff)).1.List).length) c55 ((i_ifDiff (⟨p_a.From, p_b.To, (g_slices_Concat_FeedItem ([p_a.List, p_b.List] : List (List DFeedItem)))⟩ : DDiff)).1.List) ∧ ok_Diff ((i_ifDiff (⟨p_a.From, p_b.To, (g_slices_Concat_FeedItem ([p_a.List, p_b.List] : List (List DFeedItem)))⟩ : DDiff)).1), fun G v wq => ∃ A55 c55, v = .agg #[.int .i64 ((i_ifDiff (⟨p_a.From, p_b.To, (g_slices_Concat_FeedItem ([p_a.List, p_b.List] : List (List DFeedItem)))⟩ : DDiff)).1.From), .int .i64 ((i_ifDiff (⟨p_a.From, p_b.To, (g_slices_Concat_FeedItem ([p_a.List, p_b.List] : List (List DFeedItem)))⟩ : DDiff)).1.To), .slice A55 (((i_ifDiff (⟨p_a.From, p_b.To, (g_slices_Concat_FeedItem ([p_a.List, p_b.List] : List (List DFeedItem)))⟩ : DDiff)).1.List).length) c55] ∧ OwnL wq (G.fl 9) (G.fh 9) 140 5 (RF e_FeedItem) A55 (((i_ifDiff (⟨p_a.From, p_b.To, (g_slices_Concat_FeedItem ([p_a.List, p_b.List] : List (List DFeedItem)))⟩ : DDiff)).1.List).length) c55 ((i_ifDiff (⟨p_a.From, p_b.To, (g_slices_Concat_FeedItem ([p_a.List, p_b.List] : List (List DFeedItem)))⟩ : DDiff)).1.List), DetG (.bool ((i_ifDiff (⟨p_a.From, p_b.To, (g_slices_Concat_FeedItem ([p_a.List, p_b.List] : List (List DFeedItem)))⟩ : DDiff)).2))]) Try.follows rfl rfl rfl rfl rfl rfl (fun _ _ _ _ _ h => h) (fun _ _ _ _ _ _ _ _ _ h => h.elim) (vgetG_kept ⟨(KeptG.det _), (KeptG.det _), (KeptG.det _), (KeptG.det _), (KeptG.det _), (KeptG.det _), (KeptG.det _), (KeptG.det _), (by rintro i G v w w' K hn hh hj ⟨A48, hv, h0⟩ e; have d8 : G.dn 8 = true := hj; have u8 := Gh.ufl (lo := w.heap.size) (hi := w'.heap.size) d8 hn; have t8 := Gh.ufh (lo := w.heap.size) (hi := w'.heap.size) d8 hn; exact ⟨A48, hv, (by simp only [u8, t8]; exact OwnL.chg good_LFeedItem h0 e (fun b hb hp => by exact hp.elim))⟩), (by rintro i G v w w' K hn hh hj ⟨A52, c52, lo52, hi52, hv, h0, hr0⟩ e; have d9 : G.dn 9 = true := hj; have u9 := Gh.ufl (lo := w.heap.size) (hi := w'.heap.size) d9 hn; have t9 := Gh.ufh (lo := w.heap.size) (hi := w'.heap.size) d9 hn; exact ⟨A52, c52, lo52, hi52, hv, (by exact OwnL.chg good_FeedItem h0 e (fun b hb hp => by exact hp.elim)), (by simp only [u9, t9]; exact hr0)⟩), (by rintro i G v w w' K hn hh hj ⟨A52, c52, lo52, hi52, hv, h0, hr0⟩ e; have d9 : G.dn 9 = true := K.cl 10 9 hj rfl; have u9 := Gh.ufl (lo := w.heap.size) (hi := w'.heap.size) d9 hn; have t9 := Gh.ufh (lo := w.heap.size) (hi := w'.heap.size) d9 hn; exact ⟨A52, c52, lo52, hi52, hv, (by exact OwnL.chg good_FeedItem h0 e (fun b hb hp => by exact hp.elim)), (by simp only [u9, t9]; exact hr0)⟩), (by rintro i G v w w' K hn hh hj ⟨A55, c55, hv, h0, h1⟩ e; have d9 : G.dn 9 = true := K.cl 11 9 hj rfl; have u9 := Gh.ufl (lo := w.heap.size) (hi := w'.heap.size) d9 hn; have t9 := Gh.ufh (lo := w.heap.size) (hi := w'.heap.size) d9 hn; exact ⟨A55, c55, hv, (by simp only [u9, t9]; exact OwnL.chg good_FeedItem h0 e (fun b hb hp => by exact hp.elim)), h1⟩), (by rintro i G v w w' K hn hh hj ⟨A55, c55, hv, h0⟩ e; have d9 : G.dn 9 = true := K.cl 12 9 hj rfl; have u9 := Gh.ufl (lo := w.heap.size) (hi := w'.heap.size) d9 hn; have t9 := Gh.ufh (lo := w.heap.size) (hi := w'.heap.size) d9 hn; exact ⟨A55, c55, hv, (by simp only [u9, t9]; exact OwnL.chg good_FeedItem h0 e (fun b hb hp => by exact hp.elim))⟩), (KeptG.det _), trivial⟩) ⟨?_, ?_, ?_, ?_, ?_, ?_, ?_, ?_, ?_, ?_, ?_, ?_, ?_, ?_, trivial⟩ ?_))))
    ·intro L59 w60 G58 hgk61
     have hE62 := hgk61.st.ex.ex (fun b h => h.elim (fun h => h.elim) (fun h => h))
     have hE62z := Ex.size hE62
     exact OpR.op' rfl (Yl.sameG (yl_fieldAddr Try.fd85_0 rfl (hgk61.old 2 _ rfl rfl) kI))
    ·intro L65 w66 G64 hgk67
     have hE68 := hgk67.st.ex.ex (fun b h => h.elim (fun h => h.elim) (fun h => h))
     have hE68z := Ex.size hE68
     obtain ⟨_, hx69, rfl⟩ := hgk67.val 0 22 rfl rfl
     exact OpR.op' rfl (Yl.sameG (yl_load1 Try.ty3 rfl hx69 (((Box.ex q45 hE68).cell 0).trans rfl) kI))
    ·intro L72 w73 G71 hgk74
     have hE75 := hgk74.st.ex.ex (fun b h => h.elim (fun h => h.elim) (fun h => h))
     have hE75z := Ex.size hE75
     exact OpR.op' rfl (Yl.sameG (yl_fieldAddr Try.fd85_1 rfl (hgk74.old 3 _ rfl rfl) kI))
    ·intro L78 w79 G77 hgk80
     have hE81 := hgk80.st.ex.ex (fun b h => h.elim (fun h => h.elim) (fun h => h))
     have hE81z := Ex.size hE81
     obtain ⟨_, hx82, rfl⟩ := hgk80.val 2 24 rfl rfl
     exact OpR.op' rfl (Yl.sameG (yl_load1 Try.ty3 rfl hx82 (((Box.ex q46 hE81).cell 1).trans rfl) kI))
    ·intro L85 w86 G84 hgk87
     have hE88 := hgk87.st.ex.ex (fun b h => h.elim (fun h => h.elim) (fun h => h))
     have hE88z := Ex.size hE88
     exact OpR.op' rfl (Yl.sameG (yl_fieldAddr Try.fd85_2 rfl (hgk87.old 2 _ rfl rfl) kI))
    ·intro L91 w92 G90 hgk93
     have hE94 := hgk93.st.ex.ex (fun b h => h.elim (fun h => h.elim) (fun h => h))
     have hE94z := Ex.size hE94
     obtain ⟨_, hx95, rfl⟩ := hgk93.val 4 26 rfl rfl
     exact OpR.op' rfl (Yl.sameG (yl_load1 Try.ty83 rfl hx95 (((Box.ex q45 hE94).cell 2).trans rfl) kI))
    ·intro L98 w99 G97 hgk100
     have hE101 := hgk100.st.ex.ex (fun b h => h.elim (fun h => h.elim) (fun h => h))
     have hE101z := Ex.size hE101
     exact OpR.op' rfl (Yl.sameG (yl_fieldAddr Try.fd85_2 rfl (hgk100.old 3 _ rfl rfl) kI))
    ·intro L104 w105 G103 hgk106
     have hE107 := hgk106.st.ex.ex (fun b h => h.elim (fun h => h.elim) (fun h => h))
     have hE107z := Ex.size hE107
     obtain ⟨_, hx108, rfl⟩ := hgk106.val 6 28 rfl rfl
     exact OpR.op' rfl (Yl.sameG (yl_load1 Try.ty83 rfl hx108 (((Box.ex q46 hE107).cell 2).trans rfl) kI))
    ·intro L111 w112 G110 hgk113
     have hE114 := hgk113.st.ex.ex (fun b h => h.elim (fun h => h.elim) (fun h => h))
     have hE114z := Ex.size hE114
     obtain ⟨_, hx115, rfl⟩ := hgk113.val 5 27 rfl rfl
     obtain ⟨_, hx116, rfl⟩ := hgk113.val 7 29 rfl rfl
     refine OpR.op' rfl (yl_buildSlice (cs := [.slice A1 p_a.List.length c1, .slice A3 p_b.List.length c3]) Try.un192 Try.ty83 (by decide) rfl (opvs_cons hx115 (opvs_cons hx116 opvs_nil)) (by kernel_rfl) ?_)
     intro b117 w118 hs119 hz120 hB121 hE122
     have hO123 : OwnL w118 0 (b117 + 1) 83 1 R_LFeedItem (some ⟨b117, 0, none⟩) 2 2 ([p_a.List, p_b.List] : List (List DFeedItem)) := OwnL.of_box (S := Iv 0 b117) hB121 (by omega) (Nat.lt_succ_self _) (EncL.cons (c := [.slice A1 p_a.List.length c1]) rfl ⟨A1, c1, rfl, (RdS.ex good_FeedItem (RdS.wide good_FeedItem (RdS.ex good_FeedItem (RdS.ex good_FeedItem (RdS.ex good_FeedItem q29 hE32) hE42) hE114) (fun b hh hl => ⟨by first | exact Nat.zero_le _ | (have := hh.1; omega), by omega⟩)) hE122)⟩ (EncL.cons (c := [.slice A3 p_b.List.length c3]) rfl ⟨A3, c3, rfl, (RdS.ex good_FeedItem (RdS.wide good_FeedItem (RdS.ex good_FeedItem (RdS.ex good_FeedItem q39 hE42) hE114) (fun b hh hl => ⟨by first | exact Nat.zero_le _ | (have := hh.1; omega), by omega⟩)) hE122)⟩ EncL.nil)) (Nat.le_of_ble_eq_true rfl) (fun h => Nat.lt_irrefl _ h.2) (fun _ h => ⟨h.1, Nat.lt_succ_of_lt h.2⟩)
     exact ⟨Chg.of_ex hE122, (some ⟨b117, 0, none⟩), rfl, OwnL.more (lo' := 0) (hi' := w118.heap.size) hO123 (by omega) (by omega)⟩
    ·intro L130 w131 G129 hgk132
     have hE133 := hgk132.st.ex.ex (fun b h => h.elim (fun h => h.elim) (fun h => h))
     have hE133z := Ex.size hE133
     obtain ⟨_, hx134, A48_135, rfl, h136⟩ := hgk132.val 8 30 rfl rfl
     have hr137 := hgk132.st.rng 8 (hgk132.has 8 rfl)
     have hle138 := OwnL.len h136
     refine OpR.op' rfl (yl_call Try.en103 rfl (opvs_cons hx134 opvs_nil) (Cal.mono (Cal.args (by rw [← hle138] <;> rfl) (c_g_slices_Concat_FeedItem ([p_a.List, p_b.List] : List (List DFeedItem)) (RdS.fix (RdS.up (OwnL.rd good_LFeedItem h136) good_LFeedItem)) (okL.mk (Nat.le_of_ble_eq_true rfl) (okE.cons o2 (okE.cons o4 okE.nil))) (by first | omega | assumption | (simp only [IntKind.wrap_i64] at *; omega)))) ?_))
     rintro v142 w140 ⟨A141, c141, lo141, hi141, rfl, h141, hrn144, hE143⟩
     exact ⟨Chg.of_ex hE143, A141, c141, lo141, hi141, rfl, h141, hrn144⟩
    ·intro L146 w147 G145 hgk148
     have hE149 := hgk148.st.ex.ex (fun b h => h.elim (fun h => h.elim) (fun h => h))
     have hE149z := Ex.size hE149
     obtain ⟨_, hx150, rfl⟩ := hgk148.val 1 23 rfl rfl
     obtain ⟨_, hx151, rfl⟩ := hgk148.val 3 25 rfl rfl
     obtain ⟨_, hx152, A52_153, c52_154, lo52_155, hi52_156, rfl, h157, hrn158⟩ := hgk148.val 9 31 rfl rfl
     have hr159 := hgk148.st.rng 9 (hgk148.has 9 rfl)
     exact OpR.op' rfl (Yl.sameG (yl_build (cs := [.int .i64 (p_a.From), .int .i64 (p_b.To), .slice A52_153 ((g_slices_Concat_FeedItem ([p_a.List, p_b.List] : List (List DFeedItem))).length) c52_154]) rfl (opvs_cons hx150 (opvs_cons hx151 (opvs_cons hx152 opvs_nil))) (by kernel_rfl) ⟨fun _ _ => ⟨A52_153, c52_154, lo52_155, hi52_156, rfl, h157, (show ((G145.fl 9) ≤ lo52_155 ∧ lo52_155 ≤ hi52_156 ∧ hi52_156 ≤ (G145.fh 9)) by omega)⟩, rfl⟩))
    ·intro L161 w162 G160 hgk163
     have hE164 := hgk163.st.ex.ex (fun b h => h.elim (fun h => h.elim) (fun h => h))
     have hE164z := Ex.size hE164
     obtain ⟨_, hx165, A52_166, c52_167, lo52_168, hi52_169, rfl, h170, hrn171⟩ := hgk163.val 10 32 rfl rfl
     have hr172 := hgk163.st.rng 9 (hgk163.has 9 rfl)
     have hr173 := hgk163.st.rng 10 (hgk163.has 10 rfl)
     have hsp174 := hgk163.st.ord 10 9 (hgk163.has 10 rfl) rfl
     refine OpR.op' rfl (yl_call Try.en102 rfl (opvs_cons hx165 opvs_nil) (Cal.mono (c_i_ifDiff (⟨p_a.From, p_b.To, (g_slices_Concat_FeedItem ([p_a.List, p_b.List] : List (List DFeedItem)))⟩ : DDiff) h170 (by omega) (ok_concat2 ‹ok_Diff p_a› ‹ok_Diff p_b› (by omega) (by omega))) ?_))
     rintro v178 w175 ⟨A176, c176, rfl, h176, ho177, hE179⟩
     exact ⟨Chg.of_ex hE179, A176, c176, rfl, (OwnL.more (lo' := (G160.fl 9)) (hi' := (G160.fh 9)) h176 (by omega) (by omega)), ho177⟩
    ·intro L181 w182 G180 hgk183
     have hE184 := hgk183.st.ex.ex (fun b h => h.elim (fun h => h.elim) (fun h => h))
     have hE184z := Ex.size hE184
     obtain ⟨_, hx185, A55_186, c55_187, rfl, h188, h189⟩ := hgk183.val 11 33 rfl rfl
     have hr190 := hgk183.st.rng 9 (hgk183.has 9 rfl)
     have hr191 := hgk183.st.rng 11 (hgk183.has 11 rfl)
     have hsp192 := hgk183.st.ord 11 9 (hgk183.has 11 rfl) rfl
     exact OpR.op' rfl (Yl.sameG (yl_extract rfl hx185 rfl ⟨fun _ _ => ⟨A55_186, c55_187, rfl, (OwnL.more (lo' := (G180.fl 9)) (hi' := (G180.fh 9)) h188 (by omega) (by omega))⟩, rfl⟩))
    ·intro L194 w195 G193 hgk196
     have hE197 := hgk196.st.ex.ex (fun b h => h.elim (fun h => h.elim) (fun h => h))
     have hE197z := Ex.size hE197
     obtain ⟨_, hx198, A55_199, c55_200, rfl, h201, h202⟩ := hgk196.val 11 33 rfl rfl
     have hr203 := hgk196.st.rng 9 (hgk196.has 9 rfl)
     have hr204 := hgk196.st.rng 11 (hgk196.has 11 rfl)
     have hsp205 := hgk196.st.ord 11 9 (hgk196.has 11 rfl) rfl
     exact OpR.op' rfl (Yl.sameG (yl_extract rfl hx198 rfl kI))
    ·intro G206 L207 w208 hgp209
     have hE210 := hgp209.st.ex.ex (fun b h => h.elim (fun h => h.elim) (fun h => h))
     have hE210z := Ex.size hE210
     have hx211 := hgp209.old 4 _ rfl rfl
     obtain ⟨_, hx212, A48_213, rfl, h214⟩ := hgp209.val 8 30 rfl rfl
     obtain ⟨_, hx215, A52_216, c52_217, lo52_218, hi52_219, rfl, h220, hrn221⟩ := hgp209.val 9 31 rfl rfl
     obtain ⟨_, hx222, A52_223, c52_224, lo52_225, hi52_226, rfl, h227, hrn228⟩ := hgp209.val 10 32 rfl rfl
     obtain ⟨_, hx229, A55_230, c55_231, rfl, h232, h233⟩ := hgp209.val 11 33 rfl rfl
     obtain ⟨_, hx234, A55_235, c55_236, rfl, h237⟩ := hgp209.val 12 34 rfl rfl
     obtain ⟨_, hx238, rfl⟩ := hgp209.val 13 35 rfl rfl
     have hr239 := hgp209.st.rng 8 (hgp209.has 8 rfl)
     have hr240 := hgp209.st.rng 9 (hgp209.has 9 rfl)
     have hr241 := hgp209.st.rng 10 (hgp209.has 10 rfl)
     have hr242 := hgp209.st.rng 11 (hgp209.has 11 rfl)
     have hr243 := hgp209.st.rng 12 (hgp209.has 12 rfl)
     have hsp244 := hgp209.st.ord 9 8 (hgp209.has 9 rfl) rfl
     have hsp245 := hgp209.st.ord 10 8 (hgp209.has 10 rfl) rfl
     have hsp246 := hgp209.st.ord 11 8 (hgp209.has 11 rfl) rfl
     have hsp247 := hgp209.st.ord 12 8 (hgp209.has 12 rfl) rfl
     have hsp248 := hgp209.st.ord 10 9 (hgp209.has 10 rfl) rfl
     have hsp249 := hgp209.st.ord 11 9 (hgp209.has 11 rfl) rfl
     have hsp250 := hgp209.st.ord 12 9 (hgp209.has 12 rfl) rfl
     have hsp251 := hgp209.st.ord 11 10 (hgp209.has 11 rfl) rfl
     have hsp252 := hgp209.st.ord 12 10 (hgp209.has 12 rfl) rfl
     have hsp253 := hgp209.st.ord 12 11 (hgp209.has 12 rfl) rfl
     refine SeqR.u rfl rfl (yl_store (vs := [.int .i64 ((i_ifDiff (⟨p_a.From, p_b.To, (g_slices_Concat_FeedItem ([p_a.List, p_b.List] : List (List DFeedItem)))⟩ : DDiff)).1.From), .int .i64 ((i_ifDiff (⟨p_a.From, p_b.To, (g_slices_Concat_FeedItem ([p_a.List, p_b.List] : List (List DFeedItem)))⟩ : DDiff)).1.To), .slice A55_235 (((i_ifDiff (⟨p_a.From, p_b.To, (g_slices_Concat_FeedItem ([p_a.List, p_b.List] : List (List DFeedItem)))⟩ : DDiff)).1.List).length) c55_236]) Try.ty85 rfl hx211 hx234 rfl rfl rfl (Box.ex (Box.ex (Box.ex hB23 hE32) hE42) hE210) (Nat.le_of_ble_eq_true rfl) ?_)
     intro w257 hB258 hO259
     have hB258 : Box w257 b19 85 [.int .i64 ((i_ifDiff (⟨p_a.From, p_b.To, (g_slices_Concat_FeedItem ([p_a.List, p_b.List] : List (List DFeedItem)))⟩ : DDiff)).1.From), .int .i64 ((i_ifDiff (⟨p_a.From, p_b.To, (g_slices_Concat_FeedItem ([p_a.List, p_b.List] : List (List DFeedItem)))⟩ : DDiff)).1.To), .slice A55_235 (((i_ifDiff (⟨p_a.From, p_b.To, (g_slices_Concat_FeedItem ([p_a.List, p_b.List] : List (List DFeedItem)))⟩ : DDiff)).1.List).length) c55_236] := hB258
     have hO259z := hO259.size
     refine sd rfl (yl_assign rfl hx238 (SeqR.done (tn (CW.sub (Sub.cons (d := 4) hx211 (Sub.cons (d := 5) rfl (Sub.nil _))) (CW.ret (rr rfl (.cons ⟨_, rfl, run_loadN Try.ty85 (cs := [.int .i64 ((i_ifDiff (⟨p_a.From, p_b.To, (g_slices_Concat_FeedItem ([p_a.List, p_b.List] : List (List DFeedItem)))⟩ : DDiff)).1.From), .int .i64 ((i_ifDiff (⟨p_a.From, p_b.To, (g_slices_Concat_FeedItem ([p_a.List, p_b.List] : List (List DFeedItem)))⟩ : DDiff)).1.To), .slice A55_235 (((i_ifDiff (⟨p_a.From, p_b.To, (g_slices_Concat_FeedItem ([p_a.List, p_b.List] : List (List DFeedItem)))⟩ : DDiff)).1.List).length) c55_236]) rfl (hB258.cells (n := 3) rfl)⟩ (.cons rfl .nil)) ?_))))))
     have hM260 : (i_JoinDiffs p_a p_b) = (((i_ifDiff (⟨p_a.From, p_b.To, (g_slices_Concat_FeedItem ([p_a.List, p_b.List] : List (List DFeedItem)))⟩ : DDiff)).1, (i_ifDiff (⟨p_a.From, p_b.To, (g_slices_Concat_FeedItem ([p_a.List, p_b.List] : List (List DFeedItem)))⟩ : DDiff)).2)) := by simp only [i_JoinDiffs, hb33, hb43, hb47, cond_true, cond_false, loopE_done, loopE_ret]
     rw [hM260]
     exact ⟨A55_235, c55_236, (G206.fl 9), (G206.fh 9), rfl, (OwnL.only good_FeedItem h237 hO259 (by omega)), h233, (by omega), (Below.only (Ex.trans (Ex.trans (Ex.trans (Ex.trans (Ex.trans (Ex.trans (Ex.refl w) hE12) hE18) hE24) hE32) hE42) hE210) hO259 (by omega))⟩
   ·have hb47p := dec_f hb47
    refine CW.cond_t rfl (not_f hb47) (CW.seq (CW.region (sd rfl (yl_build (cs := [.int .i64 (0), .int .i64 (0), .slice none 0 0]) rfl opvs_nil (by kernel_rfl) (SeqR.u rfl rfl (yl_store (vs := [.int .i64 (0), .int .i64 (0), .slice none 0 0]) Try.ty85 rfl rfl rfl rfl rfl rfl (Box.ex (Box.ex hB23 hE32) hE42) (Nat.le_of_ble_eq_true rfl) ?_))))))
    intro w271 hB272 hO273
    have hB272 : Box w271 b19 85 [.int .i64 (0), .int .i64 (0), .slice none 0 0] := hB272
    have hO273z := hO273.size
    refine sd rfl (yl_assign rfl rfl (SeqR.done (tn (CW.ret (tr (rr rfl (.cons ⟨_, rfl, run_loadN Try.ty85 (cs := [.int .i64 (0), .int .i64 (0), .slice none 0 0]) rfl (hB272.cells (n := 3) rfl)⟩ (.cons rfl .nil)) ?_))))))
    have hM274 : (i_JoinDiffs p_a p_b) = (((⟨0, 0, []⟩ : DDiff), false)) := by simp only [i_JoinDiffs, hb33, hb43, hb47, cond_true, cond_false, loopE_done, loopE_ret]
    rw [hM274]
    exact ⟨none, 0, w271.heap.size, w271.heap.size, rfl, (OwnL.nil _ _ _ _ _ _), (okL.nil _), (by omega), (Below.only (Ex.trans (Ex.trans (Ex.trans (Ex.trans (Ex.trans (Ex.refl w) hE12) hE18) hE24) hE32) hE42) hO273 (by omega))⟩
  ·refine sz rfl rfl (not_f hb43) (sz rfl rfl (not_f hb43) (sz rfl rfl (not_f hb43) (sz rfl rfl (not_f hb43) (sz rfl rfl (not_f hb43) (sd rfl (yl_pick_t rfl rfl (not_f hb43) rfl (SeqR.done (tn (CW.cond_t rfl rfl ?_)))))))))
   refine CW.seq (CW.region (sd rfl (yl_build (cs := [.int .i64 (0), .int .i64 (0), .slice none 0 0]) rfl opvs_nil (by kernel_rfl) (SeqR.u rfl rfl (yl_store (vs := [.int .i64 (0), .int .i64 (0), .slice none 0 0]) Try.ty85 rfl rfl rfl rfl rfl rfl (Box.ex (Box.ex hB23 hE32) hE42) (Nat.le_of_ble_eq_true rfl) ?_)))))
   intro w283 hB284 hO285
   have hB284 : Box w283 b19 85 [.int .i64 (0), .int .i64 (0), .slice none 0 0] := hB284
   have hO285z := hO285.size
   refine sd rfl (yl_assign rfl rfl (SeqR.done (tn (CW.ret (tr (rr rfl (.cons ⟨_, rfl, run_loadN Try.ty85 (cs := [.int .i64 (0), .int .i64 (0), .slice none 0 0]) rfl (hB284.cells (n := 3) rfl)⟩ (.cons rfl .nil)) ?_))))))
   have hM286 : (i_JoinDiffs p_a p_b) = (((⟨0, 0, []⟩ : DDiff), false)) := by simp only [i_JoinDiffs, hb33, hb43, cond_true, cond_false, loopE_done, loopE_ret]
   rw [hM286]
   exact ⟨none, 0, w283.heap.size, w283.heap.size, rfl, (OwnL.nil _ _ _ _ _ _), (okL.nil _), (by omega), (Below.only (Ex.trans (Ex.trans (Ex.trans (Ex.trans (Ex.trans (Ex.refl w) hE12) hE18) hE24) hE32) hE42) hO285 (by omega))⟩
 ·refine sz rfl rfl (not_f hb33) (sz rfl rfl (not_f hb33) (sz rfl rfl (not_f hb33) (sd rfl (yl_pick_t rfl rfl (not_f hb33) rfl (sd rfl (yl_move rfl rfl (sz rfl rfl rfl (sz rfl rfl rfl (sz rfl rfl rfl (sz rfl rfl rfl ?_))))))))))
  refine sz rfl rfl rfl (sd rfl (yl_pick_t rfl rfl rfl rfl (SeqR.done (tn (CW.cond_t rfl rfl (CW.seq (CW.region (sd rfl (yl_build (cs := [.int .i64 (0), .int .i64 (0), .slice none 0 0]) rfl opvs_nil (by kernel_rfl) (SeqR.u rfl rfl (yl_store (vs := [.int .i64 (0), .int .i64 (0), .slice none 0 0]) Try.ty85 rfl rfl rfl rfl rfl rfl (Box.ex hB23 hE32) (Nat.le_of_ble_eq_true rfl) ?_)))))))))))
  intro w294 hB295 hO296
  have hB295 : Box w294 b19 85 [.int .i64 (0), .int .i64 (0), .slice none 0 0] := hB295
  have hO296z := hO296.size
  refine sd rfl (yl_assign rfl rfl (SeqR.done (tn (CW.ret (tr (rr rfl (.cons ⟨_, rfl, run_loadN Try.ty85 (cs := [.int .i64 (0), .int .i64 (0), .slice none 0 0]) rfl (hB295.cells (n := 3) rfl)⟩ (.cons rfl .nil)) ?_))))))
  have hM297 : (i_JoinDiffs p_a p_b) = (((⟨0, 0, []⟩ : DDiff), false)) := by simp only [i_JoinDiffs, hb33, cond_true, cond_false, loopE_done, loopE_ret]
  rw [hM297]
  exact ⟨none, 0, w294.heap.size, w294.heap.size, rfl, (OwnL.nil _ _ _ _ _ _), (okL.nil _), (by omega), (Below.only (Ex.trans (Ex.trans (Ex.trans (Ex.trans (Ex.refl w) hE12) hE18) hE24) hE32) hO296 (by omega))⟩
set_option maxRecDepth 100000 in
set_option maxHeartbeats 2000000 in
theorem c_l_eqFeedItem {w : World} (p_a : DFeedItem) (p_b : DFeedItem) : Cal Try.prog 154 #[.agg #[.int .i64 (p_a.Time), .int .i64 (p_a.Group), .string (bs (p_a.Key)), .string (bs (p_a.Val)), .bool (p_a.Gone)], .agg #[.int .i64 (p_b.Time), .int .i64 (p_b.Group), .string (bs (p_b.Key)), .string (bs (p_b.Val)), .bool (p_b.Gone)]] w fun v w' => v = .bool ((l_eqFeedItem p_a p_b)) ∧ Ex w w' := by
 refine Cal.of (vs := [.agg #[.int .i64 (p_a.Time), .int .i64 (p_a.Group), .string (bs (p_a.Key)), .string (bs (p_a.Val)), .bool (p_a.Gone)], .agg #[.int .i64 (p_b.Time), .int .i64 (p_b.Group), .string (bs (p_b.Key)), .string (bs (p_b.Val)), .bool (p_b.Gone)]]) Try.func154 rfl Try.ntmps154 rfl (CW.seq (CW.region (sd rfl (yl_box (cs := [.int .i64 (p_a.Time), .int .i64 (p_a.Group), .string (bs (p_a.Key)), .string (bs (p_a.Val)), .bool (p_a.Gone)]) rfl rfl rfl ?_))))
 intro b1 w2 hs3 hz4 hB5 hE6
 refine sd rfl (yl_box (cs := [.int .i64 (p_b.Time), .int .i64 (p_b.Group), .string (bs (p_b.Key)), .string (bs (p_b.Val)), .bool (p_b.Gone)]) rfl rfl rfl ?_)
 intro b7 w8 hs9 hz10 hB11 hE12
 refine sd rfl (yl_assign rfl rfl (SeqR.done (tn (CW.seq (CW.seq (CW.region (sd rfl (yl_fieldAddr Try.fd140_0 rfl rfl ?_))))))))
 have q13 := Box.ex hB5 hE12
 refine sd rfl (yl_load1 Try.ty3 rfl rfl ((q13.cell 0).trans rfl) (sd rfl (yl_fieldAddr Try.fd140_0 rfl rfl (sd rfl (yl_load1 Try.ty3 rfl rfl ((hB11.cell 0).trans rfl) (sd rfl (yl_neq rfl rfl rfl (SeqR.done (tn (bcase (decide (p_a.Time = p_b.Time)) (fun hb14 => ?_) (fun hb14 => ?_)))))))))))
 ·have hb14p := dec_t hb14
  refine CW.cond_f rfl (not_t hb14) (CW.skip (tn (CW.seq (CW.seq (CW.region (sd rfl (yl_fieldAddr Try.fd140_1 rfl rfl (sd rfl (yl_load1 Try.ty3 rfl rfl ((q13.cell 1).trans rfl) (sd rfl (yl_fieldAddr Try.fd140_1 rfl rfl ?_)))))))))))
  refine sd rfl (yl_load1 Try.ty3 rfl rfl ((hB11.cell 1).trans rfl) (sd rfl (yl_neq rfl rfl rfl (SeqR.done (tn (bcase (decide (p_a.Group = p_b.Group)) (fun hb15 => ?_) (fun hb15 => ?_)))))))
  ·have hb15p := dec_t hb15
   refine CW.cond_f rfl (not_t hb15) (CW.skip (tn (CW.seq (CW.seq (CW.region (sd rfl (yl_fieldAddr Try.fd140_2 rfl rfl (sd rfl (yl_load1 Try.ty9 rfl rfl ((q13.cell 2).trans rfl) (sd rfl (yl_fieldAddr Try.fd140_2 rfl rfl ?_)))))))))))
   refine sd rfl (yl_load1 Try.ty9 rfl rfl ((hB11.cell 2).trans rfl) (sd rfl (yl_sneq (a := p_a.Key) (b := p_b.Key) rfl rfl rfl (SeqR.done (tn (bcase (p_a.Key == p_b.Key) (fun hb16 => ?_) (fun hb16 => ?_)))))))
   ·refine CW.cond_f rfl (not_t hb16) (CW.skip (tn (CW.seq (CW.seq (CW.region (sd rfl (yl_fieldAddr Try.fd140_3 rfl rfl (sd rfl (yl_load1 Try.ty9 rfl rfl ((q13.cell 3).trans rfl) (sd rfl (yl_fieldAddr Try.fd140_3 rfl rfl ?_)))))))))))
    refine sd rfl (yl_load1 Try.ty9 rfl rfl ((hB11.cell 3).trans rfl) (sd rfl (yl_sneq (a := p_a.Val) (b := p_b.Val) rfl rfl rfl (SeqR.done (tn (bcase (p_a.Val == p_b.Val) (fun hb17 => ?_) (fun hb17 => ?_)))))))
    ·refine CW.cond_f rfl (not_t hb17) (CW.skip (tn (CW.seq (CW.seq (CW.region (sd rfl (yl_fieldAddr Try.fd140_4 rfl rfl (sd rfl (yl_load1 Try.ty4 rfl rfl ((q13.cell 4).trans rfl) (sd rfl (yl_fieldAddr Try.fd140_4 rfl rfl ?_)))))))))))
     refine sd rfl (yl_load1 Try.ty4 rfl rfl ((hB11.cell 4).trans rfl) (sd rfl (yl_bneq Try.un4 rfl rfl rfl (SeqR.done (tn (bcase (p_a.Gone == p_b.Gone) (fun hb18 => ?_) (fun hb18 => ?_)))))))
     ·refine CW.cond_f rfl (not_t hb18) (CW.skip (tn (CW.seq (CW.region (sd rfl (yl_assign rfl rfl (SeqR.done (tn (CW.ret ?_)))))))))
      refine rr rfl (.cons rfl .nil) ?_
      have hM19 : (l_eqFeedItem p_a p_b) = (true) := by simp only [l_eqFeedItem, hb14, hb15, hb16, hb17, hb18, cond_true, cond_false, loopE_done, loopE_ret]
      rw [hM19]
      exact ⟨rfl, (Ex.trans (Ex.trans (Ex.refl w) hE6) hE12)⟩
     ·refine CW.cond_t rfl (not_f hb18) (CW.seq (CW.region (sd rfl (yl_assign rfl rfl (SeqR.done (tn (CW.ret (tr (rr rfl (.cons rfl .nil) ?_)))))))))
      have hM22 : (l_eqFeedItem p_a p_b) = (false) := by simp only [l_eqFeedItem, hb14, hb15, hb16, hb17, hb18, cond_true, cond_false, loopE_done, loopE_ret]
      rw [hM22]
      exact ⟨rfl, (Ex.trans (Ex.trans (Ex.refl w) hE6) hE12)⟩
    ·refine CW.cond_t rfl (not_f hb17) (CW.seq (CW.region (sd rfl (yl_assign rfl rfl (SeqR.done (tn (CW.ret (tr (rr rfl (.cons rfl .nil) ?_)))))))))
     have hM25 : (l_eqFeedItem p_a p_b) = (false) := by simp only [l_eqFeedItem, hb14, hb15, hb16, hb17, cond_true, cond_false, loopE_done, loopE_ret]
     rw [hM25]
     exact ⟨rfl, (Ex.trans (Ex.trans (Ex.refl w) hE6) hE12)⟩
   ·refine CW.cond_t rfl (not_f hb16) (CW.seq (CW.region (sd rfl (yl_assign rfl rfl (SeqR.done (tn (CW.ret (tr (rr rfl (.cons rfl .nil) ?_)))))))))
    have hM28 : (l_eqFeedItem p_a p_b) = (false) := by simp only [l_eqFeedItem, hb14, hb15, hb16, cond_true, cond_false, loopE_done, loopE_ret]
    rw [hM28]
    exact ⟨rfl, (Ex.trans (Ex.trans (Ex.refl w) hE6) hE12)⟩
  ·have hb15p := dec_f hb15
   refine CW.cond_t rfl (not_f hb15) (CW.seq (CW.region (sd rfl (yl_assign rfl rfl (SeqR.done (tn (CW.ret (tr (rr rfl (.cons rfl .nil) ?_)))))))))
   have hM31 : (l_eqFeedItem p_a p_b) = (false) := by simp only [l_eqFeedItem, hb14, hb15, cond_true, cond_false, loopE_done, loopE_ret]
   rw [hM31]
   exact ⟨rfl, (Ex.trans (Ex.trans (Ex.refl w) hE6) hE12)⟩
 ·have hb14p := dec_f hb14
  refine CW.cond_t rfl (not_f hb14) (CW.seq (CW.region (sd rfl (yl_assign rfl rfl (SeqR.done (tn (CW.ret (tr (rr rfl (.cons rfl .nil) ?_)))))))))
  have hM34 : (l_eqFeedItem p_a p_b) = (false) := by simp only [l_eqFeedItem, hb14, cond_true, cond_false, loopE_done, loopE_ret]
  rw [hM34]
  exact ⟨rfl, (Ex.trans (Ex.trans (Ex.refl w) hE6) hE12)⟩
set_option maxRecDepth 100000 in
set_option maxHeartbeats 2000000 in
theorem c_l_eqFeedItemS {A1 : Option Addr} {c1 : Nat} {A2 : Option Addr} {c2 : Nat} {w : World} (p_a : List DFeedItem) (p_b : List DFeedItem) (h1 : RdS w (Iv 0 w.heap.size) (RF e_FeedItem) 5 A1 p_a.length c1 p_a) (h2 : RdS w (Iv 0 w.heap.size) (RF e_FeedItem) 5 A2 p_b.length c2 p_b) : Cal Try.prog 104 #[.slice A1 p_a.length c1, .slice A2 p_b.length c2] w fun v w' => v = .bool ((l_eqFeedItemS p_a p_b)) ∧ Ex w w' := by
 refine Cal.of (vs := [.slice A1 p_a.length c1, .slice A2 p_b.length c2]) Try.func104 rfl Try.ntmps104 rfl (CW.seq (CW.region (sd rfl (yl_assign rfl rfl (SeqR.done (tn (CW.seq (CW.seq (CW.region ?_)))))))))
 refine sd rfl (yl_move rfl rfl (sd rfl (yl_len Try.un83 rfl rfl (sd rfl (yl_move rfl rfl (sd rfl (yl_len Try.un83 rfl rfl (sd rfl (yl_neq rfl rfl rfl (SeqR.done (tn (bcase (decide ((p_a.length : Int) = (p_b.length : Int))) (fun hb3 => ?_) (fun hb3 => ?_)))))))))))))
 ·have hb3p := dec_t hb3
  refine CW.cond_f rfl (not_t hb3) (CW.skip (tn (CW.seq (CW.seq (CW.region (sd rfl (yl_assign rfl rfl (SeqR.done (tn ?_)))))))))
  refine CW.block (CW.loop (fun m5 L6 w7 => ∃ (k4 : Nat), m5 = p_a.length - k4 ∧ k4 ≤ p_a.length ∧ w.heap.size ≤ w7.heap.size ∧ lkp L6 0 = some (.slice A1 p_a.length c1) ∧ lkp L6 1 = some (.slice A2 p_b.length c2) ∧ lkp L6 5 = some (.int .i64 ((k4 : Int))) ∧ RdS w7 (Iv 0 w.heap.size) (RF e_FeedItem) 5 A1 p_a.length c1 p_a ∧ RdS w7 (Iv 0 w.heap.size) (RF e_FeedItem) 5 A2 p_b.length c2 p_b ∧ Ex w w7 ∧ loopM (B_l_eqFeedItemS_0 p_a p_b) (p_a.length - k4) k4 () = loopM (B_l_eqFeedItemS_0 p_a p_b) (p_a.length - 0) 0 ()) (p_a.length - 0) ?_ ?_)
  ·exact ⟨0, rfl, (by omega), Nat.le_refl _, rfl, rfl, rfl, h1, h2, (Ex.refl w), rfl⟩
  ·rintro m8 L9 w10 ⟨k4, rfl, hk11, hsz13, hl14, hl15, hl16, hf17, hf18, hf19, hI12⟩
   refine CW.sub (Sub.cons hl14 (Sub.cons hl15 (Sub.cons hl16 (Sub.nil _)))) ?_
   have hf19z := Ex.size hf19
   have hbg20 := RdS.big hf17
   rcases Nat.lt_or_ge k4 p_a.length with hlt21 | hlt21
   ·refine CW.seq (CW.seq (CW.region (sd rfl (yl_move rfl rfl (sd rfl (yl_move rfl rfl (sd rfl (yl_len Try.un83 rfl rfl (sd rfl (yl_lss rfl rfl rfl (SeqR.done (tn ?_))))))))))))
    refine CW.cond_t rfl (lt_t hlt21) (CW.skip (tn (CW.seq (CW.block (CW.seq ?_)))))
    obtain ⟨eb22, eo22, ec22, eA22, eS22, ebl22, el22, eR22, eC22⟩ := RdS.atD hf17 d_FeedItem (i := k4) (by first | omega | assumption)
    obtain rfl := eR22
    have eC22 : Cells w10 eb22 (eo22 + k4 * 5) [.int .i64 ((p_a.getD k4 d_FeedItem).Time), .int .i64 ((p_a.getD k4 d_FeedItem).Group), .string (bs ((p_a.getD k4 d_FeedItem).Key)), .string (bs ((p_a.getD k4 d_FeedItem).Val)), .bool ((p_a.getD k4 d_FeedItem).Gone)] := eC22
    obtain ⟨eb23, eo23, ec23, eA23, eS23, ebl23, el23, eR23, eC23⟩ := RdS.atD hf18 d_FeedItem (i := k4) (by first | omega | assumption)
    obtain rfl := eR23
    have eC23 : Cells w10 eb23 (eo23 + k4 * 5) [.int .i64 ((p_b.getD k4 d_FeedItem).Time), .int .i64 ((p_b.getD k4 d_FeedItem).Group), .string (bs ((p_b.getD k4 d_FeedItem).Key)), .string (bs ((p_b.getD k4 d_FeedItem).Val)), .bool ((p_b.getD k4 d_FeedItem).Gone)] := eC23
    refine CW.drawsI 10 (vgetI [DetI (.slice A1 p_a.length c1), DetI (.int .i64 ((k4 : Int))), DetI (.pointer (some ⟨eb22, eo22 + k4 * 5, none⟩)), DetI (.agg #[.int .i64 ((p_a.getD k4 d_FeedItem).Time), .int .i64 ((p_a.getD k4 d_FeedItem).Group), .string (bs ((p_a.getD k4 d_FeedItem).Key)), .string (bs ((p_a.getD k4 d_FeedItem).Val)), .bool ((p_a.getD k4 d_FeedItem).Gone)]), DetI (.slice A2 p_b.length c2), DetI (.int .i64 ((k4 : Int))), DetI (.pointer (some ⟨eb23, eo23 + k4 * 5, none⟩)), DetI (.agg #[.int .i64 ((p_b.getD k4 d_FeedItem).Time), .int .i64 ((p_b.getD k4 d_FeedItem).Group), .string (bs ((p_b.getD k4 d_FeedItem).Key)), .string (bs ((p_b.getD k4 d_FeedItem).Val)), .bool ((p_b.getD k4 d_FeedItem).Gone)]), DetI (.bool ((l_eqFeedItem (p_a.getD k4 d_FeedItem) (p_b.getD k4 d_FeedItem)))), DetI (.bool (!(l_eqFeedItem (p_a.getD k4 d_FeedItem) (p_b.getD k4 d_FeedItem))))]) Try.follows rfl rfl rfl rfl rfl rfl (vgetI_stable ⟨StableI.det _, StableI.det _, StableI.det _, StableI.det _, StableI.det _, StableI.det _, StableI.det _, StableI.det _, StableI.det _, StableI.det _, trivial⟩) ⟨?_, ?_, ?_, ?_, ?_, ?_, ?_, ?_, ?_, ?_, trivial⟩ ?_
    ·exact fun _ _ h => os rfl ((yl_move rfl (h.old 0 _ rfl rfl) kI))
    ·exact fun _ _ h => os rfl ((yl_move rfl (h.old 5 _ rfl rfl) kI))
    ·intro L35 w36 hi37
     have hE38 := hi37.ex
     have hE38z := Ex.size hE38
     exact os rfl ((yl_indexAddrN Try.un83 Try.ty140 rfl (hi37.dt 0 17 rfl rfl rfl) (hi37.dt 1 18 rfl rfl rfl) eA22 (by first | omega | assumption | (simp only [IntKind.wrap_i64] at *; omega)) kI))
    ·exact fun _ _ h => os rfl ((yl_loadN (cs := [.int .i64 ((p_a.getD k4 d_FeedItem).Time), .int .i64 ((p_a.getD k4 d_FeedItem).Group), .string (bs ((p_a.getD k4 d_FeedItem).Key)), .string (bs ((p_a.getD k4 d_FeedItem).Val)), .bool ((p_a.getD k4 d_FeedItem).Gone)]) Try.ty140 rfl (h.dt 2 19 rfl rfl rfl) (Cells.ex eC22 h.ex) rfl kI))
    ·exact fun _ _ h => os rfl ((yl_move rfl (h.old 1 _ rfl rfl) kI))
    ·exact fun _ _ h => os rfl ((yl_move rfl (h.old 5 _ rfl rfl) kI))
    ·intro L57 w58 hi59
     have hE60 := hi59.ex
     have hE60z := Ex.size hE60
     exact os rfl ((yl_indexAddrN Try.un83 Try.ty140 rfl (hi59.dt 4 21 rfl rfl rfl) (hi59.dt 5 22 rfl rfl rfl) eA23 (by first | omega | assumption | (simp only [IntKind.wrap_i64] at *; omega)) kI))
    ·exact fun _ _ h => os rfl ((yl_loadN (cs := [.int .i64 ((p_b.getD k4 d_FeedItem).Time), .int .i64 ((p_b.getD k4 d_FeedItem).Group), .string (bs ((p_b.getD k4 d_FeedItem).Key)), .string (bs ((p_b.getD k4 d_FeedItem).Val)), .bool ((p_b.getD k4 d_FeedItem).Gone)]) Try.ty140 rfl (h.dt 6 23 rfl rfl rfl) (Cells.ex eC23 h.ex) rfl kI))
    ·intro L69 w70 hi71
     refine OpR.op' rfl (yl_call Try.en154 rfl (opvs_cons (hi71.dt 3 20 rfl rfl rfl) (opvs_cons (hi71.dt 7 24 rfl rfl rfl) opvs_nil)) (Cal.mono (c_l_eqFeedItem (p_a.getD k4 d_FeedItem) (p_b.getD k4 d_FeedItem)) ?_))
     rintro v76 w75 ⟨rfl, hE77⟩
     exact ⟨rfl, hE77⟩
    ·exact fun _ _ h => os rfl ((yl_not rfl (h.dt 8 25 rfl rfl rfl) kI))
    ·intro fl86 fh87 L83 w84 hp85
     have hE88 := hp85.ex
     have hE88z := Ex.size hE88
     refine SeqR.done (tn (CW.sub (Sub.cons (d := 0) (hp85.old 0 _ rfl rfl) (Sub.cons (d := 1) (hp85.old 1 _ rfl rfl) (Sub.cons (d := 5) (hp85.old 5 _ rfl rfl) (Sub.cons (d := 26) (hp85.nt 9 26 rfl rfl rfl) (Sub.nil _))))) (bcase (l_eqFeedItem (p_a.getD k4 d_FeedItem) (p_b.getD k4 d_FeedItem)) (fun hb93 => ?_) (fun hb93 => ?_))))
     ·refine CW.cond_f rfl (not_t hb93) (CW.skip (bn (tn (CW.region (sd rfl (yl_move rfl rfl (sd rfl (yl_inc rfl rfl rfl (by omega) (sd rfl (yl_assign rfl rfl (SeqR.done ?_)))))))))))
      refine tn ?_
      have hB94 : B_l_eqFeedItemS_0 p_a p_b k4 () = .cont () := by simp only [B_l_eqFeedItemS_0, hb3, hb93, cond_true, cond_false, loopE_done, loopE_ret]
      exact ⟨p_a.length - (k4 + 1), by omega, k4 + 1, rfl, hlt21, (by omega), rfl, rfl, rfl, (RdS.ex good_FeedItem hf17 hE88), (RdS.ex good_FeedItem hf18 hE88), (Ex.trans hf19 hE88), (loopM.cont hlt21 hB94).symm.trans hI12⟩
     ·refine CW.cond_t rfl (not_f hb93) (CW.seq (CW.region (sd rfl (yl_assign rfl rfl (SeqR.done (tn (CW.ret (br (tr ?_)))))))))
      refine tr ?_
      have hB99 : B_l_eqFeedItemS_0 p_a p_b k4 () = .ret false := by simp only [B_l_eqFeedItemS_0, hb3, hb93, cond_true, cond_false, loopE_done, loopE_ret]
      have hL98 : loopM (B_l_eqFeedItemS_0 p_a p_b) (p_a.length - 0) 0 () = .ret false := hI12.symm.trans (loopM.ret hlt21 hB99)
      refine br (tr (rr rfl (.cons rfl .nil) ?_))
      have hM100 : (l_eqFeedItemS p_a p_b) = (false) := by simp only [l_eqFeedItemS, hb3, hb93, hL98, cond_true, cond_false, loopE_done, loopE_ret]
      rw [hM100]
      exact ⟨rfl, (Ex.trans hf19 hE88)⟩
   ·refine CW.seq (CW.seq (CW.region (sd rfl (yl_move rfl rfl (sd rfl (yl_move rfl rfl (sd rfl (yl_len Try.un83 rfl rfl (sd rfl (yl_lss rfl rfl rfl (SeqR.done (tn ?_))))))))))))
    refine CW.cond_f rfl (lt_f hlt21) (CW.exit (tx (tx ?_)))
    have hL102 : loopM (B_l_eqFeedItemS_0 p_a p_b) (p_a.length - 0) 0 () = .done () := hI12.symm.trans (loopM.stop hlt21)
    refine bx (tn (CW.seq (CW.region (sd rfl (yl_assign rfl rfl (SeqR.done (tn (CW.ret (rr rfl (.cons rfl .nil) ?_)))))))))
    have hM103 : (l_eqFeedItemS p_a p_b) = (true) := by simp only [l_eqFeedItemS, hb3, hL102, cond_true, cond_false, loopE_done, loopE_ret]
    rw [hM103]
    exact ⟨rfl, hf19⟩
 ·have hb3p := dec_f hb3
  refine CW.cond_t rfl (not_f hb3) (CW.seq (CW.region (sd rfl (yl_assign rfl rfl (SeqR.done (tn (CW.ret (tr (rr rfl (.cons rfl .nil) ?_)))))))))
  have hM104 : (l_eqFeedItemS p_a p_b) = (false) := by simp only [l_eqFeedItemS, hb3, cond_true, cond_false, loopE_done, loopE_ret]
  rw [hM104]
  exact ⟨rfl, (Ex.refl w)⟩
set_option maxRecDepth 100000 in
set_option maxHeartbeats 2000000 in
theorem c_l_eqDiff {A1 : Option Addr} {c1 : Nat} {A2 : Option Addr} {c2 : Nat} {w : World} (p_a : DDiff) (p_b : DDiff) (h1 : RdS w (Iv 0 w.heap.size) (RF e_FeedItem) 5 A1 p_a.List.length c1 p_a.List) (h2 : RdS w (Iv 0 w.heap.size) (RF e_FeedItem) 5 A2 p_b.List.length c2 p_b.List) : Cal Try.prog 48 #[.agg #[.int .i64 (p_a.From), .int .i64 (p_a.To), .slice A1 p_a.List.length c1], .agg #[.int .i64 (p_b.From), .int .i64 (p_b.To), .slice A2 p_b.List.length c2]] w fun v w' => v = .bool ((l_eqDiff p_a p_b)) ∧ Ex w w' := by
 refine Cal.of (vs := [.agg #[.int .i64 (p_a.From), .int .i64 (p_a.To), .slice A1 p_a.List.length c1], .agg #[.int .i64 (p_b.From), .int .i64 (p_b.To), .slice A2 p_b.List.length c2]]) Try.func48 rfl Try.ntmps48 rfl (CW.seq (CW.region (sd rfl (yl_box (cs := [.int .i64 (p_a.From), .int .i64 (p_a.To), .slice A1 p_a.List.length c1]) rfl rfl rfl ?_))))
 intro b3 w4 hs5 hz6 hB7 hE8
 refine sd rfl (yl_box (cs := [.int .i64 (p_b.From), .int .i64 (p_b.To), .slice A2 p_b.List.length c2]) rfl rfl rfl ?_)
 intro b9 w10 hs11 hz12 hB13 hE14
 refine sd rfl (yl_assign rfl rfl (SeqR.done (tn (CW.seq (CW.seq (CW.region (sd rfl (yl_fieldAddr Try.fd85_0 rfl rfl ?_))))))))
 have q15 := Box.ex hB7 hE14
 refine sd rfl (yl_load1 Try.ty3 rfl rfl ((q15.cell 0).trans rfl) (sd rfl (yl_fieldAddr Try.fd85_0 rfl rfl (sd rfl (yl_load1 Try.ty3 rfl rfl ((hB13.cell 0).trans rfl) (sd rfl (yl_neq rfl rfl rfl (SeqR.done (tn (bcase (decide (p_a.From = p_b.From)) (fun hb16 => ?_) (fun hb16 => ?_)))))))))))
 ·have hb16p := dec_t hb16
  refine CW.cond_f rfl (not_t hb16) (CW.skip (tn (CW.seq (CW.seq (CW.region (sd rfl (yl_fieldAddr Try.fd85_1 rfl rfl (sd rfl (yl_load1 Try.ty3 rfl rfl ((q15.cell 1).trans rfl) (sd rfl (yl_fieldAddr Try.fd85_1 rfl rfl ?_)))))))))))
  refine sd rfl (yl_load1 Try.ty3 rfl rfl ((hB13.cell 1).trans rfl) (sd rfl (yl_neq rfl rfl rfl (SeqR.done (tn (bcase (decide (p_a.To = p_b.To)) (fun hb17 => ?_) (fun hb17 => ?_)))))))
  ·have hb17p := dec_t hb17
   refine CW.cond_f rfl (not_t hb17) (CW.skip (tn (CW.seq (CW.seq (CW.region (sd rfl (yl_fieldAddr Try.fd85_2 rfl rfl (sd rfl (yl_load1 Try.ty83 rfl rfl ((q15.cell 2).trans rfl) (sd rfl (yl_fieldAddr Try.fd85_2 rfl rfl ?_)))))))))))
   refine sd rfl (yl_load1 Try.ty83 rfl rfl ((hB13.cell 2).trans rfl) (sd rfl (yl_call Try.en104 rfl (opvs_cons rfl (opvs_cons rfl opvs_nil)) (Cal.mono (c_l_eqFeedItemS p_a.List p_b.List (RdS.up (RdS.ex good_FeedItem (RdS.ex good_FeedItem h1 hE8) hE14) good_FeedItem) (RdS.up (RdS.ex good_FeedItem (RdS.ex good_FeedItem h2 hE8) hE14) good_FeedItem)) ?_))))
   rintro v23 w22 ⟨rfl, hE24⟩
   have hE24z := Ex.size hE24
   refine sd rfl (yl_not rfl rfl (SeqR.done (tn (bcase (l_eqFeedItemS p_a.List p_b.List) (fun hb25 => ?_) (fun hb25 => ?_)))))
   ·refine CW.cond_f rfl (not_t hb25) (CW.skip (tn (CW.seq (CW.region (sd rfl (yl_assign rfl rfl (SeqR.done (tn (CW.ret ?_)))))))))
    refine rr rfl (.cons rfl .nil) ?_
    have hM26 : (l_eqDiff p_a p_b) = (true) := by simp only [l_eqDiff, hb16, hb17, hb25, cond_true, cond_false, loopE_done, loopE_ret]
    rw [hM26]
    exact ⟨rfl, (Ex.trans (Ex.trans (Ex.trans (Ex.refl w) hE8) hE14) hE24)⟩
   ·refine CW.cond_t rfl (not_f hb25) (CW.seq (CW.region (sd rfl (yl_assign rfl rfl (SeqR.done (tn (CW.ret (tr (rr rfl (.cons rfl .nil) ?_)))))))))
    have hM30 : (l_eqDiff p_a p_b) = (false) := by simp only [l_eqDiff, hb16, hb17, hb25, cond_true, cond_false, loopE_done, loopE_ret]
    rw [hM30]
    exact ⟨rfl, (Ex.trans (Ex.trans (Ex.trans (Ex.refl w) hE8) hE14) hE24)⟩
  ·have hb17p := dec_f hb17
   refine CW.cond_t rfl (not_f hb17) (CW.seq (CW.region (sd rfl (yl_assign rfl rfl (SeqR.done (tn (CW.ret (tr (rr rfl (.cons rfl .nil) ?_)))))))))
   have hM34 : (l_eqDiff p_a p_b) = (false) := by simp only [l_eqDiff, hb16, hb17, cond_true, cond_false, loopE_done, loopE_ret]
   rw [hM34]
   exact ⟨rfl, (Ex.trans (Ex.trans (Ex.refl w) hE8) hE14)⟩
 ·have hb16p := dec_f hb16
  refine CW.cond_t rfl (not_f hb16) (CW.seq (CW.region (sd rfl (yl_assign rfl rfl (SeqR.done (tn (CW.ret (tr (rr rfl (.cons rfl .nil) ?_)))))))))
  have hM37 : (l_eqDiff p_a p_b) = (false) := by simp only [l_eqDiff, hb16, cond_true, cond_false, loopE_done, loopE_ret]
  rw [hM37]
  exact ⟨rfl, (Ex.trans (Ex.trans (Ex.refl w) hE8) hE14)⟩
set_option maxRecDepth 100000 in
set_option maxHeartbeats 2000000 in
theorem c_l_markText {w : World} (p_k : Int) (pre0 : p_k ≤ 9223372036854775807) : Cal Try.prog 83 #[.int .i64 (p_k)] w fun v w' => v = .string (bs ((l_markText p_k))) ∧ Ex w w' := by
 refine Cal.of (vs := [.int .i64 (p_k)]) Try.func83 rfl Try.ntmps83 rfl (CW.seq (CW.region (sd rfl (yl_assign rfl rfl (SeqR.done (tn (CW.seq (CW.seq (CW.region ?_)))))))))
 refine sd rfl (yl_move rfl rfl (sd rfl (yl_leq rfl rfl rfl (SeqR.done (tn (bcase (decide (p_k ≤ 0)) (fun hb1 => ?_) (fun hb1 => ?_)))))))
 ·have hb1p := dec_t hb1
  refine CW.cond_t rfl hb1 (CW.seq (CW.region (sd rfl (yl_assign rfl rfl (SeqR.done (tn (CW.ret (tr (rr rfl (.cons rfl .nil) ?_)))))))))
  have hM2 : (l_markText p_k) = (([109, 48] : Str)) := by simp only [l_markText, hb1, cond_true, cond_false, loopE_done, loopE_ret]
  rw [hM2]
  exact ⟨rfl, (Ex.refl w)⟩
 ·have hb1p := dec_f hb1
  refine CW.cond_f rfl hb1 (CW.skip (tn (CW.seq (CW.region (sd rfl (yl_assign rfl rfl (SeqR.done (tn (CW.seq ?_)))))))))
  refine CW.block (CW.loop (fun m18 L19 w20 => ∃ (x16 : Int) (x17 : Str), (((x16).toNat + 1) / 2) < m18 ∧ w.heap.size ≤ w20.heap.size ∧ lkp L19 0 = some (.int .i64 (x16)) ∧ lkp L19 3 = some (.string (bs (x17))) ∧ Ex w w20 ∧ x17.length + 1 * (((x16).toNat + 1) / 2) ≤ 0 + 1 * (((p_k).toNat + 1) / 2) ∧ x16 ≤ 9223372036854775807 ∧ loopW (B_l_markText_0 p_k) m18 (x16, x17) = loopW (B_l_markText_0 p_k) ((((p_k).toNat + 1) / 2) + 1) (p_k, ([] : Str))) ((((p_k).toNat + 1) / 2) + 1) ?_ ?_)
  ·exact ⟨p_k, ([] : Str), Nat.lt_succ_self _, Nat.le_refl _, rfl, rfl, (Ex.refl w), (by first | (simp; done) | (first | omega | (simp only [List.length_append, List.length_cons, List.length_nil, List.length_set, toS_length]; omega))), (by first | omega | assumption | (simp only [IntKind.wrap_i64] at *; omega)), rfl⟩
  ·rintro m21 L22 w23 ⟨x16, x17, hk24, hsz26, hl27, hl28, hf29, hln30, hv31, hI25⟩
   refine CW.sub (Sub.cons hl27 (Sub.cons hl28 (Sub.nil _))) ?_
   have hf29z := Ex.size hf29
   refine CW.seq (CW.seq (CW.region (sd rfl (yl_move rfl rfl (sd rfl (yl_gtr rfl rfl rfl (SeqR.done (tn (bcase (decide (0 < x16)) (fun hb32 => ?_) (fun hb32 => ?_))))))))))
   ·have hb32p := dec_t hb32
    refine CW.cond_t rfl hb32 (CW.skip (tn (CW.block (CW.seq (CW.region (sd rfl (yl_move rfl rfl (sd rfl (yl_rem rfl rfl rfl (by decide) (sd rfl (yl_add rfl rfl rfl ?_)))))))))))
    refine sd rfl (yl_conv Try.un3 Try.un5 rfl rfl (sd rfl (yl_buildSlice (cs := [.int .u8 (IntKind.wrap .u8 (IntKind.wrap .i64 (48 + (Int.tmod x16 10))))]) Try.un181 Try.ty5 (by decide) rfl (opvs_cons rfl opvs_nil) (by kernel_rfl) ?_)))
    intro b33 w34 hs35 hz36 hB37 hE38
    have hO39 : OwnL w34 b33 (b33 + 1) 5 1 (RF e_U8) (some ⟨b33, 0, none⟩) 1 1 ([IntKind.wrap .u8 (IntKind.wrap .i64 (48 + (Int.tmod x16 10)))] : List Int) := OwnL.of_box (S := fun _ => False) hB37 (Nat.le_refl _) (Nat.lt_succ_self _) (EncL.cons (c := [.int .u8 (IntKind.wrap .u8 (IntKind.wrap .i64 (48 + (Int.tmod x16 10))))]) rfl rfl EncL.nil) (Nat.le_of_ble_eq_true rfl) (fun h => h) (fun _ h => False.elim h)
    refine sd rfl (yl_toS Try.un181 Try.un5 Try.un9 rfl rfl (OwnL.rd good_U8 hO39) (sd rfl (yl_move rfl rfl ?_)))
    have hol41 : (toS ([IntKind.wrap .u8 (IntKind.wrap .i64 (48 + (Int.tmod x16 10)))] : List Int)).length ≤ 1073741824 := (okS_toS (Nat.le_of_ble_eq_true rfl))
    refine sd rfl (yl_sadd (a := (toS ([IntKind.wrap .u8 (IntKind.wrap .i64 (48 + (Int.tmod x16 10)))] : List Int))) (b := x17) rfl rfl rfl (by first | omega | (simp only [List.length_append, List.length_cons, List.length_nil, List.length_take, List.length_drop, toS_length]; omega)) (sd rfl (yl_assign rfl rfl (SeqR.done (tn (CW.region (sd rfl (yl_move rfl rfl (sd rfl (yl_quo rfl rfl rfl (by decide) (sd rfl (yl_assign rfl rfl (SeqR.done ?_)))))))))))))
    refine bn (tn ?_)
    have hB42 : B_l_markText_0 p_k (x16, x17) = .cont (IntKind.wrap .i64 (Int.tdiv x16 10), (toS ([IntKind.wrap .u8 (IntKind.wrap .i64 (48 + (Int.tmod x16 10)))] : List Int)) ++ x17) := by simp only [B_l_markText_0, hb1, hb32, cond_true, cond_false, loopE_done, loopE_ret]
    have hmu44 : (((IntKind.wrap .i64 (Int.tdiv x16 10)).toNat + 1) / 2) < (((x16).toNat + 1) / 2) := by (have hq := wtd (n := x16) (c := 10) (by decide) (by omega) (by omega); omega)
    exact ⟨m21 - 1, by omega, IntKind.wrap .i64 (Int.tdiv x16 10), (toS ([IntKind.wrap .u8 (IntKind.wrap .i64 (48 + (Int.tmod x16 10)))] : List Int)) ++ x17, (by omega), (by omega), rfl, rfl, (Ex.trans hf29 hE38), (by first | omega | (simp only [List.length_append, List.length_cons, List.length_nil, List.length_set, toS_length]; omega)), (by (have hq := wtd (n := x16) (c := 10) (by decide) (by omega) (by omega); omega)), (loopW.cont hk24 hB42).symm.trans hI25⟩
   ·have hb32p := dec_f hb32
    refine CW.cond_f rfl hb32 (CW.exit (tx (tx ?_)))
    have hB46 : B_l_markText_0 p_k (x16, x17) = .brk (x16, x17) := by simp only [B_l_markText_0, hb1, hb32, cond_true, cond_false, loopE_done, loopE_ret]
    have hL45 : loopW (B_l_markText_0 p_k) ((((p_k).toNat + 1) / 2) + 1) (p_k, ([] : Str)) = .done (x16, x17) := hI25.symm.trans (loopW.brk hk24 hB46)
    refine bx (tn (CW.seq (CW.region (sd rfl (yl_move rfl rfl (sd rfl (yl_sadd (a := ([109] : Str)) (b := x17) rfl rfl rfl (by first | omega | (simp only [List.length_append, List.length_cons, List.length_nil, List.length_take, List.length_drop, toS_length]; omega)) (sd rfl (yl_assign rfl rfl (SeqR.done (tn ?_)))))))))))
    refine CW.ret (rr rfl (.cons rfl .nil) ?_)
    have hM47 : (l_markText p_k) = (([109] : Str) ++ x17) := by simp only [l_markText, hb1, hb32, hL45, cond_true, cond_false, loopE_done, loopE_ret]
    rw [hM47]
    exact ⟨rfl, hf29⟩
set_option maxRecDepth 100000 in
set_option maxHeartbeats 2000000 in
theorem c_l_markFeedItemS {A1 : Option Addr} {c1 : Nat} {lo1 hi1 : Nat} {w : World} (p_a : List DFeedItem) (p_k : Int) (h1 : OwnL w lo1 hi1 140 5 (RF e_FeedItem) A1 p_a.length c1 p_a) (hrn2 : (0 ≤ lo1 ∧ lo1 ≤ hi1 ∧ hi1 ≤ w.heap.size)) (pre0 : p_k ≤ 9223372036854775807) : Cal Try.prog 105 #[.slice A1 p_a.length c1, .int .i64 (p_k)] w fun v w' => v = .int .i64 ((l_markFeedItemS p_a p_k).1) ∧ OwnL w' lo1 hi1 140 5 (RF e_FeedItem) A1 p_a.length c1 ((l_markFeedItemS p_a p_k).2) ∧ Mut [(lo1, hi1)] w w' := by
 refine Cal.of (vs := [.slice A1 p_a.length c1, .int .i64 (p_k)]) Try.func105 rfl Try.ntmps105 rfl (CW.seq (CW.region (sd rfl (yl_assign rfl rfl (SeqR.done (tn (CW.seq (CW.seq (CW.region ?_)))))))))
 refine sd rfl (yl_assign rfl rfl (SeqR.done (tn (CW.block (CW.loop (fun m43 L44 w45 => ∃ (k3 : Nat) (x41 : Int) (x42 : List DFeedItem), m43 = p_a.length - k3 ∧ k3 ≤ p_a.length ∧ w.heap.size ≤ w45.heap.size ∧ lkp L44 0 = some (.slice A1 p_a.length c1) ∧ lkp L44 1 = some (.int .i64 (x41)) ∧ lkp L44 5 = some (.int .i64 ((k3 : Int))) ∧ OwnL w45 lo1 hi1 140 5 (RF e_FeedItem) A1 p_a.length c1 x42 ∧ Mut [(lo1, hi1)] w w45 ∧ x41 ≤ 9223372036854775807 ∧ loopM (B_l_markFeedItemS_0 p_a p_k) (p_a.length - k3) k3 (x41, x42) = loopM (B_l_markFeedItemS_0 p_a p_k) (p_a.length - 0) 0 (p_k, p_a)) (p_a.length - 0) ?_ ?_)))))
 ·exact ⟨0, p_k, p_a, rfl, (by omega), Nat.le_refl _, rfl, rfl, rfl, h1, (Mut.refl (l := [(lo1, hi1)]) w), (by first | omega | assumption | (simp only [IntKind.wrap_i64] at *; omega)), rfl⟩
 ·rintro m46 L47 w48 ⟨k3, x41, x42, rfl, hk49, hsz51, hl52, hl53, hl54, hf55, hf56, hv57, hI50⟩
  refine CW.sub (Sub.cons hl52 (Sub.cons hl53 (Sub.cons hl54 (Sub.nil _)))) ?_
  have hf56z := Mut.size hf56
  have hbg58 := RdS.big (OwnL.rd good_FeedItem hf55)
  rcases Nat.lt_or_ge k3 p_a.length with hlt60 | hlt60
  ·refine CW.seq (CW.seq (CW.region (sd rfl (yl_move rfl rfl (sd rfl (yl_move rfl rfl (sd rfl (yl_len Try.un83 rfl rfl (sd rfl (yl_lss rfl rfl rfl (SeqR.done (tn ?_))))))))))))
   refine CW.cond_t rfl (lt_t hlt60) (CW.skip (tn (CW.seq (CW.block (CW.seq (CW.region (sd rfl (yl_move rfl rfl (sd rfl (yl_move rfl rfl ?_))))))))))
   refine sd rfl (yl_move rfl rfl ?_)
   obtain ⟨eb62, eo62, ec62, eA62, eS62, ebl62, el62, eR62, eC62⟩ := RdS.atD (OwnL.rd good_FeedItem hf55) d_FeedItem (i := k3) (by first | omega | assumption)
   obtain rfl := eR62
   have eC62 : Cells w48 eb62 (eo62 + k3 * 5) [.int .i64 ((x42.getD k3 d_FeedItem).Time), .int .i64 ((x42.getD k3 d_FeedItem).Group), .string (bs ((x42.getD k3 d_FeedItem).Key)), .string (bs ((x42.getD k3 d_FeedItem).Val)), .bool ((x42.getD k3 d_FeedItem).Gone)] := eC62
   refine sd rfl (yl_indexAddrN Try.un83 Try.ty140 rfl rfl rfl eA62 (by first | omega | assumption | (simp only [IntKind.wrap_i64] at *; omega)) (sd rfl (yl_fieldAddr Try.fd140_0 rfl rfl ?_)))
   have hrg63 := OwnL.rng hf55 (i := k3) (by first | omega | assumption | (simp only [IntKind.wrap_i64] at *; omega)) eb62 (by rw [eA62]; rfl)
   refine SeqR.u rfl rfl (yl_storeF (off := eo62) (i := k3) (d := 0) (dx := d_FeedItem) (x' := (⟨x41, (x42.getD k3 d_FeedItem).Group, (x42.getD k3 d_FeedItem).Key, (x42.getD k3 d_FeedItem).Val, (x42.getD k3 d_FeedItem).Gone⟩ : DFeedItem)) (vs := [.int .i64 (x41)]) Try.ty3 rfl hf55 eA62 rfl rfl rfl rfl rfl (by first | omega | assumption | (simp only [IntKind.wrap_i64] at *; omega)) (Nat.le_of_ble_eq_true rfl) rfl rfl ?_)
   intro w64 hB65 hO66
   have hO66z := hO66.size
   refine SeqR.done (tn (CW.seq (CW.region (sd rfl (yl_move rfl rfl (sd rfl (yl_add rfl rfl rfl (sd rfl (yl_assign rfl rfl (SeqR.done (tn ?_)))))))))))
   refine CW.seq (CW.region (sd rfl (yl_move rfl rfl (sd rfl (yl_move rfl rfl (sd rfl (yl_move rfl rfl ?_)))))))
   obtain ⟨eb68, eo68, ec68, eA68, eS68, ebl68, el68, eR68, eC68⟩ := RdS.atD (OwnL.rd good_FeedItem hB65) d_FeedItem (i := k3) (by first | omega | assumption)
   obtain rfl := eR68
   rw [getD_set_self (by have hq := OwnL.len hB65; simp only [List.length_set] at hq; omega)] at eC68
   have eC68 : Cells w64 eb68 (eo68 + k3 * 5) [.int .i64 (x41), .int .i64 ((x42.getD k3 d_FeedItem).Group), .string (bs ((x42.getD k3 d_FeedItem).Key)), .string (bs ((x42.getD k3 d_FeedItem).Val)), .bool ((x42.getD k3 d_FeedItem).Gone)] := eC68
   refine sd rfl (yl_indexAddrN Try.un83 Try.ty140 rfl rfl rfl eA68 (by first | omega | assumption | (simp only [IntKind.wrap_i64] at *; omega)) (sd rfl (yl_fieldAddr Try.fd140_1 rfl rfl ?_)))
   have hrg69 := OwnL.rng hB65 (i := k3) (by first | omega | assumption | (simp only [IntKind.wrap_i64] at *; omega)) eb68 (by rw [eA68]; rfl)
   refine SeqR.u rfl rfl (yl_storeF (off := eo68) (i := k3) (d := 1) (dx := d_FeedItem) (x' := (⟨x41, IntKind.wrap .i64 (x41 + 1), (x42.getD k3 d_FeedItem).Key, (x42.getD k3 d_FeedItem).Val, (x42.getD k3 d_FeedItem).Gone⟩ : DFeedItem)) (vs := [.int .i64 (IntKind.wrap .i64 (x41 + 1))]) Try.ty3 rfl hB65 eA68 rfl rfl rfl rfl rfl (by first | omega | assumption | (simp only [IntKind.wrap_i64] at *; omega)) (Nat.le_of_ble_eq_true rfl) (by rw [getD_set_self (by have hq := OwnL.len hB65; simp only [List.length_set] at hq; omega)]; rfl) rfl ?_)
   intro w70 hB71 hO72
   have hO72z := hO72.size
   rw [List.set_set] at hB71
   refine SeqR.done (tn (CW.seq (CW.region (sd rfl (yl_move rfl rfl (sd rfl (yl_add rfl rfl rfl (sd rfl (yl_assign rfl rfl (SeqR.done (tn ?_)))))))))))
   refine CW.seq (CW.region (sd rfl (yl_move rfl rfl (sd rfl (yl_move rfl rfl (sd rfl (yl_move rfl rfl (sd rfl (yl_call Try.en83 rfl (opvs_cons rfl opvs_nil) (Cal.mono (c_l_markText (IntKind.wrap .i64 ((IntKind.wrap .i64 (x41 + 1)) + 1)) (by first | omega | assumption | (simp only [IntKind.wrap_i64] at *; omega))) ?_))))))))))
   rintro v74 w73 ⟨rfl, hE75⟩
   have hE75z := Ex.size hE75
   have q77 := OwnL.ex good_FeedItem hB71 hE75
   obtain ⟨eb78, eo78, ec78, eA78, eS78, ebl78, el78, eR78, eC78⟩ := RdS.atD (OwnL.rd good_FeedItem q77) d_FeedItem (i := k3) (by first | omega | assumption)
   obtain rfl := eR78
   rw [getD_set_self (by have hq := OwnL.len q77; simp only [List.length_set] at hq; omega)] at eC78
   have eC78 : Cells w73 eb78 (eo78 + k3 * 5) [.int .i64 (x41), .int .i64 (IntKind.wrap .i64 (x41 + 1)), .string (bs ((x42.getD k3 d_FeedItem).Key)), .string (bs ((x42.getD k3 d_FeedItem).Val)), .bool ((x42.getD k3 d_FeedItem).Gone)] := eC78
   refine sd rfl (yl_indexAddrN Try.un83 Try.ty140 rfl rfl rfl eA78 (by first | omega | assumption | (simp only [IntKind.wrap_i64] at *; omega)) (sd rfl (yl_fieldAddr Try.fd140_2 rfl rfl ?_)))
   have hrg79 := OwnL.rng q77 (i := k3) (by first | omega | assumption | (simp only [IntKind.wrap_i64] at *; omega)) eb78 (by rw [eA78]; rfl)
   refine SeqR.u rfl rfl (yl_storeF (off := eo78) (i := k3) (d := 2) (dx := d_FeedItem) (x' := (⟨x41, IntKind.wrap .i64 (x41 + 1), (l_markText (IntKind.wrap .i64 ((IntKind.wrap .i64 (x41 + 1)) + 1))), (x42.getD k3 d_FeedItem).Val, (x42.getD k3 d_FeedItem).Gone⟩ : DFeedItem)) (vs := [.string (bs ((l_markText (IntKind.wrap .i64 ((IntKind.wrap .i64 (x41 + 1)) + 1)))))]) Try.ty9 rfl q77 eA78 rfl rfl rfl rfl rfl (by first | omega | assumption | (simp only [IntKind.wrap_i64] at *; omega)) (Nat.le_of_ble_eq_true rfl) (by rw [getD_set_self (by have hq := OwnL.len q77; simp only [List.length_set] at hq; omega)]; rfl) rfl ?_)
   intro w80 hB81 hO82
   have hO82z := hO82.size
   rw [List.set_set] at hB81
   refine SeqR.done (tn (CW.seq (CW.region (sd rfl (yl_move rfl rfl (sd rfl (yl_add rfl rfl rfl (sd rfl (yl_assign rfl rfl (SeqR.done (tn ?_)))))))))))
   refine CW.seq (CW.region (sd rfl (yl_move rfl rfl (sd rfl (yl_move rfl rfl (sd rfl (yl_move rfl rfl (sd rfl (yl_call Try.en83 rfl (opvs_cons rfl opvs_nil) (Cal.mono (c_l_markText (IntKind.wrap .i64 ((IntKind.wrap .i64 ((IntKind.wrap .i64 (x41 + 1)) + 1)) + 1)) (by first | omega | assumption | (simp only [IntKind.wrap_i64] at *; omega))) ?_))))))))))
   rintro v84 w83 ⟨rfl, hE85⟩
   have hE85z := Ex.size hE85
   have q87 := OwnL.ex good_FeedItem hB81 hE85
   obtain ⟨eb88, eo88, ec88, eA88, eS88, ebl88, el88, eR88, eC88⟩ := RdS.atD (OwnL.rd good_FeedItem q87) d_FeedItem (i := k3) (by first | omega | assumption)
   obtain rfl := eR88
   rw [getD_set_self (by have hq := OwnL.len q87; simp only [List.length_set] at hq; omega)] at eC88
   have eC88 : Cells w83 eb88 (eo88 + k3 * 5) [.int .i64 (x41), .int .i64 (IntKind.wrap .i64 (x41 + 1)), .string (bs ((l_markText (IntKind.wrap .i64 ((IntKind.wrap .i64 (x41 + 1)) + 1))))), .string (bs ((x42.getD k3 d_FeedItem).Val)), .bool ((x42.getD k3 d_FeedItem).Gone)] := eC88
   refine sd rfl (yl_indexAddrN Try.un83 Try.ty140 rfl rfl rfl eA88 (by first | omega | assumption | (simp only [IntKind.wrap_i64] at *; omega)) (sd rfl (yl_fieldAddr Try.fd140_3 rfl rfl ?_)))
   have hrg89 := OwnL.rng q87 (i := k3) (by first | omega | assumption | (simp only [IntKind.wrap_i64] at *; omega)) eb88 (by rw [eA88]; rfl)
   refine SeqR.u rfl rfl (yl_storeF (off := eo88) (i := k3) (d := 3) (dx := d_FeedItem) (x' := (⟨x41, IntKind.wrap .i64 (x41 + 1), (l_markText (IntKind.wrap .i64 ((IntKind.wrap .i64 (x41 + 1)) + 1))), (l_markText (IntKind.wrap .i64 ((IntKind.wrap .i64 ((IntKind.wrap .i64 (x41 + 1)) + 1)) + 1))), (x42.getD k3 d_FeedItem).Gone⟩ : DFeedItem)) (vs := [.string (bs ((l_markText (IntKind.wrap .i64 ((IntKind.wrap .i64 ((IntKind.wrap .i64 (x41 + 1)) + 1)) + 1)))))]) Try.ty9 rfl q87 eA88 rfl rfl rfl rfl rfl (by first | omega | assumption | (simp only [IntKind.wrap_i64] at *; omega)) (Nat.le_of_ble_eq_true rfl) (by rw [getD_set_self (by have hq := OwnL.len q87; simp only [List.length_set] at hq; omega)]; rfl) rfl ?_)
   intro w90 hB91 hO92
   have hO92z := hO92.size
   rw [List.set_set] at hB91
   refine SeqR.done (tn (CW.seq (CW.region (sd rfl (yl_move rfl rfl (sd rfl (yl_add rfl rfl rfl (sd rfl (yl_assign rfl rfl (SeqR.done (tn ?_)))))))))))
   refine CW.seq (CW.region (sd rfl (yl_move rfl rfl (sd rfl (yl_move rfl rfl (sd rfl (yl_move rfl rfl (sd rfl (yl_rem rfl rfl rfl (by decide) (sd rfl (yl_eql rfl rfl rfl ?_)))))))))))
   obtain ⟨eb94, eo94, ec94, eA94, eS94, ebl94, el94, eR94, eC94⟩ := RdS.atD (OwnL.rd good_FeedItem hB91) d_FeedItem (i := k3) (by first | omega | assumption)
   obtain rfl := eR94
   rw [getD_set_self (by have hq := OwnL.len hB91; simp only [List.length_set] at hq; omega)] at eC94
   have eC94 : Cells w90 eb94 (eo94 + k3 * 5) [.int .i64 (x41), .int .i64 (IntKind.wrap .i64 (x41 + 1)), .string (bs ((l_markText (IntKind.wrap .i64 ((IntKind.wrap .i64 (x41 + 1)) + 1))))), .string (bs ((l_markText (IntKind.wrap .i64 ((IntKind.wrap .i64 ((IntKind.wrap .i64 (x41 + 1)) + 1)) + 1))))), .bool ((x42.getD k3 d_FeedItem).Gone)] := eC94
   refine sd rfl (yl_indexAddrN Try.un83 Try.ty140 rfl rfl rfl eA94 (by first | omega | assumption | (simp only [IntKind.wrap_i64] at *; omega)) (sd rfl (yl_fieldAddr Try.fd140_4 rfl rfl ?_)))
   have hrg95 := OwnL.rng hB91 (i := k3) (by first | omega | assumption | (simp only [IntKind.wrap_i64] at *; omega)) eb94 (by rw [eA94]; rfl)
   refine SeqR.u rfl rfl (yl_storeF (off := eo94) (i := k3) (d := 4) (dx := d_FeedItem) (x' := (⟨x41, IntKind.wrap .i64 (x41 + 1), (l_markText (IntKind.wrap .i64 ((IntKind.wrap .i64 (x41 + 1)) + 1))), (l_markText (IntKind.wrap .i64 ((IntKind.wrap .i64 ((IntKind.wrap .i64 (x41 + 1)) + 1)) + 1))), decide ((Int.tmod (IntKind.wrap .i64 ((IntKind.wrap .i64 ((IntKind.wrap .i64 ((IntKind.wrap .i64 (x41 + 1)) + 1)) + 1)) + 1)) 3) = 0)⟩ : DFeedItem)) (vs := [.bool (decide ((Int.tmod (IntKind.wrap .i64 ((IntKind.wrap .i64 ((IntKind.wrap .i64 ((IntKind.wrap .i64 (x41 + 1)) + 1)) + 1)) + 1)) 3) = 0))]) Try.ty4 rfl hB91 eA94 rfl rfl rfl rfl rfl (by first | omega | assumption | (simp only [IntKind.wrap_i64] at *; omega)) (Nat.le_of_ble_eq_true rfl) (by rw [getD_set_self (by have hq := OwnL.len hB91; simp only [List.length_set] at hq; omega)]; rfl) rfl ?_)
   intro w96 hB97 hO98
   have hO98z := hO98.size
   rw [List.set_set] at hB97
   refine SeqR.done (tn (CW.region (sd rfl (yl_move rfl rfl (sd rfl (yl_add rfl rfl rfl (sd rfl (yl_assign rfl rfl (SeqR.done (bn (tn ?_)))))))))))
   refine CW.region (sd rfl (yl_move rfl rfl (sd rfl (yl_inc rfl rfl rfl (by omega) (sd rfl (yl_assign rfl rfl (SeqR.done (tn ?_))))))))
   have hB99 : B_l_markFeedItemS_0 p_a p_k k3 (x41, x42) = .cont (IntKind.wrap .i64 ((IntKind.wrap .i64 ((IntKind.wrap .i64 ((IntKind.wrap .i64 ((IntKind.wrap .i64 (x41 + 1)) + 1)) + 1)) + 1)) + 1), (x42.set k3 (⟨x41, IntKind.wrap .i64 (x41 + 1), (l_markText (IntKind.wrap .i64 ((IntKind.wrap .i64 (x41 + 1)) + 1))), (l_markText (IntKind.wrap .i64 ((IntKind.wrap .i64 ((IntKind.wrap .i64 (x41 + 1)) + 1)) + 1))), decide ((Int.tmod (IntKind.wrap .i64 ((IntKind.wrap .i64 ((IntKind.wrap .i64 ((IntKind.wrap .i64 (x41 + 1)) + 1)) + 1)) + 1)) 3) = 0)⟩ : DFeedItem))) := by simp only [B_l_markFeedItemS_0, cond_true, cond_false, loopE_done, loopE_ret]
   exact ⟨p_a.length - (k3 + 1), by omega, k3 + 1, IntKind.wrap .i64 ((IntKind.wrap .i64 ((IntKind.wrap .i64 ((IntKind.wrap .i64 ((IntKind.wrap .i64 (x41 + 1)) + 1)) + 1)) + 1)) + 1), (x42.set k3 (⟨x41, IntKind.wrap .i64 (x41 + 1), (l_markText (IntKind.wrap .i64 ((IntKind.wrap .i64 (x41 + 1)) + 1))), (l_markText (IntKind.wrap .i64 ((IntKind.wrap .i64 ((IntKind.wrap .i64 (x41 + 1)) + 1)) + 1))), decide ((Int.tmod (IntKind.wrap .i64 ((IntKind.wrap .i64 ((IntKind.wrap .i64 ((IntKind.wrap .i64 (x41 + 1)) + 1)) + 1)) + 1)) 3) = 0)⟩ : DFeedItem)), rfl, hlt60, (by omega), rfl, rfl, rfl, hB97, (Mut.only (Mut.only (Mut.ex (Mut.only (Mut.ex (Mut.only (Mut.only hf56 hO66 (by simp only [InR, or_false]; omega)) hO72 (by simp only [InR, or_false]; omega)) hE75) hO82 (by simp only [InR, or_false]; omega)) hE85) hO92 (by simp only [InR, or_false]; omega)) hO98 (by simp only [InR, or_false]; omega)), (by first | omega | assumption | (simp only [IntKind.wrap_i64] at *; omega)), (loopM.cont hlt60 hB99).symm.trans hI50⟩
  ·refine CW.seq (CW.seq (CW.region (sd rfl (yl_move rfl rfl (sd rfl (yl_move rfl rfl (sd rfl (yl_len Try.un83 rfl rfl (sd rfl (yl_lss rfl rfl rfl (SeqR.done (tn ?_))))))))))))
   refine CW.cond_f rfl (lt_f hlt60) (CW.exit (tx (tx ?_)))
   have hL107 : loopM (B_l_markFeedItemS_0 p_a p_k) (p_a.length - 0) 0 (p_k, p_a) = .done (x41, x42) := hI50.symm.trans (loopM.stop hlt60)
   refine bx (tn (CW.seq (CW.region (sd rfl (yl_move rfl rfl (sd rfl (yl_assign rfl rfl (SeqR.done (tn (CW.ret ?_))))))))))
   refine rr rfl (.cons rfl .nil) ?_
   have hM108 : (l_markFeedItemS p_a p_k) = ((x41, x42)) := by simp only [l_markFeedItemS, hL107, cond_true, cond_false, loopE_done, loopE_ret]
   rw [hM108]
   exact ⟨rfl, hf55, hf56⟩
set_option maxRecDepth 100000 in
set_option maxHeartbeats 2000000 in
theorem c_l_markDiff {A1 : Option Addr} {c1 : Nat} {lo1 hi1 : Nat} {w : World} (p_a : DDiff) (p_k : Int) (h1 : OwnL w lo1 hi1 140 5 (RF e_FeedItem) A1 p_a.List.length c1 p_a.List) (hrn2 : (0 ≤ lo1 ∧ lo1 ≤ hi1 ∧ hi1 ≤ w.heap.size)) (pre0 : p_k ≤ 9223372036854775807) : Cal Try.prog 49 #[.agg #[.int .i64 (p_a.From), .int .i64 (p_a.To), .slice A1 p_a.List.length c1], .int .i64 (p_k)] w fun v w' => v = .int .i64 ((l_markDiff p_a p_k).1) ∧ OwnL w' lo1 hi1 140 5 (RF e_FeedItem) A1 p_a.List.length c1 ((l_markDiff p_a p_k).2.List) ∧ Mut [(lo1, hi1)] w w' := by
 refine Cal.of (vs := [.agg #[.int .i64 (p_a.From), .int .i64 (p_a.To), .slice A1 p_a.List.length c1], .int .i64 (p_k)]) Try.func49 rfl Try.ntmps49 rfl (CW.seq (CW.region (sd rfl (yl_box (cs := [.int .i64 (p_a.From), .int .i64 (p_a.To), .slice A1 p_a.List.length c1]) rfl rfl rfl ?_))))
 intro b3 w4 hs5 hz6 hB7 hE8
 refine sd rfl (yl_assign rfl rfl (SeqR.done (tn (CW.seq (CW.region (sd rfl (yl_fieldAddr Try.fd85_2 rfl rfl (sd rfl (yl_load1 Try.ty83 rfl rfl ((hB7.cell 2).trans rfl) (sd rfl (yl_move rfl rfl (sd rfl (yl_call Try.en105 rfl (opvs_cons rfl (opvs_cons rfl opvs_nil)) (Cal.mono (c_l_markFeedItemS p_a.List p_k (OwnL.ex good_FeedItem h1 hE8) (by omega) (by first | omega | assumption | (simp only [IntKind.wrap_i64] at *; omega))) ?_))))))))))))))
 rintro v11 w10 ⟨rfl, h13, hm12⟩
 have hm12z := Mut.size hm12
 have hrf14 := rf_markFeedItemS p_a.List p_k (by first | omega | assumption | (simp only [IntKind.wrap_i64] at *; omega))
 refine sd rfl (yl_assign rfl rfl (SeqR.done (tn (CW.seq (CW.region (sd rfl (yl_move rfl rfl (sd rfl (yl_assign rfl rfl (SeqR.done (tn ?_)))))))))))
 refine CW.ret (rr rfl (.cons rfl .nil) ?_)
 have hM15 : (l_markDiff p_a p_k) = (((l_markFeedItemS p_a.List p_k).1, (⟨p_a.From, p_a.To, (l_markFeedItemS p_a.List p_k).2⟩ : DDiff))) := by simp only [l_markDiff, cond_true, cond_false, loopE_done, loopE_ret]
 rw [hM15]
 exact ⟨rfl, h13, (Mut.mut (Mut.ex (Mut.refl (l := [(lo1, hi1)]) w) hE8) hm12 (fun k hk => by simp only [InR, or_false] at hk ⊢; omega))⟩
set_option maxRecDepth 100000 in
set_option maxHeartbeats 2000000 in
theorem c_l_heldFeedItemS {A1 : Option Addr} {c1 : Nat} {w : World} (p_a : List DFeedItem) (p_k : Int) (h1 : RdS w (Iv 0 w.heap.size) (RF e_FeedItem) 5 A1 p_a.length c1 p_a) (pre0 : p_k ≤ 9223372036854775807) : Cal Try.prog 106 #[.slice A1 p_a.length c1, .int .i64 (p_k)] w fun v w' => v = .int .i64 ((l_heldFeedItemS p_a p_k)) ∧ Ex w w' := by
 refine Cal.of (vs := [.slice A1 p_a.length c1, .int .i64 (p_k)]) Try.func106 rfl Try.ntmps106 rfl (CW.seq (CW.region (sd rfl (yl_assign rfl rfl (SeqR.done (tn (CW.seq (CW.seq (CW.region ?_)))))))))
 refine sd rfl (yl_assign rfl rfl (SeqR.done (tn (CW.block (CW.loop (fun m4 L5 w6 => ∃ (k2 : Nat) (x3 : Int), m4 = p_a.length - k2 ∧ k2 ≤ p_a.length ∧ w.heap.size ≤ w6.heap.size ∧ lkp L5 0 = some (.slice A1 p_a.length c1) ∧ lkp L5 1 = some (.int .i64 (x3)) ∧ lkp L5 5 = some (.int .i64 ((k2 : Int))) ∧ RdS w6 (Iv 0 w.heap.size) (RF e_FeedItem) 5 A1 p_a.length c1 p_a ∧ Ex w w6 ∧ x3 ≤ 9223372036854775807 ∧ loopM (B_l_heldFeedItemS_0 p_a p_k) (p_a.length - k2) k2 (x3) = loopM (B_l_heldFeedItemS_0 p_a p_k) (p_a.length - 0) 0 (p_k)) (p_a.length - 0) ?_ ?_)))))
 ·exact ⟨0, p_k, rfl, (by omega), Nat.le_refl _, rfl, rfl, rfl, h1, (Ex.refl w), (by first | omega | assumption | (simp only [IntKind.wrap_i64] at *; omega)), rfl⟩
 ·rintro m7 L8 w9 ⟨k2, x3, rfl, hk10, hsz12, hl13, hl14, hl15, hf16, hf17, hv18, hI11⟩
  refine CW.sub (Sub.cons hl13 (Sub.cons hl14 (Sub.cons hl15 (Sub.nil _)))) ?_
  have hf17z := Ex.size hf17
  have hbg19 := RdS.big hf16
  rcases Nat.lt_or_ge k2 p_a.length with hlt20 | hlt20
  ·refine CW.seq (CW.seq (CW.region (sd rfl (yl_move rfl rfl (sd rfl (yl_move rfl rfl (sd rfl (yl_len Try.un83 rfl rfl (sd rfl (yl_lss rfl rfl rfl (SeqR.done (tn ?_))))))))))))
   refine CW.cond_t rfl (lt_t hlt20) (CW.skip (tn (CW.seq (CW.block (CW.seq (CW.seq (CW.region (sd rfl (yl_move rfl rfl ?_)))))))))
   refine sd rfl (yl_move rfl rfl ?_)
   obtain ⟨eb21, eo21, ec21, eA21, eS21, ebl21, el21, eR21, eC21⟩ := RdS.atD hf16 d_FeedItem (i := k2) (by first | omega | assumption)
   obtain rfl := eR21
   have eC21 : Cells w9 eb21 (eo21 + k2 * 5) [.int .i64 ((p_a.getD k2 d_FeedItem).Time), .int .i64 ((p_a.getD k2 d_FeedItem).Group), .string (bs ((p_a.getD k2 d_FeedItem).Key)), .string (bs ((p_a.getD k2 d_FeedItem).Val)), .bool ((p_a.getD k2 d_FeedItem).Gone)] := eC21
   refine sd rfl (yl_indexAddrN Try.un83 Try.ty140 rfl rfl rfl eA21 (by first | omega | assumption | (simp only [IntKind.wrap_i64] at *; omega)) (sd rfl (yl_fieldAddr Try.fd140_0 rfl rfl (sd rfl (yl_load1 Try.ty3 rfl rfl (eC21 0 _ rfl) (sd rfl (yl_move rfl rfl (sd rfl (yl_neq rfl rfl rfl (SeqR.done (tn (bcase (decide (((p_a.getD k2 d_FeedItem).Time) = x3)) (fun hb22 => ?_) (fun hb22 => ?_)))))))))))))
   ·have hb22p := dec_t hb22
    refine CW.cond_f rfl (not_t hb22) (CW.skip (tn (CW.seq (CW.region (sd rfl (yl_move rfl rfl (sd rfl (yl_add rfl rfl rfl (sd rfl (yl_assign rfl rfl (SeqR.done ?_)))))))))))
    refine tn (CW.seq (CW.seq (CW.region (sd rfl (yl_move rfl rfl (sd rfl (yl_move rfl rfl (sd rfl (yl_indexAddrN Try.un83 Try.ty140 rfl rfl rfl eA21 (by first | omega | assumption | (simp only [IntKind.wrap_i64] at *; omega)) (sd rfl (yl_fieldAddr Try.fd140_1 rfl rfl (sd rfl (yl_load1 Try.ty3 rfl rfl (eC21 1 _ rfl) ?_)))))))))))))
    refine sd rfl (yl_move rfl rfl (sd rfl (yl_neq rfl rfl rfl (SeqR.done (tn (bcase (decide (((p_a.getD k2 d_FeedItem).Group) = (IntKind.wrap .i64 (x3 + 1)))) (fun hb23 => ?_) (fun hb23 => ?_)))))))
    ·have hb23p := dec_t hb23
     refine CW.cond_f rfl (not_t hb23) (CW.skip (tn (CW.seq (CW.region (sd rfl (yl_move rfl rfl (sd rfl (yl_add rfl rfl rfl (sd rfl (yl_assign rfl rfl (SeqR.done ?_)))))))))))
     refine tn (CW.seq (CW.seq (CW.drawsI 8 (vgetI [DetI (.slice A1 p_a.length c1), DetI (.int .i64 ((k2 : Int))), DetI (.pointer (some ⟨eb21, eo21 + k2 * 5, none⟩)), DetI (.pointer (some ⟨eb21, eo21 + k2 * 5 + 2, none⟩)), DetI (.string (bs ((p_a.getD k2 d_FeedItem).Key))), DetI (.int .i64 (IntKind.wrap .i64 ((IntKind.wrap .i64 (x3 + 1)) + 1))), DetI (.string (bs ((l_markText (IntKind.wrap .i64 ((IntKind.wrap .i64 (x3 + 1)) + 1)))))), DetI (.bool (!(((p_a.getD k2 d_FeedItem).Key) == (l_markText (IntKind.wrap .i64 ((IntKind.wrap .i64 (x3 + 1)) + 1))))))]) Try.follows rfl rfl rfl rfl rfl rfl (vgetI_stable ⟨StableI.det _, StableI.det _, StableI.det _, StableI.det _, StableI.det _, StableI.det _, StableI.det _, StableI.det _, trivial⟩) ⟨?_, ?_, ?_, ?_, ?_, ?_, ?_, ?_, trivial⟩ ?_)))
     ·exact fun _ _ h => os rfl ((yl_move rfl (h.old 0 _ rfl rfl) kI))
     ·exact fun _ _ h => os rfl ((yl_move rfl (h.old 5 _ rfl rfl) kI))
     ·intro L35 w36 hi37
      have hE38 := hi37.ex
      have hE38z := Ex.size hE38
      exact os rfl ((yl_indexAddrN Try.un83 Try.ty140 rfl (hi37.dt 0 30 rfl rfl rfl) (hi37.dt 1 31 rfl rfl rfl) eA21 (by first | omega | assumption | (simp only [IntKind.wrap_i64] at *; omega)) kI))
     ·exact fun _ _ h => os rfl ((yl_fieldAddr Try.fd140_2 rfl (h.dt 2 32 rfl rfl rfl) kI))
     ·exact fun _ _ h => os rfl ((yl_load1 Try.ty9 rfl (h.dt 3 33 rfl rfl rfl) ((Cells.ex eC21 h.ex) 2 _ rfl) kI))
     ·exact fun _ _ h => os rfl ((yl_move rfl (h.old 1 _ rfl rfl) kI))
     ·intro L57 w58 hi59
      have hE60 := hi59.ex
      have hE60z := Ex.size hE60
      refine OpR.op' rfl (yl_call Try.en83 rfl (opvs_cons (hi59.dt 5 35 rfl rfl rfl) opvs_nil) (Cal.mono (c_l_markText (IntKind.wrap .i64 ((IntKind.wrap .i64 (x3 + 1)) + 1)) (by first | omega | assumption | (simp only [IntKind.wrap_i64] at *; omega))) ?_))
      rintro v63 w62 ⟨rfl, hE64⟩
      exact ⟨rfl, hE64⟩
     ·exact fun _ _ h => os rfl ((yl_sneq (a := ((p_a.getD k2 d_FeedItem).Key)) (b := (l_markText (IntKind.wrap .i64 ((IntKind.wrap .i64 (x3 + 1)) + 1)))) rfl (h.dt 4 34 rfl rfl rfl) (h.dt 6 36 rfl rfl rfl) kI))
     ·intro fl74 fh75 L71 w72 hp73
      have hE76 := hp73.ex
      have hE76z := Ex.size hE76
      refine SeqR.done (tn (CW.sub (Sub.cons (d := 0) (hp73.old 0 _ rfl rfl) (Sub.cons (d := 1) (hp73.old 1 _ rfl rfl) (Sub.cons (d := 5) (hp73.old 5 _ rfl rfl) (Sub.cons (d := 37) (hp73.nt 7 37 rfl rfl rfl) (Sub.nil _))))) (bcase (((p_a.getD k2 d_FeedItem).Key) == (l_markText (IntKind.wrap .i64 ((IntKind.wrap .i64 (x3 + 1)) + 1)))) (fun hb81 => ?_) (fun hb81 => ?_))))
      ·refine CW.cond_f rfl (not_t hb81) (CW.skip (tn (CW.seq (CW.region (sd rfl (yl_move rfl rfl (sd rfl (yl_add rfl rfl rfl (sd rfl (yl_assign rfl rfl (SeqR.done ?_)))))))))))
       refine tn (CW.seq (CW.seq ?_))
       have q82 := Cells.ex eC21 hE76
       refine CW.drawsI 8 (vgetI [DetI (.slice A1 p_a.length c1), DetI (.int .i64 ((k2 : Int))), DetI (.pointer (some ⟨eb21, eo21 + k2 * 5, none⟩)), DetI (.pointer (some ⟨eb21, eo21 + k2 * 5 + 3, none⟩)), DetI (.string (bs ((p_a.getD k2 d_FeedItem).Val))), DetI (.int .i64 (IntKind.wrap .i64 ((IntKind.wrap .i64 ((IntKind.wrap .i64 (x3 + 1)) + 1)) + 1))), DetI (.string (bs ((l_markText (IntKind.wrap .i64 ((IntKind.wrap .i64 ((IntKind.wrap .i64 (x3 + 1)) + 1)) + 1)))))), DetI (.bool (!(((p_a.getD k2 d_FeedItem).Val) == (l_markText (IntKind.wrap .i64 ((IntKind.wrap .i64 ((IntKind.wrap .i64 (x3 + 1)) + 1)) + 1))))))]) Try.follows rfl rfl rfl rfl rfl rfl (vgetI_stable ⟨StableI.det _, StableI.det _, StableI.det _, StableI.det _, StableI.det _, StableI.det _, StableI.det _, StableI.det _, trivial⟩) ⟨?_, ?_, ?_, ?_, ?_, ?_, ?_, ?_, trivial⟩ ?_
       ·exact fun _ _ h => os rfl ((yl_move rfl (h.old 0 _ rfl rfl) kI))
       ·exact fun _ _ h => os rfl ((yl_move rfl (h.old 5 _ rfl rfl) kI))
       ·intro L94 w95 hi96
        have hE97 := hi96.ex
        have hE97z := Ex.size hE97
        exact os rfl ((yl_indexAddrN Try.un83 Try.ty140 rfl (hi96.dt 0 40 rfl rfl rfl) (hi96.dt 1 41 rfl rfl rfl) eA21 (by first | omega | assumption | (simp only [IntKind.wrap_i64] at *; omega)) kI))
       ·exact fun _ _ h => os rfl ((yl_fieldAddr Try.fd140_3 rfl (h.dt 2 42 rfl rfl rfl) kI))
       ·exact fun _ _ h => os rfl ((yl_load1 Try.ty9 rfl (h.dt 3 43 rfl rfl rfl) ((Cells.ex q82 h.ex) 3 _ rfl) kI))
       ·exact fun _ _ h => os rfl ((yl_move rfl (h.old 1 _ rfl rfl) kI))
       ·intro L116 w117 hi118
        have hE119 := hi118.ex
        have hE119z := Ex.size hE119
        refine OpR.op' rfl (yl_call Try.en83 rfl (opvs_cons (hi118.dt 5 45 rfl rfl rfl) opvs_nil) (Cal.mono (c_l_markText (IntKind.wrap .i64 ((IntKind.wrap .i64 ((IntKind.wrap .i64 (x3 + 1)) + 1)) + 1)) (by first | omega | assumption | (simp only [IntKind.wrap_i64] at *; omega))) ?_))
        rintro v122 w121 ⟨rfl, hE123⟩
        exact ⟨rfl, hE123⟩
       ·exact fun _ _ h => os rfl ((yl_sneq (a := ((p_a.getD k2 d_FeedItem).Val)) (b := (l_markText (IntKind.wrap .i64 ((IntKind.wrap .i64 ((IntKind.wrap .i64 (x3 + 1)) + 1)) + 1)))) rfl (h.dt 4 44 rfl rfl rfl) (h.dt 6 46 rfl rfl rfl) kI))
       ·intro fl133 fh134 L130 w131 hp132
        have hE135 := hp132.ex
        have hE135z := Ex.size hE135
        refine SeqR.done (tn (CW.sub (Sub.cons (d := 0) (hp132.old 0 _ rfl rfl) (Sub.cons (d := 1) (hp132.old 1 _ rfl rfl) (Sub.cons (d := 5) (hp132.old 5 _ rfl rfl) (Sub.cons (d := 47) (hp132.nt 7 47 rfl rfl rfl) (Sub.nil _))))) (bcase (((p_a.getD k2 d_FeedItem).Val) == (l_markText (IntKind.wrap .i64 ((IntKind.wrap .i64 ((IntKind.wrap .i64 (x3 + 1)) + 1)) + 1)))) (fun hb140 => ?_) (fun hb140 => ?_))))
        ·refine CW.cond_f rfl (not_t hb140) (CW.skip (tn (CW.seq (CW.region (sd rfl (yl_move rfl rfl (sd rfl (yl_add rfl rfl rfl (sd rfl (yl_assign rfl rfl (SeqR.done ?_)))))))))))
         refine tn (CW.seq (CW.seq (CW.region (sd rfl (yl_move rfl rfl (sd rfl (yl_move rfl rfl (sd rfl (yl_indexAddrN Try.un83 Try.ty140 rfl rfl rfl eA21 (by first | omega | assumption | (simp only [IntKind.wrap_i64] at *; omega)) (sd rfl (yl_fieldAddr Try.fd140_4 rfl rfl (sd rfl (yl_load1 Try.ty4 rfl rfl ((Cells.ex q82 hE135) 4 _ rfl) ?_)))))))))))))
         refine sd rfl (yl_move rfl rfl (sd rfl (yl_rem rfl rfl rfl (by decide) (sd rfl (yl_eql rfl rfl rfl (sd rfl (yl_bneq Try.un4 rfl rfl rfl (SeqR.done (tn (bcase (((p_a.getD k2 d_FeedItem).Gone) == (decide ((Int.tmod (IntKind.wrap .i64 ((IntKind.wrap .i64 ((IntKind.wrap .i64 ((IntKind.wrap .i64 (x3 + 1)) + 1)) + 1)) + 1)) 3) = 0))) (fun hb142 => ?_) (fun hb142 => ?_)))))))))))
         ·refine CW.cond_f rfl (not_t hb142) (CW.skip (tn (CW.region (sd rfl (yl_move rfl rfl (sd rfl (yl_add rfl rfl rfl (sd rfl (yl_assign rfl rfl (SeqR.done (bn ?_)))))))))))
          refine tn (CW.region (sd rfl (yl_move rfl rfl (sd rfl (yl_inc rfl rfl rfl (by omega) (sd rfl (yl_assign rfl rfl (SeqR.done (tn ?_)))))))))
          have hB143 : B_l_heldFeedItemS_0 p_a p_k k2 (x3) = .cont (IntKind.wrap .i64 ((IntKind.wrap .i64 ((IntKind.wrap .i64 ((IntKind.wrap .i64 ((IntKind.wrap .i64 (x3 + 1)) + 1)) + 1)) + 1)) + 1)) := by simp only [B_l_heldFeedItemS_0, hb22, hb23, hb81, hb140, hb142, cond_true, cond_false, loopE_done, loopE_ret]
          exact ⟨p_a.length - (k2 + 1), by omega, k2 + 1, IntKind.wrap .i64 ((IntKind.wrap .i64 ((IntKind.wrap .i64 ((IntKind.wrap .i64 ((IntKind.wrap .i64 (x3 + 1)) + 1)) + 1)) + 1)) + 1), rfl, hlt20, (by omega), rfl, rfl, rfl, (RdS.ex good_FeedItem (RdS.ex good_FeedItem hf16 hE76) hE135), (Ex.trans (Ex.trans hf17 hE76) hE135), (by first | omega | assumption | (simp only [IntKind.wrap_i64] at *; omega)), (loopM.cont hlt20 hB143).symm.trans hI11⟩
         ·refine CW.cond_t rfl (not_f hb142) (CW.seq (CW.region (sd rfl (yl_assign rfl rfl (SeqR.done (tn (CW.ret (tr (br ?_)))))))))
          refine tr (tr ?_)
          have hB149 : B_l_heldFeedItemS_0 p_a p_k k2 (x3) = .ret (-1) := by simp only [B_l_heldFeedItemS_0, hb22, hb23, hb81, hb140, hb142, cond_true, cond_false, loopE_done, loopE_ret]
          have hL148 : loopM (B_l_heldFeedItemS_0 p_a p_k) (p_a.length - 0) 0 (p_k) = .ret (-1) := hI11.symm.trans (loopM.ret hlt20 hB149)
          refine br (tr (rr rfl (.cons rfl .nil) ?_))
          have hM150 : (l_heldFeedItemS p_a p_k) = (-1) := by simp only [l_heldFeedItemS, hb22, hb23, hb81, hb140, hb142, hL148, cond_true, cond_false, loopE_done, loopE_ret]
          rw [hM150]
          exact ⟨rfl, (Ex.trans (Ex.trans hf17 hE76) hE135)⟩
        ·refine CW.cond_t rfl (not_f hb140) (CW.seq (CW.region (sd rfl (yl_assign rfl rfl (SeqR.done (tn (CW.ret (tr (br ?_)))))))))
         refine tr (tr ?_)
         have hB154 : B_l_heldFeedItemS_0 p_a p_k k2 (x3) = .ret (-1) := by simp only [B_l_heldFeedItemS_0, hb22, hb23, hb81, hb140, cond_true, cond_false, loopE_done, loopE_ret]
         have hL153 : loopM (B_l_heldFeedItemS_0 p_a p_k) (p_a.length - 0) 0 (p_k) = .ret (-1) := hI11.symm.trans (loopM.ret hlt20 hB154)
         refine br (tr (rr rfl (.cons rfl .nil) ?_))
         have hM155 : (l_heldFeedItemS p_a p_k) = (-1) := by simp only [l_heldFeedItemS, hb22, hb23, hb81, hb140, hL153, cond_true, cond_false, loopE_done, loopE_ret]
         rw [hM155]
         exact ⟨rfl, (Ex.trans (Ex.trans hf17 hE76) hE135)⟩
      ·refine CW.cond_t rfl (not_f hb81) (CW.seq (CW.region (sd rfl (yl_assign rfl rfl (SeqR.done (tn (CW.ret (tr (br ?_)))))))))
       refine tr (tr ?_)
       have hB159 : B_l_heldFeedItemS_0 p_a p_k k2 (x3) = .ret (-1) := by simp only [B_l_heldFeedItemS_0, hb22, hb23, hb81, cond_true, cond_false, loopE_done, loopE_ret]
       have hL158 : loopM (B_l_heldFeedItemS_0 p_a p_k) (p_a.length - 0) 0 (p_k) = .ret (-1) := hI11.symm.trans (loopM.ret hlt20 hB159)
       refine br (tr (rr rfl (.cons rfl .nil) ?_))
       have hM160 : (l_heldFeedItemS p_a p_k) = (-1) := by simp only [l_heldFeedItemS, hb22, hb23, hb81, hL158, cond_true, cond_false, loopE_done, loopE_ret]
       rw [hM160]
       exact ⟨rfl, (Ex.trans hf17 hE76)⟩
    ·have hb23p := dec_f hb23
     refine CW.cond_t rfl (not_f hb23) (CW.seq (CW.region (sd rfl (yl_assign rfl rfl (SeqR.done (tn (CW.ret (tr (br ?_)))))))))
     refine tr (tr ?_)
     have hB163 : B_l_heldFeedItemS_0 p_a p_k k2 (x3) = .ret (-1) := by simp only [B_l_heldFeedItemS_0, hb22, hb23, cond_true, cond_false, loopE_done, loopE_ret]
     have hL162 : loopM (B_l_heldFeedItemS_0 p_a p_k) (p_a.length - 0) 0 (p_k) = .ret (-1) := hI11.symm.trans (loopM.ret hlt20 hB163)
     refine br (tr (rr rfl (.cons rfl .nil) ?_))
     have hM164 : (l_heldFeedItemS p_a p_k) = (-1) := by simp only [l_heldFeedItemS, hb22, hb23, hL162, cond_true, cond_false, loopE_done, loopE_ret]
     rw [hM164]
     exact ⟨rfl, hf17⟩
   ·have hb22p := dec_f hb22
    refine CW.cond_t rfl (not_f hb22) (CW.seq (CW.region (sd rfl (yl_assign rfl rfl (SeqR.done (tn (CW.ret (tr (br ?_)))))))))
    refine tr (tr ?_)
    have hB166 : B_l_heldFeedItemS_0 p_a p_k k2 (x3) = .ret (-1) := by simp only [B_l_heldFeedItemS_0, hb22, cond_true, cond_false, loopE_done, loopE_ret]
    have hL165 : loopM (B_l_heldFeedItemS_0 p_a p_k) (p_a.length - 0) 0 (p_k) = .ret (-1) := hI11.symm.trans (loopM.ret hlt20 hB166)
    refine br (tr (rr rfl (.cons rfl .nil) ?_))
    have hM167 : (l_heldFeedItemS p_a p_k) = (-1) := by simp only [l_heldFeedItemS, hb22, hL165, cond_true, cond_false, loopE_done, loopE_ret]
    rw [hM167]
    exact ⟨rfl, hf17⟩
  ·refine CW.seq (CW.seq (CW.region (sd rfl (yl_move rfl rfl (sd rfl (yl_move rfl rfl (sd rfl (yl_len Try.un83 rfl rfl (sd rfl (yl_lss rfl rfl rfl (SeqR.done (tn ?_))))))))))))
   refine CW.cond_f rfl (lt_f hlt20) (CW.exit (tx (tx ?_)))
   have hL168 : loopM (B_l_heldFeedItemS_0 p_a p_k) (p_a.length - 0) 0 (p_k) = .done (x3) := hI11.symm.trans (loopM.stop hlt20)
   refine bx (tn (CW.seq (CW.region (sd rfl (yl_move rfl rfl (sd rfl (yl_assign rfl rfl (SeqR.done (tn (CW.ret ?_))))))))))
   refine rr rfl (.cons rfl .nil) ?_
   have hM169 : (l_heldFeedItemS p_a p_k) = (x3) := by simp only [l_heldFeedItemS, hL168, cond_true, cond_false, loopE_done, loopE_ret]
   rw [hM169]
   exact ⟨rfl, hf17⟩
set_option maxRecDepth 100000 in
set_option maxHeartbeats 2000000 in
theorem c_l_heldDiff {A1 : Option Addr} {c1 : Nat} {w : World} (p_a : DDiff) (p_k : Int) (h1 : RdS w (Iv 0 w.heap.size) (RF e_FeedItem) 5 A1 p_a.List.length c1 p_a.List) (pre0 : p_k ≤ 9223372036854775807) : Cal Try.prog 50 #[.agg #[.int .i64 (p_a.From), .int .i64 (p_a.To), .slice A1 p_a.List.length c1], .int .i64 (p_k)] w fun v w' => v = .int .i64 ((l_heldDiff p_a p_k)) ∧ Ex w w' := by
 refine Cal.of (vs := [.agg #[.int .i64 (p_a.From), .int .i64 (p_a.To), .slice A1 p_a.List.length c1], .int .i64 (p_k)]) Try.func50 rfl Try.ntmps50 rfl (CW.seq (CW.region (sd rfl (yl_box (cs := [.int .i64 (p_a.From), .int .i64 (p_a.To), .slice A1 p_a.List.length c1]) rfl rfl rfl ?_))))
 intro b2 w3 hs4 hz5 hB6 hE7
 refine sd rfl (yl_assign rfl rfl (SeqR.done (tn (CW.seq (CW.region (sd rfl (yl_fieldAddr Try.fd85_2 rfl rfl (sd rfl (yl_load1 Try.ty83 rfl rfl ((hB6.cell 2).trans rfl) (sd rfl (yl_move rfl rfl (sd rfl (yl_call Try.en106 rfl (opvs_cons rfl (opvs_cons rfl opvs_nil)) (Cal.mono (c_l_heldFeedItemS p_a.List p_k (RdS.up (RdS.ex good_FeedItem h1 hE7) good_FeedItem) (by first | omega | assumption | (simp only [IntKind.wrap_i64] at *; omega))) ?_))))))))))))))
 rintro v10 w9 ⟨rfl, hE11⟩
 have hE11z := Ex.size hE11
 have hrf12 := rf_heldFeedItemS p_a.List p_k (by first | omega | assumption | (simp only [IntKind.wrap_i64] at *; omega))
 refine sd rfl (yl_assign rfl rfl (SeqR.done (tn (CW.seq (CW.seq (CW.region (sd rfl (yl_move rfl rfl (sd rfl (yl_lss rfl rfl rfl (SeqR.done ?_)))))))))))
 refine tn (bcase (decide ((l_heldFeedItemS p_a.List p_k) < 0)) (fun hb13 => ?_) (fun hb13 => ?_))
 ·have hb13p := dec_t hb13
  refine CW.cond_t rfl hb13 (CW.seq (CW.region (sd rfl (yl_assign rfl rfl (SeqR.done (tn (CW.ret (tr (rr rfl (.cons rfl .nil) ?_)))))))))
  have hM14 : (l_heldDiff p_a p_k) = (-1) := by simp only [l_heldDiff, hb13, cond_true, cond_false, loopE_done, loopE_ret]
  rw [hM14]
  exact ⟨rfl, (Ex.trans (Ex.trans (Ex.refl w) hE7) hE11)⟩
 ·have hb13p := dec_f hb13
  refine CW.cond_f rfl hb13 (CW.skip (tn (CW.seq (CW.region (sd rfl (yl_move rfl rfl (sd rfl (yl_assign rfl rfl (SeqR.done (tn ?_))))))))))
  refine CW.ret (rr rfl (.cons rfl .nil) ?_)
  have hM17 : (l_heldDiff p_a p_k) = ((l_heldFeedItemS p_a.List p_k)) := by simp only [l_heldDiff, hb13, cond_true, cond_false, loopE_done, loopE_ret]
  rw [hM17]
  exact ⟨rfl, (Ex.trans (Ex.trans (Ex.refl w) hE7) hE11)⟩
set_option maxRecDepth 100000 in
set_option maxHeartbeats 2000000 in
theorem c_l_FnExactJoinDiffs {A1 : Option Addr} {c1 : Nat} {A2 : Option Addr} {c2 : Nat} {w : World} (p_0 : DDiff) (p_1 : DDiff) (h1 : RdS w (Iv 0 w.heap.size) (RF e_FeedItem) 5 A1 p_0.List.length c1 p_0.List) (h2 : RdS w (Iv 0 w.heap.size) (RF e_FeedItem) 5 A2 p_1.List.length c2 p_1.List) (pre0 : wf_Diff p_0) (pre1 : wf_Diff p_1) : Cal Try.prog 7 #[.agg #[.int .i64 (p_0.From), .int .i64 (p_0.To), .slice A1 p_0.List.length c1], .agg #[.int .i64 (p_1.From), .int .i64 (p_1.To), .slice A2 p_1.List.length c2]] w fun v w' => v = .bool ((l_FnExactJoinDiffs p_0 p_1)) ∧ Ex w w' := by
 refine Cal.of (vs := [.agg #[.int .i64 (p_0.From), .int .i64 (p_0.To), .slice A1 p_0.List.length c1], .agg #[.int .i64 (p_1.From), .int .i64 (p_1.To), .slice A2 p_1.List.length c2]]) Try.func7 rfl Try.ntmps7 rfl (CW.seq (CW.region (sd rfl (yl_box (cs := [.int .i64 (p_0.From), .int .i64 (p_0.To), .slice A1 p_0.List.length c1]) rfl rfl rfl ?_))))
 intro b3 w4 hs5 hz6 hB7 hE8
 refine sd rfl (yl_box (cs := [.int .i64 (p_1.From), .int .i64 (p_1.To), .slice A2 p_1.List.length c2]) rfl rfl rfl ?_)
 intro b9 w10 hs11 hz12 hB13 hE14
 refine sd rfl (yl_assign rfl rfl (SeqR.done (tn (CW.seq (CW.region (sd rfl (yl_assign rfl rfl (SeqR.done (tn (CW.seq ?_))))))))))
 refine CW.region ?_
 have q15 := Box.ex hB7 hE14
 refine sd rfl (yl_loadN (cs := [.int .i64 (p_0.From), .int .i64 (p_0.To), .slice A1 p_0.List.length c1]) Try.ty81 rfl rfl (q15.cells (n := 3) rfl) rfl (sd rfl (yl_move rfl rfl ?_)))
 have q17 := RdS.ex good_FeedItem (RdS.ex good_FeedItem h1 hE8) hE14
 refine sd rfl (yl_call Try.en44 rfl (opvs_cons rfl (opvs_cons rfl opvs_nil)) (Cal.mono (c_l_szDiff p_0 1048576 (RdS.up q17 good_FeedItem)) ?_))
 rintro v19 w18 ⟨rfl, hE20⟩
 have hE20z := Ex.size hE20
 refine sd rfl (yl_assign rfl rfl (SeqR.done (tn (CW.seq (CW.seq (CW.region (sd rfl (yl_move rfl rfl (sd rfl (yl_lss rfl rfl rfl (SeqR.done ?_)))))))))))
 refine tn (bcase (decide ((l_szDiff p_0 1048576) < 0)) (fun hb21 => ?_) (fun hb21 => ?_))
 ·have hb21p := dec_t hb21
  refine CW.cond_t rfl hb21 (CW.seq (CW.region (sd rfl (yl_assign rfl rfl (SeqR.done (tn (CW.ret (tr (rr rfl (.cons rfl .nil) ?_)))))))))
  have hM22 : (l_FnExactJoinDiffs p_0 p_1) = (true) := by simp only [l_FnExactJoinDiffs, hb21, cond_true, cond_false, loopE_done, loopE_ret]
  rw [hM22]
  exact ⟨rfl, (Ex.trans (Ex.trans (Ex.trans (Ex.refl w) hE8) hE14) hE20)⟩
 ·have hb21p := dec_f hb21
  refine CW.cond_f rfl hb21 (CW.skip (tn (CW.seq (CW.region ?_))))
  have q26 := Box.ex hB13 hE20
  refine sd rfl (yl_loadN (cs := [.int .i64 (p_1.From), .int .i64 (p_1.To), .slice A2 p_1.List.length c2]) Try.ty81 rfl rfl (q26.cells (n := 3) rfl) rfl (sd rfl (yl_move rfl rfl ?_)))
  have q29 := RdS.ex good_FeedItem (RdS.ex good_FeedItem (RdS.ex good_FeedItem h2 hE8) hE14) hE20
  refine sd rfl (yl_call Try.en44 rfl (opvs_cons rfl (opvs_cons rfl opvs_nil)) (Cal.mono (c_l_szDiff p_1 (l_szDiff p_0 1048576) (RdS.up q29 good_FeedItem)) ?_))
  rintro v31 w30 ⟨rfl, hE32⟩
  have hE32z := Ex.size hE32
  refine sd rfl (yl_assign rfl rfl (SeqR.done (tn (CW.seq (CW.seq (CW.region (sd rfl (yl_move rfl rfl (sd rfl (yl_lss rfl rfl rfl (SeqR.done ?_)))))))))))
  refine tn (bcase (decide ((l_szDiff p_1 (l_szDiff p_0 1048576)) < 0)) (fun hb33 => ?_) (fun hb33 => ?_))
  ·have hb33p := dec_t hb33
   refine CW.cond_t rfl hb33 (CW.seq (CW.region (sd rfl (yl_assign rfl rfl (SeqR.done (tn (CW.ret (tr (rr rfl (.cons rfl .nil) ?_)))))))))
   have hM34 : (l_FnExactJoinDiffs p_0 p_1) = (true) := by simp only [l_FnExactJoinDiffs, hb21, hb33, cond_true, cond_false, loopE_done, loopE_ret]
   rw [hM34]
   exact ⟨rfl, (Ex.trans (Ex.trans (Ex.trans (Ex.trans (Ex.refl w) hE8) hE14) hE20) hE32)⟩
  ·have hb33p := dec_f hb33
   refine CW.cond_f rfl hb33 (CW.skip (tn (CW.seq ?_)))
   have q40 := Box.ex (Box.ex q15 hE20) hE32
   have q42 := RdS.ex good_FeedItem (RdS.ex good_FeedItem q17 hE20) hE32
   have q45 := Box.ex q26 hE32
   have q46 := RdS.ex good_FeedItem q29 hE32
   refine CW.drawsG 11 (fun _ _ => False) (fun i G b => (i = 9 ∧ (G.fl 8) ≤ b ∧ b < (G.fh 8))) (vgetG [DetG (.agg #[.int .i64 (p_0.From), .int .i64 (p_0.To), .slice A1 p_0.List.length c1]), fun G v wq => ∃ A44 c44 lo44 hi44, v = .agg #[.int .i64 (p_0.From), .int .i64 (p_0.To), .slice A44 p_0.List.length c44] ∧ OwnL wq lo44 hi44 140 5 (RF e_FeedItem) A44 p_0.List.length c44 p_0.List ∧ ((G.fl 1) ≤ lo44 ∧ lo44 ≤ hi44 ∧ hi44 ≤ (G.fh 1)), DetG (.agg #[.int .i64 (p_1.From), .int .i64 (p_1.To), .slice A2 p_1.List.length c2]), fun G v wq => ∃ A48 c48 lo48 hi48, v = .agg #[.int .i64 (p_1.From), .int .i64 (p_1.To), .slice A48 p_1.List.length c48] ∧ OwnL wq lo48 hi48 140 5 (RF e_FeedItem) A48 p_1.List.length c48 p_1.List ∧ ((G.fl 3) ≤ lo48 ∧ lo48 ≤ hi48 ∧ hi48 ≤ (G.fh 3)), fun G v wq => ∃ A50 c50 lo50 hi50, v = .tuple #[.agg #[.int .i64 ((s_JoinDiffs p_0 p_1).1.From), .int .i64 ((s_JoinDiffs p_0 p_1).1.To), .slice A50 (((s_JoinDiffs p_0 p_1).1.List).length) c50], .bool ((s_JoinDiffs p_0 p_1).2)] ∧ OwnL wq lo50 hi50 140 5 (RF e_FeedItem) A50 (((s_JoinDiffs p_0 p_1).1.List).length) c50 ((s_JoinDiffs p_0 p_1).1.List) ∧ ok_Diff ((s_JoinDiffs p_0 p_1).1) ∧ ((G.fl 4) ≤ lo50 ∧ lo50 ≤ hi50 ∧ hi50 ≤ (G.fh 4)), fun G v wq => ∃ A50 c50 lo50 hi50, v = .tuple #[.agg #[.int .i64 ((s_JoinDiffs p_0 p_1).1.From), .int .i64 ((s_JoinDiffs p_0 p_1).1.To), .slice A50 (((s_JoinDiffs p_0 p_1).1.List).length) c50], .bool ((s_JoinDiffs p_0 p_1).2)] ∧ OwnL wq lo50 hi50 140 5 (RF e_FeedItem) A50 (((s_JoinDiffs p_0 p_1).1.List).length) c50 ((s_JoinDiffs p_0 p_1).1.List) ∧ ((G.fl 4) ≤ lo50 ∧ lo50 ≤ hi50 ∧ hi50 ≤ (G.fh 4)), fun G v wq => ∃ A50 c50 lo50 hi50, v = .agg #[.int .i64 ((s_JoinDiffs p_0 p_1).1.From), .int .i64 ((s_JoinDiffs p_0 p_1).1.To), .slice A50 (((s_JoinDiffs p_0 p_1).1.List).length) c50] ∧ OwnL wq lo50 hi50 140 5 (RF e_FeedItem) A50 (((s_JoinDiffs p_0 p_1).1.List).length) c50 ((s_JoinDiffs p_0 p_1).1.List) ∧ ((G.fl 4) ≤ lo50 ∧ lo50 ≤ hi50 ∧ hi50 ≤ (G.fh 4)), DetG (.bool ((s_JoinDiffs p_0 p_1).2)), fun G v wq => v = .pointer (some ⟨(G.fl 8), 0, none⟩) ∧ (G.dn 9 = false → Box wq (G.fl 8) 85 [.int .i64 (0), .int .i64 (0), .slice none 0 0]) ∧ (G.fl 8) < (G.fh 8), fun G v wq => ∃ A50 c50 lo50 hi50, Box wq (G.fl 8) 85 [.int .i64 ((s_JoinDiffs p_0 p_1).1.From), .int .i64 ((s_JoinDiffs p_0 p_1).1.To), .slice A50 (((s_JoinDiffs p_0 p_1).1.List).length) c50] ∧ OwnL wq lo50 hi50 140 5 (RF e_FeedItem) A50 (((s_JoinDiffs p_0 p_1).1.List).length) c50 ((s_JoinDiffs p_0 p_1).1.List) ∧ ((G.fl 4) ≤ lo50 ∧ lo50 ≤ hi50 ∧ hi50 ≤ (G.fh 4)), DetG (.bool ((s_JoinDiffs p_0 p_1).2))]) Try.follows rfl rfl rfl rfl rfl rfl (fun _ _ _ _ _ h => h) (fun i G w lo hi b K hn hh hp => by exact (match hp with | ⟨e, q1, q2⟩ => by subst e; exact .inr (by have := K.rng 8 (hh 8 rfl); omega))) (vgetG_kept ⟨(KeptG.det _), (by rintro i G v w w' K hn hh hj ⟨A44, c44, lo44, hi44, hv, h0, hr0⟩ e; have d1 : G.dn 1 = true := hj; have u1 := Gh.ufl (lo := w.heap.size) (hi := w'.heap.size) d1 hn; have t1 := Gh.ufh (lo := w.heap.size) (hi := w'.heap.size) d1 hn; exact ⟨A44, c44, lo44, hi44, hv, (by exact OwnL.chg good_FeedItem h0 e (fun b hb hp => by obtain ⟨rfl, q1, q2⟩ := hp; have := K.rng 1 d1; have := K.rng 8 (hh 8 rfl); have := K.sep 8 1 (hh 8 rfl) d1 rfl; skip; omega)), (by simp only [u1, t1]; exact hr0)⟩), (KeptG.det _), (by rintro i G v w w' K hn hh hj ⟨A48, c48, lo48, hi48, hv, h0, hr0⟩ e; have d3 : G.dn 3 = true := hj; have u3 := Gh.ufl (lo := w.heap.size) (hi := w'.heap.size) d3 hn; have t3 := Gh.ufh (lo := w.heap.size) (hi := w'.heap.size) d3 hn; exact ⟨A48, c48, lo48, hi48, hv, (by exact OwnL.chg good_FeedItem h0 e (fun b hb hp => by obtain ⟨rfl, q1, q2⟩ := hp; have := K.rng 3 d3; have := K.rng 8 (hh 8 rfl); have := K.sep 8 3 (hh 8 rfl) d3 rfl; skip; omega)), (by simp only [u3, t3]; exact hr0)⟩), (by rintro i G v w w' K hn hh hj ⟨A50, c50, lo50, hi50, hv, h0, h1, hr0⟩ e; have d4 : G.dn 4 = true := hj; have u4 := Gh.ufl (lo := w.heap.size) (hi := w'.heap.size) d4 hn; have t4 := Gh.ufh (lo := w.heap.size) (hi := w'.heap.size) d4 hn; exact ⟨A50, c50, lo50, hi50, hv, (by exact OwnL.chg good_FeedItem h0 e (fun b hb hp => by obtain ⟨rfl, q1, q2⟩ := hp; have := K.rng 4 d4; have := K.rng 8 (hh 8 rfl); have := K.sep 8 4 (hh 8 rfl) d4 rfl; skip; omega)), h1, (by simp only [u4, t4]; exact hr0)⟩), (by rintro i G v w w' K hn hh hj ⟨A50, c50, lo50, hi50, hv, h0, hr0⟩ e; have d4 : G.dn 4 = true := K.cl 5 4 hj rfl; have u4 := Gh.ufl (lo := w.heap.size) (hi := w'.heap.size) d4 hn; have t4 := Gh.ufh (lo := w.heap.size) (hi := w'.heap.size) d4 hn; exact ⟨A50, c50, lo50, hi50, hv, (by exact OwnL.chg good_FeedItem h0 e (fun b hb hp => by obtain ⟨rfl, q1, q2⟩ := hp; have := K.rng 4 d4; have := K.rng 8 (hh 8 rfl); have := K.sep 8 4 (hh 8 rfl) d4 rfl; skip; omega)), (by simp only [u4, t4]; exact hr0)⟩), (by rintro i G v w w' K hn hh hj ⟨A50, c50, lo50, hi50, hv, h0, hr0⟩ e; have d4 : G.dn 4 = true := K.cl 6 4 hj rfl; have u4 := Gh.ufl (lo := w.heap.size) (hi := w'.heap.size) d4 hn; have t4 := Gh.ufh (lo := w.heap.size) (hi := w'.heap.size) d4 hn; exact ⟨A50, c50, lo50, hi50, hv, (by exact OwnL.chg good_FeedItem h0 e (fun b hb hp => by obtain ⟨rfl, q1, q2⟩ := hp; have := K.rng 4 d4; have := K.rng 8 (hh 8 rfl); have := K.sep 8 4 (hh 8 rfl) d4 rfl; skip; omega)), (by simp only [u4, t4]; exact hr0)⟩), (KeptG.det _), (by rintro i G v w w' K hn hh hj ⟨hv, h0, he0⟩ e; have d8 : G.dn 8 = true := hj; have u8 := Gh.ufl (lo := w.heap.size) (hi := w'.heap.size) d8 hn; have t8 := Gh.ufh (lo := w.heap.size) (hi := w'.heap.size) d8 hn; exact ⟨(by simp only [u8, t8]; exact hv), (by intro hd; simp only [u8, t8]; exact Box.chg (h0 (Gh.off hd).2) e (fun hp => by obtain ⟨rfl, q1, q2⟩ := hp; exact absurd rfl (Gh.off hd).1)), (by simp only [u8, t8]; exact he0)⟩), (by rintro i G v w w' K hn hh hj ⟨A50, c50, lo50, hi50, h0, h1, hr0⟩ e; have d4 : G.dn 4 = true := K.cl 9 4 hj rfl; have u4 := Gh.ufl (lo := w.heap.size) (hi := w'.heap.size) d4 hn; have t4 := Gh.ufh (lo := w.heap.size) (hi := w'.heap.size) d4 hn; have d8 : G.dn 8 = true := K.cl 9 8 hj rfl; have u8 := Gh.ufl (lo := w.heap.size) (hi := w'.heap.size) d8 hn; have t8 := Gh.ufh (lo := w.heap.size) (hi := w'.heap.size) d8 hn; exact ⟨A50, c50, lo50, hi50, (by simp only [u4, t4, u8, t8]; exact Box.chg h0 e (fun hp => by obtain ⟨rfl, q1, q2⟩ := hp; rw [hj] at hn; cases hn)), (by exact OwnL.chg good_FeedItem h1 e (fun b hb hp => by obtain ⟨rfl, q1, q2⟩ := hp; rw [hj] at hn; cases hn)), (by simp only [u4, t4, u8, t8]; exact hr0)⟩), (KeptG.det _), trivial⟩) ⟨?_, ?_, ?_, ?_, ?_, ?_, ?_, ?_, ?_, ?_, ?_, trivial⟩ ?_
   ·intro L58 w59 G57 hgk60
    have hE61 := hgk60.st.ex.ex (fun b h => h.elim (fun h => h.elim) (fun h => h))
    have hE61z := Ex.size hE61
    exact OpR.op' rfl (Yl.sameG (yl_loadN (cs := [.int .i64 (p_0.From), .int .i64 (p_0.To), .slice A1 p_0.List.length c1]) Try.ty81 rfl (hgk60.old 2 _ rfl rfl) ((Box.ex q40 hE61).cells (n := 3) rfl) rfl kI))
   ·intro L65 w66 G64 hgk67
    have hE68 := hgk67.st.ex.ex (fun b h => h.elim (fun h => h.elim) (fun h => h))
    have hE68z := Ex.size hE68
    obtain ⟨_, hx69, rfl⟩ := hgk67.val 0 28 rfl rfl
    refine OpR.op' rfl (yl_call Try.en46 rfl (opvs_cons hx69 opvs_nil) (Cal.mono (c_l_toDiff p_0 (RdS.up (RdS.ex good_FeedItem q42 hE68) good_FeedItem) ((szok_Diff pre0 (by decide) (dec_f hb21)).1)) ?_))
    rintro v73 w71 ⟨A72, c72, lo72, hi72, rfl, h72, hrn75, hE74⟩
    exact ⟨Chg.of_ex hE74, A72, c72, lo72, hi72, rfl, h72, hrn75⟩
   ·intro L77 w78 G76 hgk79
    have hE80 := hgk79.st.ex.ex (fun b h => h.elim (fun h => h.elim) (fun h => h))
    have hE80z := Ex.size hE80
    exact OpR.op' rfl (Yl.sameG (yl_loadN (cs := [.int .i64 (p_1.From), .int .i64 (p_1.To), .slice A2 p_1.List.length c2]) Try.ty81 rfl (hgk79.old 3 _ rfl rfl) ((Box.ex q45 hE80).cells (n := 3) rfl) rfl kI))
   ·intro L84 w85 G83 hgk86
    have hE87 := hgk86.st.ex.ex (fun b h => h.elim (fun h => h.elim) (fun h => h))
    have hE87z := Ex.size hE87
    obtain ⟨_, hx88, rfl⟩ := hgk86.val 2 30 rfl rfl
    refine OpR.op' rfl (yl_call Try.en46 rfl (opvs_cons hx88 opvs_nil) (Cal.mono (c_l_toDiff p_1 (RdS.up (RdS.ex good_FeedItem q46 hE87) good_FeedItem) ((szok_Diff pre1 (szok_Diff pre0 (by decide) (dec_f hb21)).2 (dec_f hb33)).1)) ?_))
    rintro v92 w90 ⟨A91, c91, lo91, hi91, rfl, h91, hrn94, hE93⟩
    exact ⟨Chg.of_ex hE93, A91, c91, lo91, hi91, rfl, h91, hrn94⟩
   ·intro L96 w97 G95 hgk98
    have hE99 := hgk98.st.ex.ex (fun b h => h.elim (fun h => h.elim) (fun h => h))
    have hE99z := Ex.size hE99
    obtain ⟨_, hx100, A44_101, c44_102, lo44_103, hi44_104, rfl, h105, hrn106⟩ := hgk98.val 1 29 rfl rfl
    obtain ⟨_, hx107, A48_108, c48_109, lo48_110, hi48_111, rfl, h112, hrn113⟩ := hgk98.val 3 31 rfl rfl
    have hr114 := hgk98.st.rng 1 (hgk98.has 1 rfl)
    have hr115 := hgk98.st.rng 3 (hgk98.has 3 rfl)
    have hsp116 := hgk98.st.ord 3 1 (hgk98.has 3 rfl) rfl
    refine OpR.op' rfl (yl_call Try.en45 rfl (opvs_cons hx100 (opvs_cons hx107 opvs_nil)) (Cal.mono (c_s_JoinDiffs p_0 p_1 (RdS.up (OwnL.rd good_FeedItem h105) good_FeedItem) (RdS.up (OwnL.rd good_FeedItem h112) good_FeedItem) ((szok_Diff pre0 (by decide) (dec_f hb21)).1) ((szok_Diff pre1 (szok_Diff pre0 (by decide) (dec_f hb21)).2 (dec_f hb33)).1)) ?_))
    rintro v122 w119 ⟨A120, c120, lo120, hi120, rfl, h120, ho121, hrn124, hE123⟩
    exact ⟨Chg.of_ex hE123, A120, c120, lo120, hi120, rfl, h120, ho121, hrn124⟩
   ·intro L126 w127 G125 hgk128
    have hE129 := hgk128.st.ex.ex (fun b h => h.elim (fun h => h.elim) (fun h => h))
    have hE129z := Ex.size hE129
    obtain ⟨_, hx130, A50_131, c50_132, lo50_133, hi50_134, rfl, h135, h136, hrn137⟩ := hgk128.val 4 32 rfl rfl
    have hr138 := hgk128.st.rng 4 (hgk128.has 4 rfl)
    exact OpR.op' rfl (Yl.sameG (yl_move rfl hx130 ⟨fun _ _ => ⟨A50_131, c50_132, lo50_133, hi50_134, rfl, h135, (show ((G125.fl 4) ≤ lo50_133 ∧ lo50_133 ≤ hi50_134 ∧ hi50_134 ≤ (G125.fh 4)) by omega)⟩, rfl⟩))
   ·intro L140 w141 G139 hgk142
    have hE143 := hgk142.st.ex.ex (fun b h => h.elim (fun h => h.elim) (fun h => h))
    have hE143z := Ex.size hE143
    obtain ⟨_, hx144, A50_145, c50_146, lo50_147, hi50_148, rfl, h149, hrn150⟩ := hgk142.val 5 27 rfl rfl
    have hr151 := hgk142.st.rng 4 (hgk142.has 4 rfl)
    have hr152 := hgk142.st.rng 5 (hgk142.has 5 rfl)
    have hsp153 := hgk142.st.ord 5 4 (hgk142.has 5 rfl) rfl
    exact OpR.op' rfl (Yl.sameG (yl_extract rfl hx144 rfl ⟨fun _ _ => ⟨A50_145, c50_146, lo50_147, hi50_148, rfl, h149, (show ((G139.fl 4) ≤ lo50_147 ∧ lo50_147 ≤ hi50_148 ∧ hi50_148 ≤ (G139.fh 4)) by omega)⟩, rfl⟩))
   ·intro L155 w156 G154 hgk157
    have hE158 := hgk157.st.ex.ex (fun b h => h.elim (fun h => h.elim) (fun h => h))
    have hE158z := Ex.size hE158
    obtain ⟨_, hx159, A50_160, c50_161, lo50_162, hi50_163, rfl, h164, hrn165⟩ := hgk157.val 5 27 rfl rfl
    have hr166 := hgk157.st.rng 4 (hgk157.has 4 rfl)
    have hr167 := hgk157.st.rng 5 (hgk157.has 5 rfl)
    have hsp168 := hgk157.st.ord 5 4 (hgk157.has 5 rfl) rfl
    exact OpR.op' rfl (Yl.sameG (yl_extract rfl hx159 rfl kI))
   ·intro L170 w171 G169 hgk172
    have hE173 := hgk172.st.ex.ex (fun b h => h.elim (fun h => h.elim) (fun h => h))
    have hE173z := Ex.size hE173
    refine OpR.op' rfl (yl_alloc Try.ty85 (cs := [.int .i64 (0), .int .i64 (0), .slice none 0 0]) rfl rfl ?_)
    intro b174 w175 hs176 hz177 hB178 hE179
    subst hs176
    exact ⟨Chg.of_ex hE179, rfl, fun _ => hB178, by rw [Gh.sfl, Gh.sfh]; omega⟩
   ·intro L181 w182 G180 hgk183
    have hE184 := hgk183.st.ex.ex (fun b h => h.elim (fun h => h.elim) (fun h => h))
    have hE184z := Ex.size hE184
    obtain ⟨_, hx185, rfl, h186, he187⟩ := hgk183.val 8 6 rfl rfl
    have h186 := h186 hgk183.new
    obtain ⟨_, hx188, A50_189, c50_190, lo50_191, hi50_192, rfl, h193, hrn194⟩ := hgk183.val 6 33 rfl rfl
    have hr195 := hgk183.st.rng 4 (hgk183.has 4 rfl)
    have hr196 := hgk183.st.rng 6 (hgk183.has 6 rfl)
    have hr197 := hgk183.st.rng 8 (hgk183.has 8 rfl)
    have hsp198 := hgk183.st.ord 6 4 (hgk183.has 6 rfl) rfl
    have hsp199 := hgk183.st.sep 4 8 (hgk183.has 4 rfl) (hgk183.has 8 rfl) rfl
    have hsp200 := hgk183.st.sep 6 8 (hgk183.has 6 rfl) (hgk183.has 8 rfl) rfl
    refine OpR.op' rfl (yl_store (vs := [.int .i64 ((s_JoinDiffs p_0 p_1).1.From), .int .i64 ((s_JoinDiffs p_0 p_1).1.To), .slice A50_189 (((s_JoinDiffs p_0 p_1).1.List).length) c50_190]) Try.ty85 rfl hx185 hx188 rfl rfl rfl h186 (Nat.le_of_ble_eq_true rfl) ?_)
    intro w201 hB202 hO203
    have hO203z := hO203.size
    exact ⟨Chg.of_only hO203 (⟨rfl, Nat.le_refl _, by omega⟩), A50_189, c50_190, lo50_191, hi50_192, hB202, (OwnL.only good_FeedItem h193 hO203 (by omega)), (show ((G180.fl 4) ≤ lo50_191 ∧ lo50_191 ≤ hi50_192 ∧ hi50_192 ≤ (G180.fh 4)) by omega)⟩
   ·intro L206 w207 G205 hgk208
    have hE209 := hgk208.st.ex.ex (fun b h => h.elim (fun h => h.elim) (fun h => h))
    have hE209z := Ex.size hE209
    obtain ⟨_, hx210, rfl⟩ := hgk208.val 7 34 rfl rfl
    exact OpR.op' rfl (Yl.sameG (yl_assign rfl hx210 kI))
   ·intro G211 L212 w213 hgp214
    have hE215 := hgp214.st.ex.ex (fun b h => h.elim (fun h => h.elim) (fun h => h))
    have hE215z := Ex.size hE215
    obtain ⟨_, hx218, A44_219, c44_220, lo44_221, hi44_222, rfl, h223, hrn224⟩ := hgp214.val 1 29 rfl rfl
    obtain ⟨_, hx225, A48_226, c48_227, lo48_228, hi48_229, rfl, h230, hrn231⟩ := hgp214.val 3 31 rfl rfl
    obtain ⟨_, hx232, A50_233, c50_234, lo50_235, hi50_236, rfl, h237, h238, hrn239⟩ := hgp214.val 4 32 rfl rfl
    obtain ⟨_, hx240, A50_241, c50_242, lo50_243, hi50_244, rfl, h245, hrn246⟩ := hgp214.val 5 27 rfl rfl
    obtain ⟨_, hx247, A50_248, c50_249, lo50_250, hi50_251, rfl, h252, hrn253⟩ := hgp214.val 6 33 rfl rfl
    obtain ⟨_, hx254, rfl, -, he255⟩ := hgp214.val 8 6 rfl rfl
    obtain ⟨_, A50_256, c50_257, lo50_258, hi50_259, h260, h261, hrn262⟩ := hgp214.fact 9 rfl
    obtain ⟨_, hx263, rfl⟩ := hgp214.val 10 7 rfl rfl
    have hr264 := hgp214.st.rng 1 (hgp214.has 1 rfl)
    have hr265 := hgp214.st.rng 3 (hgp214.has 3 rfl)
    have hr266 := hgp214.st.rng 4 (hgp214.has 4 rfl)
    have hr267 := hgp214.st.rng 5 (hgp214.has 5 rfl)
    have hr268 := hgp214.st.rng 6 (hgp214.has 6 rfl)
    have hr269 := hgp214.st.rng 8 (hgp214.has 8 rfl)
    have hr270 := hgp214.st.rng 9 (hgp214.has 9 rfl)
    have hsp271 := hgp214.st.ord 3 1 (hgp214.has 3 rfl) rfl
    have hsp272 := hgp214.st.ord 4 1 (hgp214.has 4 rfl) rfl
    have hsp273 := hgp214.st.ord 5 1 (hgp214.has 5 rfl) rfl
    have hsp274 := hgp214.st.ord 6 1 (hgp214.has 6 rfl) rfl
    have hsp275 := hgp214.st.sep 1 8 (hgp214.has 1 rfl) (hgp214.has 8 rfl) rfl
    have hsp276 := hgp214.st.ord 9 1 (hgp214.has 9 rfl) rfl
    have hsp277 := hgp214.st.ord 4 3 (hgp214.has 4 rfl) rfl
    have hsp278 := hgp214.st.ord 5 3 (hgp214.has 5 rfl) rfl
    have hsp279 := hgp214.st.ord 6 3 (hgp214.has 6 rfl) rfl
    have hsp280 := hgp214.st.sep 3 8 (hgp214.has 3 rfl) (hgp214.has 8 rfl) rfl
    have hsp281 := hgp214.st.ord 9 3 (hgp214.has 9 rfl) rfl
    have hsp282 := hgp214.st.ord 5 4 (hgp214.has 5 rfl) rfl
    have hsp283 := hgp214.st.ord 6 4 (hgp214.has 6 rfl) rfl
    have hsp284 := hgp214.st.sep 4 8 (hgp214.has 4 rfl) (hgp214.has 8 rfl) rfl
    have hsp285 := hgp214.st.ord 9 4 (hgp214.has 9 rfl) rfl
    have hsp286 := hgp214.st.ord 6 5 (hgp214.has 6 rfl) rfl
    have hsp287 := hgp214.st.sep 5 8 (hgp214.has 5 rfl) (hgp214.has 8 rfl) rfl
    have hsp288 := hgp214.st.ord 9 5 (hgp214.has 9 rfl) rfl
    have hsp289 := hgp214.st.sep 6 8 (hgp214.has 6 rfl) (hgp214.has 8 rfl) rfl
    have hsp290 := hgp214.st.ord 9 6 (hgp214.has 9 rfl) rfl
    have hsp291 := hgp214.st.ord 9 8 (hgp214.has 9 rfl) rfl
    refine SeqR.done (tn (CW.sub (Sub.cons (d := 2) (hgp214.old 2 _ rfl rfl) (Sub.cons (d := 3) (hgp214.old 3 _ rfl rfl) (Sub.cons (d := 6) hx254 (Sub.cons (d := 7) hx263 (Sub.nil _))))) (CW.seq (CW.region ?_))))
    have q292 := Box.ex q40 hE215
    refine sd rfl (yl_loadN (cs := [.int .i64 (p_0.From), .int .i64 (p_0.To), .slice A1 p_0.List.length c1]) Try.ty81 rfl rfl (q292.cells (n := 3) rfl) rfl ?_)
    have q293 := RdS.ex good_FeedItem q42 hE215
    refine sd rfl (yl_call Try.en46 rfl (opvs_cons rfl opvs_nil) (Cal.mono (c_l_toDiff p_0 (RdS.up q293 good_FeedItem) ((szok_Diff pre0 (by decide) (dec_f hb21)).1)) ?_))
    rintro v296 w294 ⟨A295, c295, lo295, hi295, rfl, h295, hrn298, hE297⟩
    have hE297z := Ex.size hE297
    refine sd rfl (yl_alloc Try.ty85 (cs := [.int .i64 (0), .int .i64 (0), .slice none 0 0]) rfl rfl ?_)
    intro b299 w300 hs301 hz302 hB303 hE304
    refine SeqR.u rfl rfl (yl_store (vs := [.int .i64 (p_0.From), .int .i64 (p_0.To), .slice A295 p_0.List.length c295]) Try.ty85 rfl rfl rfl rfl rfl rfl hB303 (Nat.le_of_ble_eq_true rfl) ?_)
    intro w305 hB306 hO307
    have hB306 : Box w305 b299 85 [.int .i64 (p_0.From), .int .i64 (p_0.To), .slice A295 p_0.List.length c295] := hB306
    have hO307z := hO307.size
    refine SeqR.done (tn (CW.seq (CW.region ?_)))
    have q311 := Box.only (Box.ex (Box.ex (Box.ex q45 hE215) hE297) hE304) hO307 (by omega)
    refine sd rfl (yl_loadN (cs := [.int .i64 (p_1.From), .int .i64 (p_1.To), .slice A2 p_1.List.length c2]) Try.ty81 rfl rfl (q311.cells (n := 3) rfl) rfl ?_)
    have q315 := RdS.only good_FeedItem (RdS.ex good_FeedItem (RdS.ex good_FeedItem (RdS.ex good_FeedItem q46 hE215) hE297) hE304) hO307 (by simp only [Iv]; omega)
    refine sd rfl (yl_call Try.en46 rfl (opvs_cons rfl opvs_nil) (Cal.mono (c_l_toDiff p_1 (RdS.up q315 good_FeedItem) ((szok_Diff pre1 (szok_Diff pre0 (by decide) (dec_f hb21)).2 (dec_f hb33)).1)) ?_))
    rintro v318 w316 ⟨A317, c317, lo317, hi317, rfl, h317, hrn320, hE319⟩
    have hE319z := Ex.size hE319
    refine sd rfl (yl_alloc Try.ty85 (cs := [.int .i64 (0), .int .i64 (0), .slice none 0 0]) rfl rfl ?_)
    intro b321 w322 hs323 hz324 hB325 hE326
    refine SeqR.u rfl rfl (yl_store (vs := [.int .i64 (p_1.From), .int .i64 (p_1.To), .slice A317 p_1.List.length c317]) Try.ty85 rfl rfl rfl rfl rfl rfl hB325 (Nat.le_of_ble_eq_true rfl) ?_)
    intro w327 hB328 hO329
    have hB328 : Box w327 b321 85 [.int .i64 (p_1.From), .int .i64 (p_1.To), .slice A317 p_1.List.length c317] := hB328
    have hO329z := hO329.size
    refine SeqR.done (tn (CW.seq (CW.region ?_)))
    have q332 := Box.only (Box.ex (Box.ex hB306 hE319) hE326) hO329 (by omega)
    refine sd rfl (yl_loadN (cs := [.int .i64 (p_0.From), .int .i64 (p_0.To), .slice A295 p_0.List.length c295]) Try.ty85 rfl rfl (q332.cells (n := 3) rfl) rfl (sd rfl (yl_loadN (cs := [.int .i64 (p_1.From), .int .i64 (p_1.To), .slice A317 p_1.List.length c317]) Try.ty85 rfl rfl (hB328.cells (n := 3) rfl) rfl ?_)))
    have q338 := OwnL.only good_FeedItem (OwnL.ex good_FeedItem (OwnL.ex good_FeedItem (OwnL.only good_FeedItem (OwnL.ex good_FeedItem h295 hE304) hO307 (by omega)) hE319) hE326) hO329 (by omega)
    have q341 := OwnL.only good_FeedItem (OwnL.ex good_FeedItem h317 hE326) hO329 (by omega)
    refine sd rfl (yl_call Try.en47 rfl (opvs_cons rfl (opvs_cons rfl opvs_nil)) (Cal.mono (c_i_JoinDiffs p_0 p_1 (RdS.up (OwnL.rd good_FeedItem q338) good_FeedItem) (RdS.up (OwnL.rd good_FeedItem q341) good_FeedItem) ((szok_Diff pre0 (by decide) (dec_f hb21)).1) ((szok_Diff pre1 (szok_Diff pre0 (by decide) (dec_f hb21)).2 (dec_f hb33)).1)) ?_))
    rintro v345 w342 ⟨A343, c343, lo343, hi343, rfl, h343, ho344, hrn347, hE346⟩
    have hE346z := Ex.size hE346
    refine sd rfl (yl_move rfl rfl (sd rfl (yl_extract rfl rfl rfl (sd rfl (yl_extract rfl rfl rfl (sd rfl (yl_alloc Try.ty85 (cs := [.int .i64 (0), .int .i64 (0), .slice none 0 0]) rfl rfl ?_)))))))
    intro b348 w349 hs350 hz351 hB352 hE353
    refine SeqR.u rfl rfl (yl_store (vs := [.int .i64 ((i_JoinDiffs p_0 p_1).1.From), .int .i64 ((i_JoinDiffs p_0 p_1).1.To), .slice A343 (((i_JoinDiffs p_0 p_1).1.List).length) c343]) Try.ty85 rfl rfl rfl rfl rfl rfl hB352 (Nat.le_of_ble_eq_true rfl) ?_)
    intro w354 hB355 hO356
    have hB355 : Box w354 b348 85 [.int .i64 ((i_JoinDiffs p_0 p_1).1.From), .int .i64 ((i_JoinDiffs p_0 p_1).1.To), .slice A343 (((i_JoinDiffs p_0 p_1).1.List).length) c343] := hB355
    have hO356z := hO356.size
    refine sd rfl (yl_assign rfl rfl (SeqR.done (tn (CW.seq (CW.seq (CW.region (sd rfl (yl_loadN (cs := [.int .i64 ((i_JoinDiffs p_0 p_1).1.From), .int .i64 ((i_JoinDiffs p_0 p_1).1.To), .slice A343 (((i_JoinDiffs p_0 p_1).1.List).length) c343]) Try.ty85 rfl rfl (hB355.cells (n := 3) rfl) rfl ?_))))))))
    have q365 := Box.only (Box.ex (Box.ex (Box.only (Box.ex (Box.ex (Box.only (Box.ex (Box.ex h260 hE297) hE304) hO307 (by omega)) hE319) hE326) hO329 (by omega)) hE346) hE353) hO356 (by omega)
    refine sd rfl (yl_loadN (cs := [.int .i64 ((s_JoinDiffs p_0 p_1).1.From), .int .i64 ((s_JoinDiffs p_0 p_1).1.To), .slice A50_256 (((s_JoinDiffs p_0 p_1).1.List).length) c50_257]) Try.ty85 rfl rfl (q365.cells (n := 3) rfl) rfl ?_)
    have q368 := OwnL.only good_FeedItem (OwnL.ex good_FeedItem h343 hE353) hO356 (by omega)
    have q378 := OwnL.only good_FeedItem (OwnL.ex good_FeedItem (OwnL.ex good_FeedItem (OwnL.only good_FeedItem (OwnL.ex good_FeedItem (OwnL.ex good_FeedItem (OwnL.only good_FeedItem (OwnL.ex good_FeedItem (OwnL.ex good_FeedItem h261 hE297) hE304) hO307 (by omega)) hE319) hE326) hO329 (by omega)) hE346) hE353) hO356 (by omega)
    refine sd rfl (yl_call Try.en48 rfl (opvs_cons rfl (opvs_cons rfl opvs_nil)) (Cal.mono (c_l_eqDiff ((i_JoinDiffs p_0 p_1).1) ((s_JoinDiffs p_0 p_1).1) (RdS.up (OwnL.rd good_FeedItem q368) good_FeedItem) (RdS.up (OwnL.rd good_FeedItem q378) good_FeedItem)) ?_))
    rintro v380 w379 ⟨rfl, hE381⟩
    have hE381z := Ex.size hE381
    refine sd rfl (yl_not rfl rfl (sd rfl (yl_move rfl rfl (bcase (l_eqDiff ((i_JoinDiffs p_0 p_1).1) ((s_JoinDiffs p_0 p_1).1)) (fun hb382 => ?_) (fun hb382 => ?_)))))
    ·refine sy rfl rfl (not_t hb382) (yl_move rfl rfl (sy rfl rfl (not_t hb382) (yl_move rfl rfl (sy rfl rfl (not_t hb382) (yl_bneq Try.un4 rfl rfl rfl (sd rfl (yl_pick_f rfl rfl (not_t hb382) rfl (SeqR.done (tn (bcase (((i_JoinDiffs p_0 p_1).2) == ((s_JoinDiffs p_0 p_1).2)) (fun hb383 => ?_) (fun hb383 => ?_)))))))))))
     ·refine CW.cond_f rfl (not_t hb383) (CW.skip (tn (CW.seq (CW.seq ?_))))
      have q387 := Box.ex (Box.only (Box.ex (Box.ex q332 hE346) hE353) hO356 (by omega)) hE381
      have q397 := Box.ex (Box.only (Box.ex (Box.ex (Box.only (Box.ex (Box.ex (Box.only (Box.ex (Box.ex q292 hE297) hE304) hO307 (by omega)) hE319) hE326) hO329 (by omega)) hE346) hE353) hO356 (by omega)) hE381
      have q407 := RdS.ex good_FeedItem (RdS.only good_FeedItem (RdS.ex good_FeedItem (RdS.ex good_FeedItem (RdS.only good_FeedItem (RdS.ex good_FeedItem (RdS.ex good_FeedItem (RdS.only good_FeedItem (RdS.ex good_FeedItem (RdS.ex good_FeedItem q293 hE297) hE304) hO307 (by simp only [Iv]; omega)) hE319) hE326) hO329 (by simp only [Iv]; omega)) hE346) hE353) hO356 (by simp only [Iv]; omega)) hE381
      have q414 := OwnL.ex good_FeedItem (OwnL.only good_FeedItem (OwnL.ex good_FeedItem (OwnL.ex good_FeedItem q338 hE346) hE353) hO356 (by omega)) hE381
      refine CW.drawsI 5 (vgetI [DetI (.agg #[.int .i64 (p_0.From), .int .i64 (p_0.To), .slice A295 p_0.List.length c295]), DetI (.agg #[.int .i64 (p_0.From), .int .i64 (p_0.To), .slice A1 p_0.List.length c1]), fun lo hi v wq => ∃ A409 c409 lo409 hi409, v = .agg #[.int .i64 (p_0.From), .int .i64 (p_0.To), .slice A409 p_0.List.length c409] ∧ OwnL wq lo409 hi409 140 5 (RF e_FeedItem) A409 p_0.List.length c409 p_0.List ∧ (lo ≤ lo409 ∧ lo409 ≤ hi409 ∧ hi409 ≤ hi), DetI (.bool ((l_eqDiff p_0 p_0))), DetI (.bool (!(l_eqDiff p_0 p_0)))]) Try.follows rfl rfl rfl rfl rfl rfl (vgetI_stable ⟨StableI.det _, StableI.det _, (fun _ _ _ _ _ ⟨A409, c409, lo409, hi409, hv, h409, hr0⟩ e => ⟨A409, c409, lo409, hi409, hv, OwnL.ex good_FeedItem h409 e, hr0⟩), StableI.det _, StableI.det _, trivial⟩) ⟨?_, ?_, ?_, ?_, ?_, trivial⟩ ?_
      ·exact fun _ _ h => os rfl ((yl_loadN (cs := [.int .i64 (p_0.From), .int .i64 (p_0.To), .slice A295 p_0.List.length c295]) Try.ty85 rfl (h.old 8 _ rfl rfl) ((Box.ex q387 h.ex).cells (n := 3) rfl) rfl kI))
      ·exact fun _ _ h => os rfl ((yl_loadN (cs := [.int .i64 (p_0.From), .int .i64 (p_0.To), .slice A1 p_0.List.length c1]) Try.ty81 rfl (h.old 2 _ rfl rfl) ((Box.ex q397 h.ex).cells (n := 3) rfl) rfl kI))
      ·intro L428 w429 hi430
       have hE431 := hi430.ex
       refine OpR.op' rfl (yl_call Try.en46 rfl (opvs_cons (hi430.dt 1 55 rfl rfl rfl) opvs_nil) (Cal.mono (c_l_toDiff p_0 (RdS.up (RdS.ex good_FeedItem q407 hE431) good_FeedItem) ((szok_Diff pre0 (by decide) (dec_f hb21)).1)) ?_))
       rintro v436 w434 ⟨A435, c435, lo435, hi435, rfl, h435, hrn438, hE437⟩
       exact ⟨⟨A435, c435, lo435, hi435, rfl, h435, hrn438⟩, hE437⟩
      ·intro L439 w440 hi441
       have hE442 := hi441.ex
       obtain ⟨lo445, hh446, _, hx444, hr447, hr448, hr449, A409_450, c409_451, lo409_452, hi409_453, rfl, h454, hrn455⟩ := hi441.dep 2 56 rfl rfl
       refine OpR.op' rfl (yl_call Try.en48 rfl (opvs_cons (hi441.dt 0 54 rfl rfl rfl) (opvs_cons hx444 opvs_nil)) (Cal.mono (c_l_eqDiff p_0 p_0 (RdS.up (OwnL.rd good_FeedItem (OwnL.ex good_FeedItem q414 hE442)) good_FeedItem) (RdS.up (OwnL.rd good_FeedItem h454) good_FeedItem)) ?_))
       rintro v460 w459 ⟨rfl, hE461⟩
       exact ⟨rfl, hE461⟩
      ·exact fun _ _ h => os rfl ((yl_not rfl (h.dt 3 57 rfl rfl rfl) kI))
      ·intro fl470 fh471 L467 w468 hp469
       have hE472 := hp469.ex
       have hE472z := Ex.size hE472
       have hr482 := hp469.rng 2 rfl
       obtain ⟨_, hx481, A409_483, c409_484, lo409_485, hi409_486, rfl, h487, hrn488⟩ := hp469.new 2 56 rfl rfl
       refine SeqR.done (tn (CW.sub (Sub.cons (d := 2) (hp469.old 2 _ rfl rfl) (Sub.cons (d := 3) (hp469.old 3 _ rfl rfl) (Sub.cons (d := 6) (hp469.old 6 _ rfl rfl) (Sub.cons (d := 7) (hp469.old 7 _ rfl rfl) (Sub.cons (d := 8) (hp469.old 8 _ rfl rfl) (Sub.cons (d := 9) (hp469.old 9 _ rfl rfl) (Sub.cons (d := 10) (hp469.old 10 _ rfl rfl) (Sub.cons (d := 11) (hp469.old 11 _ rfl rfl) (Sub.cons (d := 58) (hp469.nt 4 58 rfl rfl rfl) (Sub.nil _)))))))))) (bcase (l_eqDiff p_0 p_0) (fun hb490 => ?_) (fun hb490 => ?_))))
       ·refine CW.cond_f rfl (not_t hb490) (CW.skip (tn (CW.seq (CW.seq ?_))))
        have q495 := Box.ex (Box.ex (Box.only (Box.ex (Box.ex hB328 hE346) hE353) hO356 (by omega)) hE381) hE472
        have q503 := Box.ex (Box.ex (Box.only (Box.ex (Box.ex (Box.only (Box.ex (Box.ex q311 hE319) hE326) hO329 (by omega)) hE346) hE353) hO356 (by omega)) hE381) hE472
        have q511 := RdS.ex good_FeedItem (RdS.ex good_FeedItem (RdS.only good_FeedItem (RdS.ex good_FeedItem (RdS.ex good_FeedItem (RdS.only good_FeedItem (RdS.ex good_FeedItem (RdS.ex good_FeedItem q315 hE319) hE326) hO329 (by simp only [Iv]; omega)) hE346) hE353) hO356 (by simp only [Iv]; omega)) hE381) hE472
        have q519 := OwnL.ex good_FeedItem (OwnL.ex good_FeedItem (OwnL.only good_FeedItem (OwnL.ex good_FeedItem (OwnL.ex good_FeedItem q341 hE346) hE353) hO356 (by omega)) hE381) hE472
        refine CW.drawsI 5 (vgetI [DetI (.agg #[.int .i64 (p_1.From), .int .i64 (p_1.To), .slice A317 p_1.List.length c317]), DetI (.agg #[.int .i64 (p_1.From), .int .i64 (p_1.To), .slice A2 p_1.List.length c2]), fun lo hi v wq => ∃ A513 c513 lo513 hi513, v = .agg #[.int .i64 (p_1.From), .int .i64 (p_1.To), .slice A513 p_1.List.length c513] ∧ OwnL wq lo513 hi513 140 5 (RF e_FeedItem) A513 p_1.List.length c513 p_1.List ∧ (lo ≤ lo513 ∧ lo513 ≤ hi513 ∧ hi513 ≤ hi), DetI (.bool ((l_eqDiff p_1 p_1))), DetI (.bool (!(l_eqDiff p_1 p_1)))]) Try.follows rfl rfl rfl rfl rfl rfl (vgetI_stable ⟨StableI.det _, StableI.det _, (fun _ _ _ _ _ ⟨A513, c513, lo513, hi513, hv, h513, hr0⟩ e => ⟨A513, c513, lo513, hi513, hv, OwnL.ex good_FeedItem h513 e, hr0⟩), StableI.det _, StableI.det _, trivial⟩) ⟨?_, ?_, ?_, ?_, ?_, trivial⟩ ?_
        ·exact fun _ _ h => os rfl ((yl_loadN (cs := [.int .i64 (p_1.From), .int .i64 (p_1.To), .slice A317 p_1.List.length c317]) Try.ty85 rfl (h.old 9 _ rfl rfl) ((Box.ex q495 h.ex).cells (n := 3) rfl) rfl kI))
        ·exact fun _ _ h => os rfl ((yl_loadN (cs := [.int .i64 (p_1.From), .int .i64 (p_1.To), .slice A2 p_1.List.length c2]) Try.ty81 rfl (h.old 3 _ rfl rfl) ((Box.ex q503 h.ex).cells (n := 3) rfl) rfl kI))
        ·intro L533 w534 hi535
         have hE536 := hi535.ex
         refine OpR.op' rfl (yl_call Try.en46 rfl (opvs_cons (hi535.dt 1 60 rfl rfl rfl) opvs_nil) (Cal.mono (c_l_toDiff p_1 (RdS.up (RdS.ex good_FeedItem q511 hE536) good_FeedItem) ((szok_Diff pre1 (szok_Diff pre0 (by decide) (dec_f hb21)).2 (dec_f hb33)).1)) ?_))
         rintro v541 w539 ⟨A540, c540, lo540, hi540, rfl, h540, hrn543, hE542⟩
         exact ⟨⟨A540, c540, lo540, hi540, rfl, h540, hrn543⟩, hE542⟩
        ·intro L544 w545 hi546
         have hE547 := hi546.ex
         obtain ⟨lo550, hh551, _, hx549, hr552, hr553, hr554, A513_555, c513_556, lo513_557, hi513_558, rfl, h559, hrn560⟩ := hi546.dep 2 61 rfl rfl
         refine OpR.op' rfl (yl_call Try.en48 rfl (opvs_cons (hi546.dt 0 59 rfl rfl rfl) (opvs_cons hx549 opvs_nil)) (Cal.mono (c_l_eqDiff p_1 p_1 (RdS.up (OwnL.rd good_FeedItem (OwnL.ex good_FeedItem q519 hE547)) good_FeedItem) (RdS.up (OwnL.rd good_FeedItem h559) good_FeedItem)) ?_))
         rintro v565 w564 ⟨rfl, hE566⟩
         exact ⟨rfl, hE566⟩
        ·exact fun _ _ h => os rfl ((yl_not rfl (h.dt 3 62 rfl rfl rfl) kI))
        ·intro fl575 fh576 L572 w573 hp574
         have hE577 := hp574.ex
         have hE577z := Ex.size hE577
         have hr587 := hp574.rng 2 rfl
         obtain ⟨_, hx586, A513_588, c513_589, lo513_590, hi513_591, rfl, h592, hrn593⟩ := hp574.new 2 61 rfl rfl
         refine SeqR.done (tn (CW.sub (Sub.cons (d := 2) (hp574.old 2 _ rfl rfl) (Sub.cons (d := 3) (hp574.old 3 _ rfl rfl) (Sub.cons (d := 6) (hp574.old 6 _ rfl rfl) (Sub.cons (d := 7) (hp574.old 7 _ rfl rfl) (Sub.cons (d := 8) (hp574.old 8 _ rfl rfl) (Sub.cons (d := 9) (hp574.old 9 _ rfl rfl) (Sub.cons (d := 10) (hp574.old 10 _ rfl rfl) (Sub.cons (d := 11) (hp574.old 11 _ rfl rfl) (Sub.cons (d := 63) (hp574.nt 4 63 rfl rfl rfl) (Sub.nil _)))))))))) (bcase (l_eqDiff p_1 p_1) (fun hb595 => ?_) (fun hb595 => ?_))))
         ·refine CW.cond_f rfl (not_t hb595) (CW.skip (tn (CW.seq (CW.region (sd rfl (yl_assign rfl rfl (SeqR.done (tn (CW.seq ?_)))))))))
          refine CW.region (sd rfl (yl_loadN (cs := [.int .i64 (p_0.From), .int .i64 (p_0.To), .slice A295 p_0.List.length c295]) Try.ty85 rfl rfl ((Box.ex (Box.ex q387 hE472) hE577).cells (n := 3) rfl) rfl (sd rfl (yl_move rfl rfl (sd rfl (yl_call Try.en49 rfl (opvs_cons rfl (opvs_cons rfl opvs_nil)) (Cal.mono (c_l_markDiff p_0 1 (OwnL.ex good_FeedItem (OwnL.ex good_FeedItem q414 hE472) hE577) (by omega) (by first | omega | assumption | (simp only [IntKind.wrap_i64] at *; omega))) ?_)))))))
          rintro v601 w600 ⟨rfl, h603, hm602⟩
          have hm602z := Mut.size hm602
          have hrf604 := rf_markDiff p_0 1 (by first | omega | assumption | (simp only [IntKind.wrap_i64] at *; omega))
          refine sd rfl (yl_assign rfl rfl (SeqR.done (tn (CW.seq (CW.region (sd rfl (yl_loadN (cs := [.int .i64 (p_1.From), .int .i64 (p_1.To), .slice A317 p_1.List.length c317]) Try.ty85 rfl rfl ((Box.mut (Box.ex q495 hE577) hm602 (fun k hk => by simp only [InR, or_false] at hk; omega)).cells (n := 3) rfl) rfl (sd rfl (yl_move rfl rfl (sd rfl (yl_call Try.en49 rfl (opvs_cons rfl (opvs_cons rfl opvs_nil)) (Cal.mono (c_l_markDiff p_1 ((l_markDiff p_0 1).1) (OwnL.mut good_FeedItem (OwnL.ex good_FeedItem q519 hE577) hm602 (fun k hk => by simp only [InR, or_false] at hk; omega)) (by omega) (by first | omega | assumption | (simp only [IntKind.wrap_i64] at *; omega))) ?_))))))))))))
          rintro v610 w609 ⟨rfl, h612, hm611⟩
          have hm611z := Mut.size hm611
          have hrf613 := rf_markDiff p_1 ((l_markDiff p_0 1).1) (by first | omega | assumption | (simp only [IntKind.wrap_i64] at *; omega))
          refine sd rfl (yl_assign rfl rfl (SeqR.done (tn (CW.seq (CW.seq (CW.region (sd rfl (yl_move rfl rfl (sd rfl (yl_lss rfl rfl rfl (sd rfl (yl_move rfl rfl ?_))))))))))))
          refine bcase (decide (((l_markDiff p_1 ((l_markDiff p_0 1).1)).1) < 0)) (fun hb614 => ?_) (fun hb614 => ?_)
          ·have hb614p := dec_t hb614
           refine sz rfl rfl hb614 (sz rfl rfl hb614 (sz rfl rfl hb614 (sz rfl rfl hb614 (sd rfl (yl_pick_t rfl rfl hb614 rfl (sd rfl (yl_move rfl rfl (sz rfl rfl rfl (sz rfl rfl rfl (sz rfl rfl rfl ?_))))))))))
           refine sd rfl (yl_pick_t rfl rfl rfl rfl (SeqR.done (tn (CW.cond_t rfl rfl (CW.seq (CW.region (sd rfl (yl_assign rfl rfl (SeqR.done (tn ?_))))))))))
           refine CW.ret (tr (rr rfl (.cons rfl .nil) ?_))
           have hM615 : (l_FnExactJoinDiffs p_0 p_1) = (false) := by simp only [l_FnExactJoinDiffs, hb21, hb33, hb382, hb383, hb490, hb595, hb614, cond_true, cond_false, loopE_done, loopE_ret]
           rw [hM615]
           have q633 := Ex.mut (Ex.trans (Ex.trans (Ex.trans (Below.only (Ex.trans (Ex.trans (Below.only (Ex.trans (Ex.trans (Below.only (Ex.trans (Ex.trans (Ex.trans (Ex.trans (Ex.trans (Ex.trans (Ex.trans (Ex.refl w) hE8) hE14) hE20) hE32) hE215) hE297) hE304) hO307 (by omega)) hE319) hE326) hO329 (by omega)) hE346) hE353) hO356 (by omega)) hE381) hE472) hE577) hm602 (fun k hk => by simp only [InR, or_false] at hk; omega)
           exact ⟨rfl, (Ex.mut q633 hm611 (fun k hk => by simp only [InR, or_false] at hk; omega))⟩
          ·have hb614p := dec_f hb614
           have q639 := Box.mut (Box.mut (Box.ex (Box.ex (Box.ex hB355 hE381) hE472) hE577) hm602 (fun k hk => by simp only [InR, or_false] at hk; omega)) hm611 (fun k hk => by simp only [InR, or_false] at hk; omega)
           refine sy rfl rfl hb614 (yl_loadN (cs := [.int .i64 ((i_JoinDiffs p_0 p_1).1.From), .int .i64 ((i_JoinDiffs p_0 p_1).1.To), .slice A343 (((i_JoinDiffs p_0 p_1).1.List).length) c343]) Try.ty85 rfl rfl (q639.cells (n := 3) rfl) rfl ?_)
           have q644 := Box.mut (Box.mut (Box.ex (Box.ex (Box.ex q365 hE381) hE472) hE577) hm602 (fun k hk => by simp only [InR, or_false] at hk; omega)) hm611 (fun k hk => by simp only [InR, or_false] at hk; omega)
           refine sy rfl rfl hb614 (yl_loadN (cs := [.int .i64 ((s_JoinDiffs p_0 p_1).1.From), .int .i64 ((s_JoinDiffs p_0 p_1).1.To), .slice A50_256 (((s_JoinDiffs p_0 p_1).1.List).length) c50_257]) Try.ty85 rfl rfl (q644.cells (n := 3) rfl) rfl ?_)
           have q650 := OwnL.mut good_FeedItem (OwnL.mut good_FeedItem (OwnL.ex good_FeedItem (OwnL.ex good_FeedItem (OwnL.ex good_FeedItem q368 hE381) hE472) hE577) hm602 (fun k hk => by simp only [InR, or_false] at hk; omega)) hm611 (fun k hk => by simp only [InR, or_false] at hk; omega)
           have q656 := OwnL.mut good_FeedItem (OwnL.mut good_FeedItem (OwnL.ex good_FeedItem (OwnL.ex good_FeedItem (OwnL.ex good_FeedItem q378 hE381) hE472) hE577) hm602 (fun k hk => by simp only [InR, or_false] at hk; omega)) hm611 (fun k hk => by simp only [InR, or_false] at hk; omega)
           refine sy rfl rfl hb614 (yl_call Try.en48 rfl (opvs_cons rfl (opvs_cons rfl opvs_nil)) (Cal.mono (c_l_eqDiff ((i_JoinDiffs p_0 p_1).1) ((s_JoinDiffs p_0 p_1).1) (RdS.up (OwnL.rd good_FeedItem q650) good_FeedItem) (RdS.up (OwnL.rd good_FeedItem q656) good_FeedItem)) ?_))
           rintro v658 w657 ⟨rfl, hE659⟩
           have hE659z := Ex.size hE659
           refine sy rfl rfl hb614 (yl_not rfl rfl (sd rfl (yl_pick_f rfl rfl hb614 rfl (sd rfl (yl_move rfl rfl (sy rfl rfl (not_t hb382) (yl_move rfl rfl (sy rfl rfl (not_t hb382) (yl_move rfl rfl (sy rfl rfl (not_t hb382) (yl_bneq Try.un4 rfl rfl rfl (sd rfl (yl_pick_f rfl rfl (not_t hb382) rfl (SeqR.done (tn ?_)))))))))))))))
           refine CW.cond_f rfl (not_t hb383) (CW.skip (tn (CW.seq (CW.region (sd rfl (yl_assign rfl rfl (SeqR.done (tn (CW.seq ?_)))))))))
           refine CW.region ?_
           have q660 := Box.ex q639 hE659
           refine sd rfl (yl_loadN (cs := [.int .i64 ((i_JoinDiffs p_0 p_1).1.From), .int .i64 ((i_JoinDiffs p_0 p_1).1.To), .slice A343 (((i_JoinDiffs p_0 p_1).1.List).length) c343]) Try.ty85 rfl rfl (q660.cells (n := 3) rfl) rfl (sd rfl (yl_move rfl rfl (sd rfl (yl_call Try.en49 rfl (opvs_cons rfl (opvs_cons rfl opvs_nil)) (Cal.mono (c_l_markDiff ((i_JoinDiffs p_0 p_1).1) 1 (OwnL.ex good_FeedItem q650 hE659) (by omega) (by first | omega | assumption | (simp only [IntKind.wrap_i64] at *; omega))) ?_))))))
           rintro v663 w662 ⟨rfl, h665, hm664⟩
           have hm664z := Mut.size hm664
           have hrf666 := rf_markDiff ((i_JoinDiffs p_0 p_1).1) 1 (by first | omega | assumption | (simp only [IntKind.wrap_i64] at *; omega))
           refine sd rfl (yl_assign rfl rfl (SeqR.done (tn (CW.seq (CW.region (sd rfl (yl_assign rfl rfl (SeqR.done (tn (CW.seq ?_))))))))))
           refine CW.region ?_
           have q667 := Box.mut q660 hm664 (fun k hk => by simp only [InR, or_false] at hk; omega)
           refine sd rfl (yl_loadN (cs := [.int .i64 ((i_JoinDiffs p_0 p_1).1.From), .int .i64 ((i_JoinDiffs p_0 p_1).1.To), .slice A343 (((i_JoinDiffs p_0 p_1).1.List).length) c343]) Try.ty85 rfl rfl (q667.cells (n := 3) rfl) rfl (sd rfl (yl_move rfl rfl ?_)))
           have hle668 := OwnL.len h665
           refine sd rfl (yl_call Try.en50 rfl (opvs_cons rfl (opvs_cons rfl opvs_nil)) (Cal.mono (Cal.args (by rw [← hle668] <;> rfl) (c_l_heldDiff (⟨(i_JoinDiffs p_0 p_1).1.From, (i_JoinDiffs p_0 p_1).1.To, (l_markDiff ((i_JoinDiffs p_0 p_1).1) 1).2.List⟩ : DDiff) 1 (RdS.fix (RdS.up (OwnL.rd good_FeedItem h665) good_FeedItem)) (by first | omega | assumption | (simp only [IntKind.wrap_i64] at *; omega)))) ?_))
           rintro v671 w670 ⟨rfl, hE672⟩
           have hE672z := Ex.size hE672
           have hrf673 := rf_heldDiff (⟨(i_JoinDiffs p_0 p_1).1.From, (i_JoinDiffs p_0 p_1).1.To, (l_markDiff ((i_JoinDiffs p_0 p_1).1) 1).2.List⟩ : DDiff) 1 (by first | omega | assumption | (simp only [IntKind.wrap_i64] at *; omega))
           refine sd rfl (yl_assign rfl rfl (SeqR.done (tn (CW.seq (CW.seq (CW.region (sd rfl (yl_move rfl rfl (sd rfl (yl_lss rfl rfl rfl (SeqR.done ?_)))))))))))
           refine tn (bcase (decide ((l_heldDiff (⟨(i_JoinDiffs p_0 p_1).1.From, (i_JoinDiffs p_0 p_1).1.To, (l_markDiff ((i_JoinDiffs p_0 p_1).1) 1).2.List⟩ : DDiff) 1) < 0)) (fun hb674 => ?_) (fun hb674 => ?_))
           ·have hb674p := dec_t hb674
            refine CW.cond_t rfl hb674 (CW.seq (CW.region (sd rfl (yl_assign rfl rfl (SeqR.done (tn (CW.ret (tr (rr rfl (.cons rfl .nil) ?_)))))))))
            have hM675 : (l_FnExactJoinDiffs p_0 p_1) = (false) := by simp only [l_FnExactJoinDiffs, hb21, hb33, hb382, hb383, hb490, hb595, hb614, hb674, cond_true, cond_false, loopE_done, loopE_ret]
            rw [hM675]
            have q693 := Ex.mut (Ex.trans (Ex.trans (Ex.trans (Below.only (Ex.trans (Ex.trans (Below.only (Ex.trans (Ex.trans (Below.only (Ex.trans (Ex.trans (Ex.trans (Ex.trans (Ex.trans (Ex.trans (Ex.trans (Ex.refl w) hE8) hE14) hE20) hE32) hE215) hE297) hE304) hO307 (by omega)) hE319) hE326) hO329 (by omega)) hE346) hE353) hO356 (by omega)) hE381) hE472) hE577) hm602 (fun k hk => by simp only [InR, or_false] at hk; omega)
            exact ⟨rfl, (Ex.trans (Ex.mut (Ex.trans (Ex.mut q693 hm611 (fun k hk => by simp only [InR, or_false] at hk; omega)) hE659) hm664 (fun k hk => by simp only [InR, or_false] at hk; omega)) hE672)⟩
           ·have hb674p := dec_f hb674
            refine CW.cond_f rfl hb674 (CW.skip (tn (CW.seq (CW.seq (CW.region (sd rfl (yl_move rfl rfl (sd rfl (yl_move rfl rfl (sd rfl (yl_neq rfl rfl rfl ?_)))))))))))
            refine SeqR.done (tn (bcase (decide ((l_heldDiff (⟨(i_JoinDiffs p_0 p_1).1.From, (i_JoinDiffs p_0 p_1).1.To, (l_markDiff ((i_JoinDiffs p_0 p_1).1) 1).2.List⟩ : DDiff) 1) = ((l_markDiff ((i_JoinDiffs p_0 p_1).1) 1).1))) (fun hb698 => ?_) (fun hb698 => ?_)))
            ·have hb698p := dec_t hb698
             refine CW.cond_f rfl (not_t hb698) (CW.skip (tn (CW.seq ?_)))
             have q712 := RdS.ex good_FeedItem (RdS.mut good_FeedItem (RdS.ex good_FeedItem (RdS.mut good_FeedItem (RdS.mut good_FeedItem (RdS.ex good_FeedItem (RdS.ex good_FeedItem q407 hE472) hE577) hm602 (fun k hk => by simp only [InR, or_false, Iv, Ge] at hk ⊢; omega)) hm611 (fun k hk => by simp only [InR, or_false, Iv, Ge] at hk ⊢; omega)) hE659) hm664 (fun k hk => by simp only [InR, or_false, Iv, Ge] at hk ⊢; omega)) hE672
             refine CW.drawsG 11 (fun _ _ => False) (fun i G b => (i = 9 ∧ (G.fl 8) ≤ b ∧ b < (G.fh 8))) (vgetG [DetG (.agg #[.int .i64 (p_0.From), .int .i64 (p_0.To), .slice A1 p_0.List.length c1]), fun G v wq => ∃ A714 c714 lo714 hi714, v = .agg #[.int .i64 (p_0.From), .int .i64 (p_0.To), .slice A714 p_0.List.length c714] ∧ OwnL wq lo714 hi714 140 5 (RF e_FeedItem) A714 p_0.List.length c714 p_0.List ∧ ((G.fl 1) ≤ lo714 ∧ lo714 ≤ hi714 ∧ hi714 ≤ (G.fh 1)), DetG (.agg #[.int .i64 (p_1.From), .int .i64 (p_1.To), .slice A2 p_1.List.length c2]), fun G v wq => ∃ A728 c728 lo728 hi728, v = .agg #[.int .i64 (p_1.From), .int .i64 (p_1.To), .slice A728 p_1.List.length c728] ∧ OwnL wq lo728 hi728 140 5 (RF e_FeedItem) A728 p_1.List.length c728 p_1.List ∧ ((G.fl 3) ≤ lo728 ∧ lo728 ≤ hi728 ∧ hi728 ≤ (G.fh 3)), fun G v wq => ∃ A730 c730 lo730 hi730, v = .tuple #[.agg #[.int .i64 ((i_JoinDiffs p_0 p_1).1.From), .int .i64 ((i_JoinDiffs p_0 p_1).1.To), .slice A730 (((i_JoinDiffs p_0 p_1).1.List).length) c730], .bool ((i_JoinDiffs p_0 p_1).2)] ∧ OwnL wq lo730 hi730 140 5 (RF e_FeedItem) A730 (((i_JoinDiffs p_0 p_1).1.List).length) c730 ((i_JoinDiffs p_0 p_1).1.List) ∧ ok_Diff ((i_JoinDiffs p_0 p_1).1) ∧ ((G.fl 4) ≤ lo730 ∧ lo730 ≤ hi730 ∧ hi730 ≤ (G.fh 4)), fun G v wq => ∃ A730 c730 lo730 hi730, v = .tuple #[.agg #[.int .i64 ((i_JoinDiffs p_0 p_1).1.From), .int .i64 ((i_JoinDiffs p_0 p_1).1.To), .slice A730 (((i_JoinDiffs p_0 p_1).1.List).length) c730], .bool ((i_JoinDiffs p_0 p_1).2)] ∧ OwnL wq lo730 hi730 140 5 (RF e_FeedItem) A730 (((i_JoinDiffs p_0 p_1).1.List).length) c730 ((i_JoinDiffs p_0 p_1).1.List) ∧ ((G.fl 4) ≤ lo730 ∧ lo730 ≤ hi730 ∧ hi730 ≤ (G.fh 4)), fun G v wq => ∃ A730 c730 lo730 hi730, v = .agg #[.int .i64 ((i_JoinDiffs p_0 p_1).1.From), .int .i64 ((i_JoinDiffs p_0 p_1).1.To), .slice A730 (((i_JoinDiffs p_0 p_1).1.List).length) c730] ∧ OwnL wq lo730 hi730 140 5 (RF e_FeedItem) A730 (((i_JoinDiffs p_0 p_1).1.List).length) c730 ((i_JoinDiffs p_0 p_1).1.List) ∧ ((G.fl 4) ≤ lo730 ∧ lo730 ≤ hi730 ∧ hi730 ≤ (G.fh 4)), DetG (.bool ((i_JoinDiffs p_0 p_1).2)), fun G v wq => v = .pointer (some ⟨(G.fl 8), 0, none⟩) ∧ (G.dn 9 = false → Box wq (G.fl 8) 85 [.int .i64 (0), .int .i64 (0), .slice none 0 0]) ∧ (G.fl 8) < (G.fh 8), fun G v wq => ∃ A730 c730 lo730 hi730, Box wq (G.fl 8) 85 [.int .i64 ((i_JoinDiffs p_0 p_1).1.From), .int .i64 ((i_JoinDiffs p_0 p_1).1.To), .slice A730 (((i_JoinDiffs p_0 p_1).1.List).length) c730] ∧ OwnL wq lo730 hi730 140 5 (RF e_FeedItem) A730 (((i_JoinDiffs p_0 p_1).1.List).length) c730 ((i_JoinDiffs p_0 p_1).1.List) ∧ ((G.fl 4) ≤ lo730 ∧ lo730 ≤ hi730 ∧ hi730 ≤ (G.fh 4)), DetG (.bool ((i_JoinDiffs p_0 p_1).2))]) Try.follows rfl rfl rfl rfl rfl rfl (fun _ _ _ _ _ h => h) (fun i G w lo hi b K hn hh hp => by exact (match hp with | ⟨e, q1, q2⟩ => by subst e; exact .inr (by have := K.rng 8 (hh 8 rfl); omega))) (vgetG_kept ⟨(KeptG.det _), (by rintro i G v w w' K hn hh hj ⟨A714, c714, lo714, hi714, hv, h0, hr0⟩ e; have d1 : G.dn 1 = true := hj; have u1 := Gh.ufl (lo := w.heap.size) (hi := w'.heap.size) d1 hn; have t1 := Gh.ufh (lo := w.heap.size) (hi := w'.heap.size) d1 hn; exact ⟨A714, c714, lo714, hi714, hv, (by exact OwnL.chg good_FeedItem h0 e (fun b hb hp => by obtain ⟨rfl, q1, q2⟩ := hp; have := K.rng 1 d1; have := K.rng 8 (hh 8 rfl); have := K.sep 8 1 (hh 8 rfl) d1 rfl; skip; omega)), (by simp only [u1, t1]; exact hr0)⟩), (KeptG.det _), (by rintro i G v w w' K hn hh hj ⟨A728, c728, lo728, hi728, hv, h0, hr0⟩ e; have d3 : G.dn 3 = true := hj; have u3 := Gh.ufl (lo := w.heap.size) (hi := w'.heap.size) d3 hn; have t3 := Gh.ufh (lo := w.heap.size) (hi := w'.heap.size) d3 hn; exact ⟨A728, c728, lo728, hi728, hv, (by exact OwnL.chg good_FeedItem h0 e (fun b hb hp => by obtain ⟨rfl, q1, q2⟩ := hp; have := K.rng 3 d3; have := K.rng 8 (hh 8 rfl); have := K.sep 8 3 (hh 8 rfl) d3 rfl; skip; omega)), (by simp only [u3, t3]; exact hr0)⟩), (by rintro i G v w w' K hn hh hj ⟨A730, c730, lo730, hi730, hv, h0, h1, hr0⟩ e; have d4 : G.dn 4 = true := hj; have u4 := Gh.ufl (lo := w.heap.size) (hi := w'.heap.size) d4 hn; have t4 := Gh.ufh (lo := w.heap.size) (hi := w'.heap.size) d4 hn; exact ⟨A730, c730, lo730, hi730, hv, (by exact OwnL.chg good_FeedItem h0 e (fun b hb hp => by obtain ⟨rfl, q1, q2⟩ := hp; have := K.rng 4 d4; have := K.rng 8 (hh 8 rfl); have := K.sep 8 4 (hh 8 rfl) d4 rfl; skip; omega)), h1, (by simp only [u4, t4]; exact hr0)⟩), (by rintro i G v w w' K hn hh hj ⟨A730, c730, lo730, hi730, hv, h0, hr0⟩ e; have d4 : G.dn 4 = true := K.cl 5 4 hj rfl; have u4 := Gh.ufl (lo := w.heap.size) (hi := w'.heap.size) d4 hn; have t4 := Gh.ufh (lo := w.heap.size) (hi := w'.heap.size) d4 hn; exact ⟨A730, c730, lo730, hi730, hv, (by exact OwnL.chg good_FeedItem h0 e (fun b hb hp => by obtain ⟨rfl, q1, q2⟩ := hp; have := K.rng 4 d4; have := K.rng 8 (hh 8 rfl); have := K.sep 8 4 (hh 8 rfl) d4 rfl; skip; omega)), (by simp only [u4, t4]; exact hr0)⟩), (by rintro i G v w w' K hn hh hj ⟨A730, c730, lo730, hi730, hv, h0, hr0⟩ e; have d4 : G.dn 4 = true := K.cl 6 4 hj rfl; have u4 := Gh.ufl (lo := w.heap.size) (hi := w'.heap.size) d4 hn; have t4 := Gh.ufh (lo := w.heap.size) (hi := w'.heap.size) d4 hn; exact ⟨A730, c730, lo730, hi730, hv, (by exact OwnL.chg good_FeedItem h0 e (fun b hb hp => by obtain ⟨rfl, q1, q2⟩ := hp; have := K.rng 4 d4; have := K.rng 8 (hh 8 rfl); have := K.sep 8 4 (hh 8 rfl) d4 rfl; skip; omega)), (by simp only [u4, t4]; exact hr0)⟩), (KeptG.det _), (by rintro i G v w w' K hn hh hj ⟨hv, h0, he0⟩ e; have d8 : G.dn 8 = true := hj; have u8 := Gh.ufl (lo := w.heap.size) (hi := w'.heap.size) d8 hn; have t8 := Gh.ufh (lo := w.heap.size) (hi := w'.heap.size) d8 hn; exact ⟨(by simp only [u8, t8]; exact hv), (by intro hd; simp only [u8, t8]; exact Box.chg (h0 (Gh.off hd).2) e (fun hp => by obtain ⟨rfl, q1, q2⟩ := hp; exact absurd rfl (Gh.off hd).1)), (by simp only [u8, t8]; exact he0)⟩), (by rintro i G v w w' K hn hh hj ⟨A730, c730, lo730, hi730, h0, h1, hr0⟩ e; have d4 : G.dn 4 = true := K.cl 9 4 hj rfl; have u4 := Gh.ufl (lo := w.heap.size) (hi := w'.heap.size) d4 hn; have t4 := Gh.ufh (lo := w.heap.size) (hi := w'.heap.size) d4 hn; have d8 : G.dn 8 = true := K.cl 9 8 hj rfl; have u8 := Gh.ufl (lo := w.heap.size) (hi := w'.heap.size) d8 hn; have t8 := Gh.ufh (lo := w.heap.size) (hi := w'.heap.size) d8 hn; exact ⟨A730, c730, lo730, hi730, (by simp only [u4, t4, u8, t8]; exact Box.chg h0 e (fun hp => by obtain ⟨rfl, q1, q2⟩ := hp; rw [hj] at hn; cases hn)), (by exact OwnL.chg good_FeedItem h1 e (fun b hb hp => by obtain ⟨rfl, q1, q2⟩ := hp; rw [hj] at hn; cases hn)), (by simp only [u4, t4, u8, t8]; exact hr0)⟩), (KeptG.det _), trivial⟩) ⟨?_, ?_, ?_, ?_, ?_, ?_, ?_, ?_, ?_, ?_, ?_, trivial⟩ ?_
             ·intro L738 w739 G737 hgk740
              have hE741 := hgk740.st.ex.ex (fun b h => h.elim (fun h => h.elim) (fun h => h))
              have hE741z := Ex.size hE741
              exact OpR.op' rfl (Yl.sameG (yl_loadN (cs := [.int .i64 (p_0.From), .int .i64 (p_0.To), .slice A1 p_0.List.length c1]) Try.ty81 rfl (hgk740.old 2 _ rfl rfl) ((Box.ex (Box.ex (Box.mut (Box.ex (Box.mut (Box.mut (Box.ex (Box.ex q397 hE472) hE577) hm602 (fun k hk => by simp only [InR, or_false] at hk; omega)) hm611 (fun k hk => by simp only [InR, or_false] at hk; omega)) hE659) hm664 (fun k hk => by simp only [InR, or_false] at hk; omega)) hE672) hE741).cells (n := 3) rfl) rfl kI))
             ·intro L745 w746 G744 hgk747
              have hE748 := hgk747.st.ex.ex (fun b h => h.elim (fun h => h.elim) (fun h => h))
              have hE748z := Ex.size hE748
              obtain ⟨_, hx749, rfl⟩ := hgk747.val 0 95 rfl rfl
              refine OpR.op' rfl (yl_call Try.en46 rfl (opvs_cons hx749 opvs_nil) (Cal.mono (c_l_toDiff p_0 (RdS.up (RdS.ex good_FeedItem q712 hE748) good_FeedItem) ((szok_Diff pre0 (by decide) (dec_f hb21)).1)) ?_))
              rintro v753 w751 ⟨A752, c752, lo752, hi752, rfl, h752, hrn755, hE754⟩
              exact ⟨Chg.of_ex hE754, A752, c752, lo752, hi752, rfl, h752, hrn755⟩
             ·intro L757 w758 G756 hgk759
              have hE760 := hgk759.st.ex.ex (fun b h => h.elim (fun h => h.elim) (fun h => h))
              have hE760z := Ex.size hE760
              exact OpR.op' rfl (Yl.sameG (yl_loadN (cs := [.int .i64 (p_1.From), .int .i64 (p_1.To), .slice A2 p_1.List.length c2]) Try.ty81 rfl (hgk759.old 3 _ rfl rfl) ((Box.ex (Box.ex (Box.mut (Box.ex (Box.mut (Box.mut (Box.ex q503 hE577) hm602 (fun k hk => by simp only [InR, or_false] at hk; omega)) hm611 (fun k hk => by simp only [InR, or_false] at hk; omega)) hE659) hm664 (fun k hk => by simp only [InR, or_false] at hk; omega)) hE672) hE760).cells (n := 3) rfl) rfl kI))
             ·intro L764 w765 G763 hgk766
              have hE767 := hgk766.st.ex.ex (fun b h => h.elim (fun h => h.elim) (fun h => h))
              have hE767z := Ex.size hE767
              obtain ⟨_, hx768, rfl⟩ := hgk766.val 2 97 rfl rfl
              have q769 := RdS.ex good_FeedItem (RdS.ex good_FeedItem (RdS.mut good_FeedItem (RdS.ex good_FeedItem (RdS.mut good_FeedItem (RdS.mut good_FeedItem (RdS.ex good_FeedItem q511 hE577) hm602 (fun k hk => by simp only [InR, or_false, Iv, Ge] at hk ⊢; omega)) hm611 (fun k hk => by simp only [InR, or_false, Iv, Ge] at hk ⊢; omega)) hE659) hm664 (fun k hk => by simp only [InR, or_false, Iv, Ge] at hk ⊢; omega)) hE672) hE767
              refine OpR.op' rfl (yl_call Try.en46 rfl (opvs_cons hx768 opvs_nil) (Cal.mono (c_l_toDiff p_1 (RdS.up q769 good_FeedItem) ((szok_Diff pre1 (szok_Diff pre0 (by decide) (dec_f hb21)).2 (dec_f hb33)).1)) ?_))
              rintro v772 w770 ⟨A771, c771, lo771, hi771, rfl, h771, hrn774, hE773⟩
              exact ⟨Chg.of_ex hE773, A771, c771, lo771, hi771, rfl, h771, hrn774⟩
             ·intro L776 w777 G775 hgk778
              have hE779 := hgk778.st.ex.ex (fun b h => h.elim (fun h => h.elim) (fun h => h))
              have hE779z := Ex.size hE779
              obtain ⟨_, hx780, A714_781, c714_782, lo714_783, hi714_784, rfl, h785, hrn786⟩ := hgk778.val 1 96 rfl rfl
              obtain ⟨_, hx787, A728_788, c728_789, lo728_790, hi728_791, rfl, h792, hrn793⟩ := hgk778.val 3 98 rfl rfl
              have hr794 := hgk778.st.rng 1 (hgk778.has 1 rfl)
              have hr795 := hgk778.st.rng 3 (hgk778.has 3 rfl)
              have hsp796 := hgk778.st.ord 3 1 (hgk778.has 3 rfl) rfl
              refine OpR.op' rfl (yl_call Try.en47 rfl (opvs_cons hx780 (opvs_cons hx787 opvs_nil)) (Cal.mono (c_i_JoinDiffs p_0 p_1 (RdS.up (OwnL.rd good_FeedItem h785) good_FeedItem) (RdS.up (OwnL.rd good_FeedItem h792) good_FeedItem) ((szok_Diff pre0 (by decide) (dec_f hb21)).1) ((szok_Diff pre1 (szok_Diff pre0 (by decide) (dec_f hb21)).2 (dec_f hb33)).1)) ?_))
              rintro v802 w799 ⟨A800, c800, lo800, hi800, rfl, h800, ho801, hrn804, hE803⟩
              exact ⟨Chg.of_ex hE803, A800, c800, lo800, hi800, rfl, h800, ho801, hrn804⟩
             ·intro L806 w807 G805 hgk808
              have hE809 := hgk808.st.ex.ex (fun b h => h.elim (fun h => h.elim) (fun h => h))
              have hE809z := Ex.size hE809
              obtain ⟨_, hx810, A730_811, c730_812, lo730_813, hi730_814, rfl, h815, h816, hrn817⟩ := hgk808.val 4 99 rfl rfl
              have hr818 := hgk808.st.rng 4 (hgk808.has 4 rfl)
              exact OpR.op' rfl (Yl.sameG (yl_move rfl hx810 ⟨fun _ _ => ⟨A730_811, c730_812, lo730_813, hi730_814, rfl, h815, (show ((G805.fl 4) ≤ lo730_813 ∧ lo730_813 ≤ hi730_814 ∧ hi730_814 ≤ (G805.fh 4)) by omega)⟩, rfl⟩))
             ·intro L820 w821 G819 hgk822
              have hE823 := hgk822.st.ex.ex (fun b h => h.elim (fun h => h.elim) (fun h => h))
              have hE823z := Ex.size hE823
              obtain ⟨_, hx824, A730_825, c730_826, lo730_827, hi730_828, rfl, h829, hrn830⟩ := hgk822.val 5 94 rfl rfl
              have hr831 := hgk822.st.rng 4 (hgk822.has 4 rfl)
              have hr832 := hgk822.st.rng 5 (hgk822.has 5 rfl)
              have hsp833 := hgk822.st.ord 5 4 (hgk822.has 5 rfl) rfl
              exact OpR.op' rfl (Yl.sameG (yl_extract rfl hx824 rfl ⟨fun _ _ => ⟨A730_825, c730_826, lo730_827, hi730_828, rfl, h829, (show ((G819.fl 4) ≤ lo730_827 ∧ lo730_827 ≤ hi730_828 ∧ hi730_828 ≤ (G819.fh 4)) by omega)⟩, rfl⟩))
             ·intro L835 w836 G834 hgk837
              have hE838 := hgk837.st.ex.ex (fun b h => h.elim (fun h => h.elim) (fun h => h))
              have hE838z := Ex.size hE838
              obtain ⟨_, hx839, A730_840, c730_841, lo730_842, hi730_843, rfl, h844, hrn845⟩ := hgk837.val 5 94 rfl rfl
              have hr846 := hgk837.st.rng 4 (hgk837.has 4 rfl)
              have hr847 := hgk837.st.rng 5 (hgk837.has 5 rfl)
              have hsp848 := hgk837.st.ord 5 4 (hgk837.has 5 rfl) rfl
              exact OpR.op' rfl (Yl.sameG (yl_extract rfl hx839 rfl kI))
             ·intro L850 w851 G849 hgk852
              have hE853 := hgk852.st.ex.ex (fun b h => h.elim (fun h => h.elim) (fun h => h))
              have hE853z := Ex.size hE853
              refine OpR.op' rfl (yl_alloc Try.ty85 (cs := [.int .i64 (0), .int .i64 (0), .slice none 0 0]) rfl rfl ?_)
              intro b854 w855 hs856 hz857 hB858 hE859
              subst hs856
              exact ⟨Chg.of_ex hE859, rfl, fun _ => hB858, by rw [Gh.sfl, Gh.sfh]; omega⟩
             ·intro L861 w862 G860 hgk863
              have hE864 := hgk863.st.ex.ex (fun b h => h.elim (fun h => h.elim) (fun h => h))
              have hE864z := Ex.size hE864
              obtain ⟨_, hx865, rfl, h866, he867⟩ := hgk863.val 8 15 rfl rfl
              have h866 := h866 hgk863.new
              obtain ⟨_, hx868, A730_869, c730_870, lo730_871, hi730_872, rfl, h873, hrn874⟩ := hgk863.val 6 100 rfl rfl
              have hr875 := hgk863.st.rng 4 (hgk863.has 4 rfl)
              have hr876 := hgk863.st.rng 6 (hgk863.has 6 rfl)
              have hr877 := hgk863.st.rng 8 (hgk863.has 8 rfl)
              have hsp878 := hgk863.st.ord 6 4 (hgk863.has 6 rfl) rfl
              have hsp879 := hgk863.st.sep 4 8 (hgk863.has 4 rfl) (hgk863.has 8 rfl) rfl
              have hsp880 := hgk863.st.sep 6 8 (hgk863.has 6 rfl) (hgk863.has 8 rfl) rfl
              refine OpR.op' rfl (yl_store (vs := [.int .i64 ((i_JoinDiffs p_0 p_1).1.From), .int .i64 ((i_JoinDiffs p_0 p_1).1.To), .slice A730_869 (((i_JoinDiffs p_0 p_1).1.List).length) c730_870]) Try.ty85 rfl hx865 hx868 rfl rfl rfl h866 (Nat.le_of_ble_eq_true rfl) ?_)
              intro w881 hB882 hO883
              have hO883z := hO883.size
              exact ⟨Chg.of_only hO883 (⟨rfl, Nat.le_refl _, by omega⟩), A730_869, c730_870, lo730_871, hi730_872, hB882, (OwnL.only good_FeedItem h873 hO883 (by omega)), (show ((G860.fl 4) ≤ lo730_871 ∧ lo730_871 ≤ hi730_872 ∧ hi730_872 ≤ (G860.fh 4)) by omega)⟩
             ·intro L886 w887 G885 hgk888
              have hE889 := hgk888.st.ex.ex (fun b h => h.elim (fun h => h.elim) (fun h => h))
              have hE889z := Ex.size hE889
              obtain ⟨_, hx890, rfl⟩ := hgk888.val 7 101 rfl rfl
              exact OpR.op' rfl (Yl.sameG (yl_assign rfl hx890 kI))
             ·intro G891 L892 w893 hgp894
              have hE895 := hgp894.st.ex.ex (fun b h => h.elim (fun h => h.elim) (fun h => h))
              have hE895z := Ex.size hE895
              obtain ⟨_, hx900, A714_901, c714_902, lo714_903, hi714_904, rfl, h905, hrn906⟩ := hgp894.val 1 96 rfl rfl
              obtain ⟨_, hx907, A728_908, c728_909, lo728_910, hi728_911, rfl, h912, hrn913⟩ := hgp894.val 3 98 rfl rfl
              obtain ⟨_, hx914, A730_915, c730_916, lo730_917, hi730_918, rfl, h919, h920, hrn921⟩ := hgp894.val 4 99 rfl rfl
              obtain ⟨_, hx922, A730_923, c730_924, lo730_925, hi730_926, rfl, h927, hrn928⟩ := hgp894.val 5 94 rfl rfl
              obtain ⟨_, hx929, A730_930, c730_931, lo730_932, hi730_933, rfl, h934, hrn935⟩ := hgp894.val 6 100 rfl rfl
              obtain ⟨_, hx936, rfl, -, he937⟩ := hgp894.val 8 15 rfl rfl
              obtain ⟨_, A730_938, c730_939, lo730_940, hi730_941, h942, h943, hrn944⟩ := hgp894.fact 9 rfl
              obtain ⟨_, hx945, rfl⟩ := hgp894.val 10 16 rfl rfl
              have hr946 := hgp894.st.rng 1 (hgp894.has 1 rfl)
              have hr947 := hgp894.st.rng 3 (hgp894.has 3 rfl)
              have hr948 := hgp894.st.rng 4 (hgp894.has 4 rfl)
              have hr949 := hgp894.st.rng 5 (hgp894.has 5 rfl)
              have hr950 := hgp894.st.rng 6 (hgp894.has 6 rfl)
              have hr951 := hgp894.st.rng 8 (hgp894.has 8 rfl)
              have hr952 := hgp894.st.rng 9 (hgp894.has 9 rfl)
              have hsp953 := hgp894.st.ord 3 1 (hgp894.has 3 rfl) rfl
              have hsp954 := hgp894.st.ord 4 1 (hgp894.has 4 rfl) rfl
              have hsp955 := hgp894.st.ord 5 1 (hgp894.has 5 rfl) rfl
              have hsp956 := hgp894.st.ord 6 1 (hgp894.has 6 rfl) rfl
              have hsp957 := hgp894.st.sep 1 8 (hgp894.has 1 rfl) (hgp894.has 8 rfl) rfl
              have hsp958 := hgp894.st.ord 9 1 (hgp894.has 9 rfl) rfl
              have hsp959 := hgp894.st.ord 4 3 (hgp894.has 4 rfl) rfl
              have hsp960 := hgp894.st.ord 5 3 (hgp894.has 5 rfl) rfl
              have hsp961 := hgp894.st.ord 6 3 (hgp894.has 6 rfl) rfl
              have hsp962 := hgp894.st.sep 3 8 (hgp894.has 3 rfl) (hgp894.has 8 rfl) rfl
              have hsp963 := hgp894.st.ord 9 3 (hgp894.has 9 rfl) rfl
              have hsp964 := hgp894.st.ord 5 4 (hgp894.has 5 rfl) rfl
              have hsp965 := hgp894.st.ord 6 4 (hgp894.has 6 rfl) rfl
              have hsp966 := hgp894.st.sep 4 8 (hgp894.has 4 rfl) (hgp894.has 8 rfl) rfl
              have hsp967 := hgp894.st.ord 9 4 (hgp894.has 9 rfl) rfl
              have hsp968 := hgp894.st.ord 6 5 (hgp894.has 6 rfl) rfl
              have hsp969 := hgp894.st.sep 5 8 (hgp894.has 5 rfl) (hgp894.has 8 rfl) rfl
              have hsp970 := hgp894.st.ord 9 5 (hgp894.has 9 rfl) rfl
              have hsp971 := hgp894.st.sep 6 8 (hgp894.has 6 rfl) (hgp894.has 8 rfl) rfl
              have hsp972 := hgp894.st.ord 9 6 (hgp894.has 9 rfl) rfl
              have hsp973 := hgp894.st.ord 9 8 (hgp894.has 9 rfl) rfl
              refine SeqR.done (tn (CW.sub (Sub.cons (d := 6) (hgp894.old 6 _ rfl rfl) (Sub.cons (d := 7) (hgp894.old 7 _ rfl rfl) (Sub.cons (d := 10) (hgp894.old 10 _ rfl rfl) (Sub.cons (d := 13) (hgp894.old 13 _ rfl rfl) (Sub.cons (d := 15) hx936 (Sub.cons (d := 16) hx945 (Sub.nil _))))))) (CW.seq (CW.seq (CW.region (sd rfl (yl_loadN (cs := [.int .i64 ((i_JoinDiffs p_0 p_1).1.From), .int .i64 ((i_JoinDiffs p_0 p_1).1.To), .slice A730_938 (((i_JoinDiffs p_0 p_1).1.List).length) c730_939]) Try.ty85 rfl rfl (h942.cells (n := 3) rfl) rfl (sd rfl (yl_loadN (cs := [.int .i64 ((s_JoinDiffs p_0 p_1).1.From), .int .i64 ((s_JoinDiffs p_0 p_1).1.To), .slice A50_256 (((s_JoinDiffs p_0 p_1).1.List).length) c50_257]) Try.ty85 rfl rfl ((Box.ex (Box.ex (Box.mut (Box.ex q644 hE659) hm664 (fun k hk => by simp only [InR, or_false] at hk; omega)) hE672) hE895).cells (n := 3) rfl) rfl (sd rfl (yl_call Try.en48 rfl (opvs_cons rfl (opvs_cons rfl opvs_nil)) (Cal.mono (c_l_eqDiff ((i_JoinDiffs p_0 p_1).1) ((s_JoinDiffs p_0 p_1).1) (RdS.up (OwnL.rd good_FeedItem h943) good_FeedItem) (RdS.up (OwnL.rd good_FeedItem (OwnL.ex good_FeedItem (OwnL.ex good_FeedItem (OwnL.mut good_FeedItem (OwnL.ex good_FeedItem q656 hE659) hm664 (fun k hk => by simp only [InR, or_false] at hk; omega)) hE672) hE895)) good_FeedItem)) ?_))))))))))))
              rintro v985 w984 ⟨rfl, hE986⟩
              have hE986z := Ex.size hE986
              refine sd rfl (yl_not rfl rfl (sd rfl (yl_move rfl rfl (sy rfl rfl (not_t hb382) (yl_move rfl rfl (sy rfl rfl (not_t hb382) (yl_move rfl rfl (sy rfl rfl (not_t hb382) (yl_bneq Try.un4 rfl rfl rfl (sd rfl (yl_pick_f rfl rfl (not_t hb382) rfl (SeqR.done (tn (CW.cond_f rfl (not_t hb383) ?_))))))))))))))
              refine CW.skip (tn (CW.seq (CW.region (sd rfl (yl_assign rfl rfl (SeqR.done (tn (CW.seq (CW.region ?_)))))))))
              refine sd rfl (yl_loadN (cs := [.int .i64 ((i_JoinDiffs p_0 p_1).1.From), .int .i64 ((i_JoinDiffs p_0 p_1).1.To), .slice A343 (((i_JoinDiffs p_0 p_1).1.List).length) c343]) Try.ty85 rfl rfl ((Box.ex (Box.ex (Box.ex q667 hE672) hE895) hE986).cells (n := 3) rfl) rfl (sd rfl (yl_move rfl rfl ?_)))
              have q993 := OwnL.ex good_FeedItem (OwnL.ex good_FeedItem (OwnL.ex good_FeedItem h665 hE672) hE895) hE986
              have hle990 := OwnL.len q993
              refine sd rfl (yl_call Try.en50 rfl (opvs_cons rfl (opvs_cons rfl opvs_nil)) (Cal.mono (Cal.args (by rw [← hle990] <;> rfl) (c_l_heldDiff (⟨(i_JoinDiffs p_0 p_1).1.From, (i_JoinDiffs p_0 p_1).1.To, (l_markDiff ((i_JoinDiffs p_0 p_1).1) 1).2.List⟩ : DDiff) 1 (RdS.fix (RdS.up (OwnL.rd good_FeedItem q993) good_FeedItem)) (by first | omega | assumption | (simp only [IntKind.wrap_i64] at *; omega)))) ?_))
              rintro v996 w995 ⟨rfl, hE997⟩
              have hE997z := Ex.size hE997
              have hrf998 := rf_heldDiff (⟨(i_JoinDiffs p_0 p_1).1.From, (i_JoinDiffs p_0 p_1).1.To, (l_markDiff ((i_JoinDiffs p_0 p_1).1) 1).2.List⟩ : DDiff) 1 (by first | omega | assumption | (simp only [IntKind.wrap_i64] at *; omega))
              refine sd rfl (yl_assign rfl rfl (SeqR.done (tn (CW.seq (CW.seq (CW.region (sd rfl (yl_move rfl rfl (sd rfl (yl_lss rfl rfl rfl (SeqR.done ?_)))))))))))
              refine tn (CW.cond_f rfl hb674 (CW.skip (tn (CW.seq (CW.seq (CW.region (sd rfl (yl_move rfl rfl (sd rfl (yl_move rfl rfl ?_))))))))))
              refine sd rfl (yl_neq rfl rfl rfl (SeqR.done (tn (CW.cond_f rfl (not_t hb698) (CW.skip (tn (CW.seq (CW.region (sd rfl (yl_assign rfl rfl ?_))))))))))
              refine SeqR.done (tn (CW.ret (rr rfl (.cons rfl .nil) ?_)))
              have hM999 : (l_FnExactJoinDiffs p_0 p_1) = (true) := by simp only [l_FnExactJoinDiffs, hb21, hb33, hb382, hb383, hb490, hb595, hb614, hb674, hb698, cond_true, cond_false, loopE_done, loopE_ret]
              rw [hM999]
              have q1017 := Ex.mut (Ex.trans (Ex.trans (Ex.trans (Below.only (Ex.trans (Ex.trans (Below.only (Ex.trans (Ex.trans (Below.only (Ex.trans (Ex.trans (Ex.trans (Ex.trans (Ex.trans (Ex.trans (Ex.trans (Ex.refl w) hE8) hE14) hE20) hE32) hE215) hE297) hE304) hO307 (by omega)) hE319) hE326) hO329 (by omega)) hE346) hE353) hO356 (by omega)) hE381) hE472) hE577) hm602 (fun k hk => by simp only [InR, or_false] at hk; omega)
              exact ⟨rfl, (Ex.trans (Ex.trans (Ex.trans (Ex.trans (Ex.mut (Ex.trans (Ex.mut q1017 hm611 (fun k hk => by simp only [InR, or_false] at hk; omega)) hE659) hm664 (fun k hk => by simp only [InR, or_false] at hk; omega)) hE672) hE895) hE986) hE997)⟩
            ·have hb698p := dec_f hb698
             refine CW.cond_t rfl (not_f hb698) (CW.seq (CW.region (sd rfl (yl_assign rfl rfl (SeqR.done (tn (CW.ret (tr (rr rfl (.cons rfl .nil) ?_)))))))))
             have hM1025 : (l_FnExactJoinDiffs p_0 p_1) = (false) := by simp only [l_FnExactJoinDiffs, hb21, hb33, hb382, hb383, hb490, hb595, hb614, hb674, hb698, cond_true, cond_false, loopE_done, loopE_ret]
             rw [hM1025]
             have q1043 := Ex.mut (Ex.trans (Ex.trans (Ex.trans (Below.only (Ex.trans (Ex.trans (Below.only (Ex.trans (Ex.trans (Below.only (Ex.trans (Ex.trans (Ex.trans (Ex.trans (Ex.trans (Ex.trans (Ex.trans (Ex.refl w) hE8) hE14) hE20) hE32) hE215) hE297) hE304) hO307 (by omega)) hE319) hE326) hO329 (by omega)) hE346) hE353) hO356 (by omega)) hE381) hE472) hE577) hm602 (fun k hk => by simp only [InR, or_false] at hk; omega)
             exact ⟨rfl, (Ex.trans (Ex.mut (Ex.trans (Ex.mut q1043 hm611 (fun k hk => by simp only [InR, or_false] at hk; omega)) hE659) hm664 (fun k hk => by simp only [InR, or_false] at hk; omega)) hE672)⟩
         ·refine CW.cond_t rfl (not_f hb595) (CW.seq (CW.region (sd rfl (yl_assign rfl rfl (SeqR.done (tn (CW.ret (tr (rr rfl (.cons rfl .nil) ?_)))))))))
          have hM1048 : (l_FnExactJoinDiffs p_0 p_1) = (false) := by simp only [l_FnExactJoinDiffs, hb21, hb33, hb382, hb383, hb490, hb595, cond_true, cond_false, loopE_done, loopE_ret]
          rw [hM1048]
          exact ⟨rfl, (Ex.trans (Ex.trans (Ex.trans (Below.only (Ex.trans (Ex.trans (Below.only (Ex.trans (Ex.trans (Below.only (Ex.trans (Ex.trans (Ex.trans (Ex.trans (Ex.trans (Ex.trans (Ex.trans (Ex.refl w) hE8) hE14) hE20) hE32) hE215) hE297) hE304) hO307 (by omega)) hE319) hE326) hO329 (by omega)) hE346) hE353) hO356 (by omega)) hE381) hE472) hE577)⟩
       ·refine CW.cond_t rfl (not_f hb490) (CW.seq (CW.region (sd rfl (yl_assign rfl rfl (SeqR.done (tn (CW.ret (tr (rr rfl (.cons rfl .nil) ?_)))))))))
        have hM1066 : (l_FnExactJoinDiffs p_0 p_1) = (false) := by simp only [l_FnExactJoinDiffs, hb21, hb33, hb382, hb383, hb490, cond_true, cond_false, loopE_done, loopE_ret]
        rw [hM1066]
        exact ⟨rfl, (Ex.trans (Ex.trans (Below.only (Ex.trans (Ex.trans (Below.only (Ex.trans (Ex.trans (Below.only (Ex.trans (Ex.trans (Ex.trans (Ex.trans (Ex.trans (Ex.trans (Ex.trans (Ex.refl w) hE8) hE14) hE20) hE32) hE215) hE297) hE304) hO307 (by omega)) hE319) hE326) hO329 (by omega)) hE346) hE353) hO356 (by omega)) hE381) hE472)⟩
     ·refine CW.cond_t rfl (not_f hb383) (CW.seq (CW.region (sd rfl (yl_assign rfl rfl (SeqR.done (tn (CW.ret (tr (rr rfl (.cons rfl .nil) ?_)))))))))
      have hM1083 : (l_FnExactJoinDiffs p_0 p_1) = (false) := by simp only [l_FnExactJoinDiffs, hb21, hb33, hb382, hb383, cond_true, cond_false, loopE_done, loopE_ret]
      rw [hM1083]
      exact ⟨rfl, (Ex.trans (Below.only (Ex.trans (Ex.trans (Below.only (Ex.trans (Ex.trans (Below.only (Ex.trans (Ex.trans (Ex.trans (Ex.trans (Ex.trans (Ex.trans (Ex.trans (Ex.refl w) hE8) hE14) hE20) hE32) hE215) hE297) hE304) hO307 (by omega)) hE319) hE326) hO329 (by omega)) hE346) hE353) hO356 (by omega)) hE381)⟩
    ·refine sz rfl rfl (not_f hb382) (sz rfl rfl (not_f hb382) (sz rfl rfl (not_f hb382) (sd rfl (yl_pick_t rfl rfl (not_f hb382) rfl (SeqR.done (tn (CW.cond_t rfl rfl (CW.seq (CW.region ?_)))))))))
     refine sd rfl (yl_assign rfl rfl (SeqR.done (tn (CW.ret (tr (rr rfl (.cons rfl .nil) ?_))))))
     have hM1099 : (l_FnExactJoinDiffs p_0 p_1) = (false) := by simp only [l_FnExactJoinDiffs, hb21, hb33, hb382, cond_true, cond_false, loopE_done, loopE_ret]
     rw [hM1099]
     exact ⟨rfl, (Ex.trans (Below.only (Ex.trans (Ex.trans (Below.only (Ex.trans (Ex.trans (Below.only (Ex.trans (Ex.trans (Ex.trans (Ex.trans (Ex.trans (Ex.trans (Ex.trans (Ex.refl w) hE8) hE14) hE20) hE32) hE215) hE297) hE304) hO307 (by omega)) hE319) hE326) hO329 (by omega)) hE346) hE353) hO356 (by omega)) hE381)⟩
end Go.Proofs.Ytdbobbmagmcpnaa
