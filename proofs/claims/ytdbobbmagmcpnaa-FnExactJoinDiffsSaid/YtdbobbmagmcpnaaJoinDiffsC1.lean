/- Join Diffs: what each call returns, part 1. -/
import Derived.Test.YtdbobbmagmcpnaaJoinDiffsL
import Derived.Test.YtdbobbmagmcpnaaJoinDiffsF
import Derived.Test.YtdbobbmagmcpnaaJoinDiffsW
set_option linter.unusedVariables false
set_option linter.unusedSimpArgs false
namespace Go.Proofs.Ytdbobbmagmcpnaa
open Go.RowKit Go.X
set_option maxRecDepth 100000 in
set_option maxHeartbeats 2000000 in
theorem c_l_szFeedItem {w : World} (p_a : DFeedItem) (p_left : Int) : Cal Try.prog 147 #[.agg #[.int .i64 (p_a.Time), .int .i64 (p_a.Group), .string (bs (p_a.Key)), .string (bs (p_a.Val)), .bool (p_a.Gone)], .int .i64 (p_left)] w fun v w' => v = .int .i64 ((l_szFeedItem p_a p_left)) ∧ Ex w w' := by
 refine Cal.of (vs := [.agg #[.int .i64 (p_a.Time), .int .i64 (p_a.Group), .string (bs (p_a.Key)), .string (bs (p_a.Val)), .bool (p_a.Gone)], .int .i64 (p_left)]) Try.func147 rfl Try.ntmps147 rfl (CW.seq (CW.region (sd rfl (yl_box (cs := [.int .i64 (p_a.Time), .int .i64 (p_a.Group), .string (bs (p_a.Key)), .string (bs (p_a.Val)), .bool (p_a.Gone)]) rfl rfl rfl ?_))))
 intro b1 w2 hs3 hz4 hB5 hE6
 refine sd rfl (yl_assign rfl rfl (SeqR.done (tn (CW.seq (CW.region (sd rfl (yl_move rfl rfl (sd rfl (yl_fieldAddr Try.fd187_2 rfl rfl (sd rfl (yl_load1 Try.ty9 rfl rfl ((hB5.cell 2).trans rfl) (sd rfl (yl_slen Try.un9 (a := p_a.Key) rfl rfl ?_)))))))))))))
 refine sd rfl (yl_sub rfl rfl rfl (sd rfl (yl_assign rfl rfl (SeqR.done (tn (CW.seq (CW.seq (CW.region (sd rfl (yl_move rfl rfl (sd rfl (yl_lss rfl rfl rfl ?_))))))))))))
 refine SeqR.done (tn (bcase (decide ((IntKind.wrap .i64 (p_left - (p_a.Key.length : Int))) < 0)) (fun hb7 => ?_) (fun hb7 => ?_)))
 ·have hb7p := dec_t hb7
  refine CW.cond_t rfl hb7 (CW.seq (CW.region (sd rfl (yl_assign rfl rfl (SeqR.done (tn (CW.ret (tr (rr rfl (.cons rfl .nil) ?_)))))))))
  have hM8 : (l_szFeedItem p_a p_left) = (-1) := by simp only [l_szFeedItem, hb7, cond_true, cond_false, loopE_done, loopE_ret]
  rw [hM8]
  exact ⟨rfl, (Ex.trans (Ex.refl w) hE6)⟩
 ·have hb7p := dec_f hb7
  refine CW.cond_f rfl hb7 (CW.skip (tn (CW.seq (CW.region (sd rfl (yl_move rfl rfl (sd rfl (yl_fieldAddr Try.fd187_3 rfl rfl (sd rfl (yl_load1 Try.ty9 rfl rfl ((hB5.cell 3).trans rfl) (sd rfl (yl_slen Try.un9 (a := p_a.Val) rfl rfl ?_))))))))))))
  refine sd rfl (yl_sub rfl rfl rfl (sd rfl (yl_assign rfl rfl (SeqR.done (tn (CW.seq (CW.seq (CW.region (sd rfl (yl_move rfl rfl (sd rfl (yl_lss rfl rfl rfl ?_))))))))))))
  refine SeqR.done (tn (bcase (decide ((IntKind.wrap .i64 ((IntKind.wrap .i64 (p_left - (p_a.Key.length : Int))) - (p_a.Val.length : Int))) < 0)) (fun hb10 => ?_) (fun hb10 => ?_)))
  ·have hb10p := dec_t hb10
   refine CW.cond_t rfl hb10 (CW.seq (CW.region (sd rfl (yl_assign rfl rfl (SeqR.done (tn (CW.ret (tr (rr rfl (.cons rfl .nil) ?_)))))))))
   have hM11 : (l_szFeedItem p_a p_left) = (-1) := by simp only [l_szFeedItem, hb7, hb10, cond_true, cond_false, loopE_done, loopE_ret]
   rw [hM11]
   exact ⟨rfl, (Ex.trans (Ex.refl w) hE6)⟩
  ·have hb10p := dec_f hb10
   refine CW.cond_f rfl hb10 (CW.skip (tn (CW.seq (CW.region (sd rfl (yl_move rfl rfl (sd rfl (yl_assign rfl rfl (SeqR.done (tn ?_))))))))))
   refine CW.ret (rr rfl (.cons rfl .nil) ?_)
   have hM13 : (l_szFeedItem p_a p_left) = (IntKind.wrap .i64 ((IntKind.wrap .i64 (p_left - (p_a.Key.length : Int))) - (p_a.Val.length : Int))) := by simp only [l_szFeedItem, hb7, hb10, cond_true, cond_false, loopE_done, loopE_ret]
   rw [hM13]
   exact ⟨rfl, (Ex.trans (Ex.refl w) hE6)⟩
set_option maxRecDepth 100000 in
set_option maxHeartbeats 2000000 in
theorem c_l_szFeedItemS {A1 : Option Addr} {c1 : Nat} {w : World} (p_a : List DFeedItem) (p_left : Int) (h1 : RdS w (Iv 0 w.heap.size) (RF e_FeedItem) 5 A1 p_a.length c1 p_a) : Cal Try.prog 97 #[.slice A1 p_a.length c1, .int .i64 (p_left)] w fun v w' => v = .int .i64 ((l_szFeedItemS p_a p_left)) ∧ Ex w w' := by
 refine Cal.of (vs := [.slice A1 p_a.length c1, .int .i64 (p_left)]) Try.func97 rfl Try.ntmps97 rfl (CW.seq (CW.region (sd rfl (yl_assign rfl rfl (SeqR.done (tn (CW.seq (CW.region (sd rfl (yl_move rfl rfl ?_))))))))))
 refine sd rfl (yl_move rfl rfl (sd rfl (yl_len Try.un79 rfl rfl (sd rfl (yl_sub rfl rfl rfl (sd rfl (yl_assign rfl rfl (SeqR.done (tn (CW.seq (CW.seq (CW.region ?_))))))))))))
 refine sd rfl (yl_move rfl rfl (sd rfl (yl_lss rfl rfl rfl (SeqR.done (tn (bcase (decide ((IntKind.wrap .i64 (p_left - (p_a.length : Int))) < 0)) (fun hb2 => ?_) (fun hb2 => ?_)))))))
 ·have hb2p := dec_t hb2
  refine CW.cond_t rfl hb2 (CW.seq (CW.region (sd rfl (yl_assign rfl rfl (SeqR.done (tn (CW.ret (tr (rr rfl (.cons rfl .nil) ?_)))))))))
  have hM3 : (l_szFeedItemS p_a p_left) = (-1) := by simp only [l_szFeedItemS, hb2, cond_true, cond_false, loopE_done, loopE_ret]
  rw [hM3]
  exact ⟨rfl, (Ex.refl w)⟩
 ·have hb2p := dec_f hb2
  refine CW.cond_f rfl hb2 (CW.skip (tn (CW.seq (CW.seq (CW.region (sd rfl (yl_assign rfl rfl (SeqR.done (tn ?_)))))))))
  refine CW.block (CW.loop (fun m6 L7 w8 => ∃ (k4 : Nat) (x5 : Int), m6 = p_a.length - k4 ∧ k4 ≤ p_a.length ∧ w.heap.size ≤ w8.heap.size ∧ lkp L7 0 = some (.slice A1 p_a.length c1) ∧ lkp L7 1 = some (.int .i64 (x5)) ∧ lkp L7 5 = some (.int .i64 ((k4 : Int))) ∧ RdS w8 (Iv 0 w.heap.size) (RF e_FeedItem) 5 A1 p_a.length c1 p_a ∧ Ex w w8 ∧ loopM (B_l_szFeedItemS_0 p_a p_left) (p_a.length - k4) k4 (x5) = loopM (B_l_szFeedItemS_0 p_a p_left) (p_a.length - 0) 0 (IntKind.wrap .i64 (p_left - (p_a.length : Int)))) (p_a.length - 0) ?_ ?_)
  ·exact ⟨0, IntKind.wrap .i64 (p_left - (p_a.length : Int)), rfl, (by omega), Nat.le_refl _, rfl, rfl, rfl, h1, (Ex.refl w), rfl⟩
  ·rintro m9 L10 w11 ⟨k4, x5, rfl, hk12, hsz14, hl15, hl16, hl17, hf18, hf19, hI13⟩
   refine CW.sub (Sub.cons hl15 (Sub.cons hl16 (Sub.cons hl17 (Sub.nil _)))) ?_
   have hf19z := Ex.size hf19
   have hbg20 := RdS.big hf18
   rcases Nat.lt_or_ge k4 p_a.length with hlt21 | hlt21
   ·refine CW.seq (CW.seq (CW.region (sd rfl (yl_move rfl rfl (sd rfl (yl_move rfl rfl (sd rfl (yl_len Try.un79 rfl rfl (sd rfl (yl_lss rfl rfl rfl (SeqR.done (tn ?_))))))))))))
    refine CW.cond_t rfl (lt_t hlt21) (CW.skip (tn (CW.seq (CW.block (CW.seq (CW.region (sd rfl (yl_move rfl rfl (sd rfl (yl_move rfl rfl ?_))))))))))
    obtain ⟨eb22, eo22, ec22, eA22, eS22, ebl22, el22, eR22, eC22⟩ := RdS.atD hf18 d_FeedItem (i := k4) (by first | omega | assumption)
    obtain rfl := eR22
    have eC22 : Cells w11 eb22 (eo22 + k4 * 5) [.int .i64 ((p_a.getD k4 d_FeedItem).Time), .int .i64 ((p_a.getD k4 d_FeedItem).Group), .string (bs ((p_a.getD k4 d_FeedItem).Key)), .string (bs ((p_a.getD k4 d_FeedItem).Val)), .bool ((p_a.getD k4 d_FeedItem).Gone)] := eC22
    refine sd rfl (yl_indexAddrN Try.un79 Try.ty187 rfl rfl rfl eA22 (by first | omega | assumption | (simp only [IntKind.wrap_i64] at *; omega)) (sd rfl (yl_loadN (cs := [.int .i64 ((p_a.getD k4 d_FeedItem).Time), .int .i64 ((p_a.getD k4 d_FeedItem).Group), .string (bs ((p_a.getD k4 d_FeedItem).Key)), .string (bs ((p_a.getD k4 d_FeedItem).Val)), .bool ((p_a.getD k4 d_FeedItem).Gone)]) Try.ty187 rfl rfl eC22 rfl (sd rfl (yl_move rfl rfl (sd rfl (yl_call Try.en147 rfl (opvs_cons rfl (opvs_cons rfl opvs_nil)) (Cal.mono (c_l_szFeedItem (p_a.getD k4 d_FeedItem) x5) ?_))))))))
    rintro v24 w23 ⟨rfl, hE25⟩
    have hE25z := Ex.size hE25
    refine sd rfl (yl_assign rfl rfl (SeqR.done (tn (CW.seq (CW.region (sd rfl (yl_move rfl rfl (sd rfl (yl_lss rfl rfl rfl (SeqR.done (tn ?_)))))))))))
    refine bcase (decide ((l_szFeedItem (p_a.getD k4 d_FeedItem) x5) < 0)) (fun hb26 => ?_) (fun hb26 => ?_)
    ·have hb26p := dec_t hb26
     refine CW.cond_t rfl hb26 (CW.seq (CW.region (sd rfl (yl_assign rfl rfl (SeqR.done (tn (CW.ret (br (tr ?_)))))))))
     refine tr ?_
     have hB28 : B_l_szFeedItemS_0 p_a p_left k4 (x5) = .ret (-1) := by simp only [B_l_szFeedItemS_0, hb2, hb26, cond_true, cond_false, loopE_done, loopE_ret]
     have hL27 : loopM (B_l_szFeedItemS_0 p_a p_left) (p_a.length - 0) 0 (IntKind.wrap .i64 (p_left - (p_a.length : Int))) = .ret (-1) := hI13.symm.trans (loopM.ret hlt21 hB28)
     refine br (tr (rr rfl (.cons rfl .nil) ?_))
     have hM29 : (l_szFeedItemS p_a p_left) = (-1) := by simp only [l_szFeedItemS, hb2, hb26, hL27, cond_true, cond_false, loopE_done, loopE_ret]
     rw [hM29]
     exact ⟨rfl, (Ex.trans hf19 hE25)⟩
    ·have hb26p := dec_f hb26
     refine CW.cond_f rfl hb26 (CW.skip (bn (tn (CW.region (sd rfl (yl_move rfl rfl (sd rfl (yl_inc rfl rfl rfl (by omega) (sd rfl (yl_assign rfl rfl (SeqR.done ?_)))))))))))
     refine tn ?_
     have hB31 : B_l_szFeedItemS_0 p_a p_left k4 (x5) = .cont ((l_szFeedItem (p_a.getD k4 d_FeedItem) x5)) := by simp only [B_l_szFeedItemS_0, hb2, hb26, cond_true, cond_false, loopE_done, loopE_ret]
     exact ⟨p_a.length - (k4 + 1), by omega, k4 + 1, (l_szFeedItem (p_a.getD k4 d_FeedItem) x5), rfl, hlt21, (by omega), rfl, rfl, rfl, (RdS.ex good_FeedItem hf18 hE25), (Ex.trans hf19 hE25), (loopM.cont hlt21 hB31).symm.trans hI13⟩
   ·refine CW.seq (CW.seq (CW.region (sd rfl (yl_move rfl rfl (sd rfl (yl_move rfl rfl (sd rfl (yl_len Try.un79 rfl rfl (sd rfl (yl_lss rfl rfl rfl (SeqR.done (tn ?_))))))))))))
    refine CW.cond_f rfl (lt_f hlt21) (CW.exit (tx (tx ?_)))
    have hL34 : loopM (B_l_szFeedItemS_0 p_a p_left) (p_a.length - 0) 0 (IntKind.wrap .i64 (p_left - (p_a.length : Int))) = .done (x5) := hI13.symm.trans (loopM.stop hlt21)
    refine bx (tn (CW.seq (CW.region (sd rfl (yl_move rfl rfl (sd rfl (yl_assign rfl rfl (SeqR.done (tn (CW.ret ?_))))))))))
    refine rr rfl (.cons rfl .nil) ?_
    have hM35 : (l_szFeedItemS p_a p_left) = (x5) := by simp only [l_szFeedItemS, hb2, hL34, cond_true, cond_false, loopE_done, loopE_ret]
    rw [hM35]
    exact ⟨rfl, hf19⟩
set_option maxRecDepth 100000 in
set_option maxHeartbeats 2000000 in
theorem c_l_szDiff {A1 : Option Addr} {c1 : Nat} {w : World} (p_a : DDiff) (p_left : Int) (h1 : RdS w (Iv 0 w.heap.size) (RF e_FeedItem) 5 A1 p_a.List.length c1 p_a.List) : Cal Try.prog 44 #[.agg #[.int .i64 (p_a.From), .int .i64 (p_a.To), .slice A1 p_a.List.length c1], .int .i64 (p_left)] w fun v w' => v = .int .i64 ((l_szDiff p_a p_left)) ∧ Ex w w' := by
 refine Cal.of (vs := [.agg #[.int .i64 (p_a.From), .int .i64 (p_a.To), .slice A1 p_a.List.length c1], .int .i64 (p_left)]) Try.func44 rfl Try.ntmps44 rfl (CW.seq (CW.region (sd rfl (yl_box (cs := [.int .i64 (p_a.From), .int .i64 (p_a.To), .slice A1 p_a.List.length c1]) rfl rfl rfl ?_))))
 intro b2 w3 hs4 hz5 hB6 hE7
 refine sd rfl (yl_assign rfl rfl (SeqR.done (tn (CW.seq (CW.region (sd rfl (yl_fieldAddr Try.fd81_2 rfl rfl (sd rfl (yl_load1 Try.ty79 rfl rfl ((hB6.cell 2).trans rfl) (sd rfl (yl_move rfl rfl (sd rfl (yl_call Try.en97 rfl (opvs_cons rfl (opvs_cons rfl opvs_nil)) (Cal.mono (c_l_szFeedItemS p_a.List p_left (RdS.up (RdS.ex good_FeedItem h1 hE7) good_FeedItem)) ?_))))))))))))))
 rintro v10 w9 ⟨rfl, hE11⟩
 have hE11z := Ex.size hE11
 refine sd rfl (yl_assign rfl rfl (SeqR.done (tn (CW.seq (CW.seq (CW.region (sd rfl (yl_move rfl rfl (sd rfl (yl_lss rfl rfl rfl (SeqR.done ?_)))))))))))
 refine tn (bcase (decide ((l_szFeedItemS p_a.List p_left) < 0)) (fun hb12 => ?_) (fun hb12 => ?_))
 ·have hb12p := dec_t hb12
  refine CW.cond_t rfl hb12 (CW.seq (CW.region (sd rfl (yl_assign rfl rfl (SeqR.done (tn (CW.ret (tr (rr rfl (.cons rfl .nil) ?_)))))))))
  have hM13 : (l_szDiff p_a p_left) = (-1) := by simp only [l_szDiff, hb12, cond_true, cond_false, loopE_done, loopE_ret]
  rw [hM13]
  exact ⟨rfl, (Ex.trans (Ex.trans (Ex.refl w) hE7) hE11)⟩
 ·have hb12p := dec_f hb12
  refine CW.cond_f rfl hb12 (CW.skip (tn (CW.seq (CW.region (sd rfl (yl_move rfl rfl (sd rfl (yl_assign rfl rfl (SeqR.done (tn ?_))))))))))
  refine CW.ret (rr rfl (.cons rfl .nil) ?_)
  have hM16 : (l_szDiff p_a p_left) = ((l_szFeedItemS p_a.List p_left)) := by simp only [l_szDiff, hb12, cond_true, cond_false, loopE_done, loopE_ret]
  rw [hM16]
  exact ⟨rfl, (Ex.trans (Ex.trans (Ex.refl w) hE7) hE11)⟩
set_option maxRecDepth 100000 in
set_option maxHeartbeats 2000000 in
theorem c_s_l1In {w : World} (p_n : Int) (p_lo : Int) (p_hi : Int) : Cal Try.prog 72 #[.int .i64 (p_n), .int .i64 (p_lo), .int .i64 (p_hi)] w fun v w' => v = .bool ((s_l1In p_n p_lo p_hi)) ∧ Ex w w' := by
 refine Cal.of (vs := [.int .i64 (p_n), .int .i64 (p_lo), .int .i64 (p_hi)]) Try.func72 rfl Try.ntmps72 rfl (CW.seq (CW.region (sd rfl (yl_assign rfl rfl (SeqR.done (tn (CW.seq (CW.region (sd rfl (yl_move rfl rfl ?_))))))))))
 refine sd rfl (yl_move rfl rfl (sd rfl (yl_geq rfl rfl rfl (sd rfl (yl_move rfl rfl (bcase (decide (p_lo ≤ p_n)) (fun hb1 => ?_) (fun hb1 => ?_)))))))
 ·have hb1p := dec_t hb1
  refine sy rfl rfl hb1 (yl_move rfl rfl (sy rfl rfl hb1 (yl_move rfl rfl (sy rfl rfl hb1 (yl_leq rfl rfl rfl (sd rfl (yl_pick_t rfl rfl hb1 rfl (sd rfl (yl_assign rfl rfl (SeqR.done (tn (CW.ret (rr rfl (.cons rfl .nil) ?_)))))))))))))
  have hM2 : (s_l1In p_n p_lo p_hi) = (decide (p_n ≤ p_hi)) := by simp only [s_l1In, hb1, cond_true, cond_false, loopE_done, loopE_ret]
  rw [hM2]
  exact ⟨rfl, (Ex.refl w)⟩
 ·have hb1p := dec_f hb1
  refine sz rfl rfl hb1 (sz rfl rfl hb1 (sz rfl rfl hb1 (sd rfl (yl_pick_f rfl rfl hb1 rfl (sd rfl (yl_assign rfl rfl (SeqR.done (tn (CW.ret (rr rfl (.cons rfl .nil) ?_))))))))))
  have hM3 : (s_l1In p_n p_lo p_hi) = (false) := by simp only [s_l1In, hb1, cond_true, cond_false, loopE_done, loopE_ret]
  rw [hM3]
  exact ⟨rfl, (Ex.refl w)⟩
set_option maxRecDepth 100000 in
set_option maxHeartbeats 2000000 in
theorem c_s_l3Bytes {w : World} (p_s : Str) (p_more : Str) (o1 : okS p_s) (o2 : okS p_more) : Cal Try.prog 210 #[.string (bs (p_s)), .string (bs (p_more))] w fun v w' => v = .bool ((s_l3Bytes p_s p_more)) ∧ Ex w w' := by
 have hol3 : p_s.length ≤ 1073741824 := o1
 have hol4 : p_more.length ≤ 1073741824 := o2
 refine Cal.of (vs := [.string (bs (p_s)), .string (bs (p_more))]) Try.func210 rfl Try.ntmps210 rfl (CW.seq (CW.region (sd rfl (yl_assign rfl rfl (SeqR.done (tn (CW.seq (CW.seq (CW.region ?_)))))))))
 refine sd rfl (yl_assign rfl rfl (SeqR.done (tn (CW.block (CW.loop (fun m6 L7 w8 => ∃ (k5 : Nat), m6 = p_s.length - k5 ∧ k5 ≤ p_s.length ∧ w.heap.size ≤ w8.heap.size ∧ lkp L7 0 = some (.string (bs (p_s))) ∧ lkp L7 1 = some (.string (bs (p_more))) ∧ lkp L7 5 = some (.int .i64 ((k5 : Int))) ∧ Ex w w8 ∧ loopM (B_s_l3Bytes_0 p_s p_more) (p_s.length - k5) k5 () = loopM (B_s_l3Bytes_0 p_s p_more) (p_s.length - 0) 0 ()) (p_s.length - 0) ?_ ?_)))))
 ·exact ⟨0, rfl, (by omega), Nat.le_refl _, rfl, rfl, rfl, (Ex.refl w), rfl⟩
 ·rintro m9 L10 w11 ⟨k5, rfl, hk12, hsz14, hl15, hl16, hl17, hf18, hI13⟩
  refine CW.sub (Sub.cons hl15 (Sub.cons hl16 (Sub.cons hl17 (Sub.nil _)))) ?_
  have hf18z := Ex.size hf18
  have hbg19 : p_s.length ≤ 1073741824 := o1
  rcases Nat.lt_or_ge k5 p_s.length with hlt20 | hlt20
  ·refine CW.seq (CW.seq (CW.region (sd rfl (yl_move rfl rfl (sd rfl (yl_move rfl rfl (sd rfl (yl_slen Try.un9 (a := p_s) rfl rfl (sd rfl (yl_lss rfl rfl rfl (SeqR.done (tn ?_))))))))))))
   refine CW.cond_t rfl (lt_t hlt20) (CW.skip (tn (CW.seq (CW.block (CW.seq (CW.region (sd rfl (yl_move rfl rfl (sd rfl (yl_move rfl rfl ?_))))))))))
   refine sd rfl (yl_sindexN Try.un9 (a := p_s) rfl rfl rfl (by first | omega | assumption | (simp only [IntKind.wrap_i64] at *; omega)) (sd rfl (yl_geq rfl rfl rfl (sd rfl (yl_move rfl rfl (bcase (decide (97 ≤ ((p_s.getD k5 0).toNat : Int))) (fun hb21 => ?_) (fun hb21 => ?_)))))))
   ·have hb21p := dec_t hb21
    refine sy rfl rfl hb21 (yl_move rfl rfl (sy rfl rfl hb21 (yl_move rfl rfl (sy rfl rfl hb21 (yl_sindexN Try.un9 (a := p_s) rfl rfl rfl (by first | omega | assumption | (simp only [IntKind.wrap_i64] at *; omega)) (sy rfl rfl hb21 (yl_leq rfl rfl rfl (sd rfl (yl_pick_t rfl rfl hb21 rfl (sd rfl (yl_move rfl rfl (bcase (decide (((p_s.getD k5 0).toNat : Int) ≤ 122)) (fun hb22 => ?_) (fun hb22 => ?_)))))))))))))
    ·have hb22p := dec_t hb22
     refine sz rfl rfl hb22 (sz rfl rfl hb22 (sz rfl rfl hb22 (sz rfl rfl hb22 (sz rfl rfl hb22 (sq rfl rfl (sq rfl rfl (sq rfl rfl (sq rfl rfl ?_))))))))
     refine sz rfl rfl hb22 (sd rfl (yl_pick_t rfl rfl hb22 rfl (sd rfl (yl_assign rfl rfl (SeqR.done (tn (CW.seq (CW.seq (CW.region (sd rfl (yl_assign rfl rfl ?_)))))))))))
     refine SeqR.done (tn (CW.block (CW.loop (fun m25 L26 w27 => ∃ (k23 : Nat) (x24 : Bool), m25 = p_more.length - k23 ∧ k23 ≤ p_more.length ∧ w11.heap.size ≤ w27.heap.size ∧ lkp L26 0 = some (.string (bs (p_s))) ∧ lkp L26 1 = some (.string (bs (p_more))) ∧ lkp L26 5 = some (.int .i64 ((k5 : Int))) ∧ lkp L26 6 = some (.bool (x24)) ∧ lkp L26 7 = some (.int .i64 ((k23 : Int))) ∧ lkp L26 19 = some (.string (bs (p_s))) ∧ lkp L26 20 = some (.int .i64 ((k5 : Int))) ∧ lkp L26 21 = some (.int .u8 (((p_s.getD k5 0).toNat : Int))) ∧ lkp L26 22 = some (.bool (decide (((p_s.getD k5 0).toNat : Int) ≤ 122))) ∧ lkp L26 25 = some (undef) ∧ lkp L26 26 = some (undef) ∧ lkp L26 27 = some (undef) ∧ lkp L26 28 = some (undef) ∧ lkp L26 29 = some (undef) ∧ lkp L26 30 = some (undef) ∧ lkp L26 31 = some (undef) ∧ lkp L26 32 = some (undef) ∧ lkp L26 33 = some (undef) ∧ lkp L26 34 = some (undef) ∧ Ex w w27 ∧ loopM (B_s_l3Bytes_1 p_s p_more k5) (p_more.length - k23) k23 (x24) = loopM (B_s_l3Bytes_1 p_s p_more k5) (p_more.length - 0) 0 (true)) (p_more.length - 0) ?_ ?_)))
     ·exact ⟨0, true, rfl, (by omega), Nat.le_refl _, rfl, rfl, rfl, rfl, rfl, rfl, rfl, rfl, rfl, rfl, rfl, rfl, rfl, rfl, rfl, rfl, rfl, rfl, rfl, hf18, rfl⟩
     ·rintro m28 L29 w30 ⟨k23, x24, rfl, hk31, hsz33, hl34, hl35, hl36, hl37, hl38, hl39, hl40, hl41, hl42, hl43, hl44, hl45, hl46, hl47, hl48, hl49, hl50, hl51, hl52, hf53, hI32⟩
      refine CW.sub (Sub.cons hl34 (Sub.cons hl35 (Sub.cons hl36 (Sub.cons hl37 (Sub.cons hl38 (Sub.cons hl39 (Sub.cons hl40 (Sub.cons hl41 (Sub.cons hl42 (Sub.cons hl43 (Sub.cons hl44 (Sub.cons hl45 (Sub.cons hl46 (Sub.cons hl47 (Sub.cons hl48 (Sub.cons hl49 (Sub.cons hl50 (Sub.cons hl51 (Sub.cons hl52 (Sub.nil _)))))))))))))))))))) ?_
      have hf53z := Ex.size hf53
      have hbg54 : p_more.length ≤ 1073741824 := o2
      rcases Nat.lt_or_ge k23 p_more.length with hlt55 | hlt55
      ·refine CW.seq (CW.seq (CW.region (sd rfl (yl_move rfl rfl (sd rfl (yl_move rfl rfl (sd rfl (yl_slen Try.un9 (a := p_more) rfl rfl (sd rfl (yl_lss rfl rfl rfl (SeqR.done (tn ?_))))))))))))
       refine CW.cond_t rfl (lt_t hlt55) (CW.skip (tn (CW.seq (CW.block (bcase (x24) (fun hb56 => ?_) (fun hb56 => ?_))))))
       ·refine CW.drawsI 11 (vgetI [DetI (.bool (x24)), DetI (.bool (x24)), DetI (undef), DetI (undef), DetI (undef), DetI (undef), DetI (undef), DetI (undef), DetI (undef), DetI (.bool (true)), DetI (.bool (true))]) Try.follows rfl rfl rfl rfl rfl rfl (vgetI_stable ⟨StableI.det _, StableI.det _, StableI.det _, StableI.det _, StableI.det _, StableI.det _, StableI.det _, StableI.det _, StableI.det _, StableI.det _, StableI.det _, trivial⟩) ⟨?_, ?_, ?_, ?_, ?_, ?_, ?_, ?_, ?_, ?_, ?_, trivial⟩ ?_
        ·exact fun _ _ h => os rfl ((yl_move rfl (h.old 6 _ rfl rfl) kI))
        ·exact fun _ _ h => os rfl ((yl_move rfl (h.dt 0 42 rfl rfl rfl) kI))
        ·exact fun _ _ h => OpR.skip rfl rfl (h.dt 1 43 rfl rfl rfl) hb56 ⟨rfl, Ex.refl _⟩
        ·exact fun _ _ h => OpR.skip rfl rfl (h.dt 1 43 rfl rfl rfl) hb56 ⟨rfl, Ex.refl _⟩
        ·exact fun _ _ h => OpR.skip rfl rfl (h.dt 1 43 rfl rfl rfl) hb56 ⟨rfl, Ex.refl _⟩
        ·exact fun _ _ h => OpR.skip rfl rfl (h.dt 1 43 rfl rfl rfl) hb56 ⟨rfl, Ex.refl _⟩
        ·exact fun _ _ h => OpR.skip rfl rfl (h.dt 1 43 rfl rfl rfl) hb56 ⟨rfl, Ex.refl _⟩
        ·exact fun _ _ h => OpR.skip rfl rfl (h.dt 1 43 rfl rfl rfl) hb56 ⟨rfl, Ex.refl _⟩
        ·exact fun _ _ h => OpR.skip rfl rfl (h.dt 1 43 rfl rfl rfl) hb56 ⟨rfl, Ex.refl _⟩
        ·exact fun _ _ h => os rfl ((yl_pick_t rfl (h.dt 1 43 rfl rfl rfl) hb56 rfl kI))
        ·exact fun _ _ h => os rfl ((yl_assign rfl (h.dt 9 51 rfl rfl rfl) kI))
        ·intro fl116 fh117 L113 w114 hp115
         have hE118 := hp115.ex
         have hE118z := Ex.size hE118
         refine SeqR.done (bn (tn (CW.sub (Sub.cons (d := 0) (hp115.old 0 _ rfl rfl) (Sub.cons (d := 1) (hp115.old 1 _ rfl rfl) (Sub.cons (d := 5) (hp115.old 5 _ rfl rfl) (Sub.cons (d := 6) (hp115.nt 10 6 rfl rfl rfl) (Sub.cons (d := 7) (hp115.old 7 _ rfl rfl) (Sub.cons (d := 19) (hp115.old 19 _ rfl rfl) (Sub.cons (d := 20) (hp115.old 20 _ rfl rfl) (Sub.cons (d := 21) (hp115.old 21 _ rfl rfl) (Sub.cons (d := 22) (hp115.old 22 _ rfl rfl) (Sub.cons (d := 25) (hp115.old 25 _ rfl rfl) (Sub.cons (d := 26) (hp115.old 26 _ rfl rfl) (Sub.cons (d := 27) (hp115.old 27 _ rfl rfl) (Sub.cons (d := 28) (hp115.old 28 _ rfl rfl) (Sub.cons (d := 29) (hp115.old 29 _ rfl rfl) (Sub.cons (d := 30) (hp115.old 30 _ rfl rfl) (Sub.cons (d := 31) (hp115.old 31 _ rfl rfl) (Sub.cons (d := 32) (hp115.old 32 _ rfl rfl) (Sub.cons (d := 33) (hp115.old 33 _ rfl rfl) (Sub.cons (d := 34) (hp115.old 34 _ rfl rfl) (Sub.cons (d := 44) (hp115.nt 2 44 rfl rfl rfl) (Sub.cons (d := 45) (hp115.nt 3 45 rfl rfl rfl) (Sub.cons (d := 46) (hp115.nt 4 46 rfl rfl rfl) (Sub.cons (d := 47) (hp115.nt 5 47 rfl rfl rfl) (Sub.cons (d := 48) (hp115.nt 6 48 rfl rfl rfl) (Sub.cons (d := 49) (hp115.nt 7 49 rfl rfl rfl) (Sub.cons (d := 50) (hp115.nt 8 50 rfl rfl rfl) (Sub.nil _))))))))))))))))))))))))))) (CW.region (sd rfl (yl_move rfl rfl (sd rfl (yl_inc rfl rfl rfl (by omega) (sd rfl (yl_assign rfl rfl (SeqR.done ?_)))))))))))
         refine tn ?_
         have hB145 : B_s_l3Bytes_1 p_s p_more k5 k23 (x24) = .cont (true) := by simp only [B_s_l3Bytes_1, hb21, hb22, hb56, cond_true, cond_false, loopE_done, loopE_ret]
         exact ⟨p_more.length - (k23 + 1), by omega, k23 + 1, true, rfl, hlt55, (by omega), rfl, rfl, rfl, rfl, rfl, rfl, rfl, rfl, rfl, rfl, rfl, rfl, rfl, rfl, rfl, rfl, rfl, rfl, rfl, (Ex.trans hf53 hE118), (loopM.cont hlt55 hB145).symm.trans hI32⟩
       ·refine CW.drawsI 11 (vgetI [DetI (.bool (x24)), DetI (.bool (x24)), DetI (.string (bs (p_s))), DetI (.int .i64 ((k5 : Int))), DetI (.int .u8 (((p_s.getD k5 0).toNat : Int))), DetI (.string (bs (p_more))), DetI (.int .i64 ((k23 : Int))), DetI (.int .u8 (((p_more.getD k23 0).toNat : Int))), DetI (.bool (decide (((p_s.getD k5 0).toNat : Int) = ((p_more.getD k23 0).toNat : Int)))), DetI (.bool (decide (((p_s.getD k5 0).toNat : Int) = ((p_more.getD k23 0).toNat : Int)))), DetI (.bool (decide (((p_s.getD k5 0).toNat : Int) = ((p_more.getD k23 0).toNat : Int))))]) Try.follows rfl rfl rfl rfl rfl rfl (vgetI_stable ⟨StableI.det _, StableI.det _, StableI.det _, StableI.det _, StableI.det _, StableI.det _, StableI.det _, StableI.det _, StableI.det _, StableI.det _, StableI.det _, trivial⟩) ⟨?_, ?_, ?_, ?_, ?_, ?_, ?_, ?_, ?_, ?_, ?_, trivial⟩ ?_
        ·exact fun _ _ h => os rfl ((yl_move rfl (h.old 6 _ rfl rfl) kI))
        ·exact fun _ _ h => os rfl ((yl_move rfl (h.dt 0 42 rfl rfl rfl) kI))
        ·exact fun _ _ h => OpR.want rfl rfl (h.dt 1 43 rfl rfl rfl) hb56 (Yl.sameI (yl_move rfl (h.old 0 _ rfl rfl) kI))
        ·exact fun _ _ h => OpR.want rfl rfl (h.dt 1 43 rfl rfl rfl) hb56 (Yl.sameI (yl_move rfl (h.old 5 _ rfl rfl) kI))
        ·intro L169 w170 hi171
         have hE172 := hi171.ex
         have hE172z := Ex.size hE172
         exact OpR.want rfl rfl (hi171.dt 1 43 rfl rfl rfl) hb56 (Yl.sameI (yl_sindexN Try.un9 (a := p_s) rfl (hi171.dt 2 44 rfl rfl rfl) (hi171.dt 3 45 rfl rfl rfl) (by first | omega | assumption | (simp only [IntKind.wrap_i64] at *; omega)) kI))
        ·exact fun _ _ h => OpR.want rfl rfl (h.dt 1 43 rfl rfl rfl) hb56 (Yl.sameI (yl_move rfl (h.old 1 _ rfl rfl) kI))
        ·exact fun _ _ h => OpR.want rfl rfl (h.dt 1 43 rfl rfl rfl) hb56 (Yl.sameI (yl_move rfl (h.old 7 _ rfl rfl) kI))
        ·intro L188 w189 hi190
         have hE191 := hi190.ex
         have hE191z := Ex.size hE191
         exact OpR.want rfl rfl (hi190.dt 1 43 rfl rfl rfl) hb56 (Yl.sameI (yl_sindexN Try.un9 (a := p_more) rfl (hi190.dt 5 47 rfl rfl rfl) (hi190.dt 6 48 rfl rfl rfl) (by first | omega | assumption | (simp only [IntKind.wrap_i64] at *; omega)) kI))
        ·exact fun _ _ h => OpR.want rfl rfl (h.dt 1 43 rfl rfl rfl) hb56 (Yl.sameI (yl_eql rfl (h.dt 4 46 rfl rfl rfl) (h.dt 7 49 rfl rfl rfl) kI))
        ·exact fun _ _ h => os rfl ((yl_pick_f rfl (h.dt 1 43 rfl rfl rfl) hb56 (h.dt 8 50 rfl rfl rfl) kI))
        ·exact fun _ _ h => os rfl ((yl_assign rfl (h.dt 9 51 rfl rfl rfl) kI))
        ·intro fl216 fh217 L213 w214 hp215
         have hE218 := hp215.ex
         have hE218z := Ex.size hE218
         refine SeqR.done (bn (tn (CW.sub (Sub.cons (d := 0) (hp215.old 0 _ rfl rfl) (Sub.cons (d := 1) (hp215.old 1 _ rfl rfl) (Sub.cons (d := 5) (hp215.old 5 _ rfl rfl) (Sub.cons (d := 6) (hp215.nt 10 6 rfl rfl rfl) (Sub.cons (d := 7) (hp215.old 7 _ rfl rfl) (Sub.cons (d := 19) (hp215.old 19 _ rfl rfl) (Sub.cons (d := 20) (hp215.old 20 _ rfl rfl) (Sub.cons (d := 21) (hp215.old 21 _ rfl rfl) (Sub.cons (d := 22) (hp215.old 22 _ rfl rfl) (Sub.cons (d := 25) (hp215.old 25 _ rfl rfl) (Sub.cons (d := 26) (hp215.old 26 _ rfl rfl) (Sub.cons (d := 27) (hp215.old 27 _ rfl rfl) (Sub.cons (d := 28) (hp215.old 28 _ rfl rfl) (Sub.cons (d := 29) (hp215.old 29 _ rfl rfl) (Sub.cons (d := 30) (hp215.old 30 _ rfl rfl) (Sub.cons (d := 31) (hp215.old 31 _ rfl rfl) (Sub.cons (d := 32) (hp215.old 32 _ rfl rfl) (Sub.cons (d := 33) (hp215.old 33 _ rfl rfl) (Sub.cons (d := 34) (hp215.old 34 _ rfl rfl) (Sub.cons (d := 44) (hp215.nt 2 44 rfl rfl rfl) (Sub.cons (d := 45) (hp215.nt 3 45 rfl rfl rfl) (Sub.cons (d := 46) (hp215.nt 4 46 rfl rfl rfl) (Sub.cons (d := 47) (hp215.nt 5 47 rfl rfl rfl) (Sub.cons (d := 48) (hp215.nt 6 48 rfl rfl rfl) (Sub.cons (d := 49) (hp215.nt 7 49 rfl rfl rfl) (Sub.cons (d := 50) (hp215.nt 8 50 rfl rfl rfl) (Sub.nil _))))))))))))))))))))))))))) (CW.region (sd rfl (yl_move rfl rfl (sd rfl (yl_inc rfl rfl rfl (by omega) (sd rfl (yl_assign rfl rfl (SeqR.done ?_)))))))))))
         refine tn ?_
         have hB245 : B_s_l3Bytes_1 p_s p_more k5 k23 (x24) = .cont (decide (((p_s.getD k5 0).toNat : Int) = ((p_more.getD k23 0).toNat : Int))) := by simp only [B_s_l3Bytes_1, hb21, hb22, hb56, cond_true, cond_false, loopE_done, loopE_ret]
         exact ⟨p_more.length - (k23 + 1), by omega, k23 + 1, decide (((p_s.getD k5 0).toNat : Int) = ((p_more.getD k23 0).toNat : Int)), rfl, hlt55, (by omega), rfl, rfl, rfl, rfl, rfl, rfl, rfl, rfl, rfl, rfl, rfl, rfl, rfl, rfl, rfl, rfl, rfl, rfl, rfl, (Ex.trans hf53 hE218), (loopM.cont hlt55 hB245).symm.trans hI32⟩
      ·refine CW.seq (CW.seq (CW.region (sd rfl (yl_move rfl rfl (sd rfl (yl_move rfl rfl (sd rfl (yl_slen Try.un9 (a := p_more) rfl rfl (sd rfl (yl_lss rfl rfl rfl (SeqR.done (tn ?_))))))))))))
       refine CW.cond_f rfl (lt_f hlt55) (CW.exit (tx (tx ?_)))
       have hL247 : loopM (B_s_l3Bytes_1 p_s p_more k5) (p_more.length - 0) 0 (true) = .done (x24) := hI32.symm.trans (loopM.stop hlt55)
       refine bx (tn (CW.seq (CW.region (sd rfl (yl_move rfl rfl (sd rfl (yl_not rfl rfl (SeqR.done (tn (bcase (x24) (fun hb248 => ?_) (fun hb248 => ?_)))))))))))
       ·refine CW.cond_f rfl (not_t hb248) (CW.skip (bn (tn (CW.region (sd rfl (yl_move rfl rfl (sd rfl (yl_inc rfl rfl rfl (by omega) (sd rfl (yl_assign rfl rfl (SeqR.done ?_)))))))))))
        refine tn ?_
        have hB249 : B_s_l3Bytes_0 p_s p_more k5 () = .cont () := by simp only [B_s_l3Bytes_0, hb21, hb22, hb248, hL247, cond_true, cond_false, loopE_done, loopE_ret]
        exact ⟨p_s.length - (k5 + 1), by omega, k5 + 1, rfl, hlt20, (by omega), rfl, rfl, rfl, hf53, (loopM.cont hlt20 hB249).symm.trans hI13⟩
       ·refine CW.cond_t rfl (not_f hb248) (CW.seq (CW.region (sd rfl (yl_assign rfl rfl (SeqR.done (tn (CW.ret (br (tr ?_)))))))))
        refine tr ?_
        have hB251 : B_s_l3Bytes_0 p_s p_more k5 () = .ret false := by simp only [B_s_l3Bytes_0, hb21, hb22, hb248, hL247, cond_true, cond_false, loopE_done, loopE_ret]
        have hL250 : loopM (B_s_l3Bytes_0 p_s p_more) (p_s.length - 0) 0 () = .ret false := hI13.symm.trans (loopM.ret hlt20 hB251)
        refine br (tr (rr rfl (.cons rfl .nil) ?_))
        have hM252 : (s_l3Bytes p_s p_more) = (false) := by simp only [s_l3Bytes, hb21, hb22, hb248, hL247, hL250, cond_true, cond_false, loopE_done, loopE_ret]
        rw [hM252]
        exact ⟨rfl, hf53⟩
    ·have hb22p := dec_f hb22
     refine sy rfl rfl hb22 (yl_move rfl rfl (sy rfl rfl hb22 (yl_move rfl rfl (sy rfl rfl hb22 (yl_sindexN Try.un9 (a := p_s) rfl rfl rfl (by first | omega | assumption | (simp only [IntKind.wrap_i64] at *; omega)) (sy rfl rfl hb22 (yl_geq rfl rfl rfl (sy rfl rfl hb22 (yl_move rfl rfl (bcase (decide (48 ≤ ((p_s.getD k5 0).toNat : Int))) (fun hb253 => ?_) (fun hb253 => ?_)))))))))))
     ·have hb253p := dec_t hb253
      refine sy rfl rfl hb253 (yl_move rfl rfl (sy rfl rfl hb253 (yl_move rfl rfl (sy rfl rfl hb253 (yl_sindexN Try.un9 (a := p_s) rfl rfl rfl (by first | omega | assumption | (simp only [IntKind.wrap_i64] at *; omega)) (sy rfl rfl hb253 (yl_leq rfl rfl rfl (sy rfl rfl hb22 (yl_pick_t rfl rfl hb253 rfl (sd rfl (yl_pick_f rfl rfl hb22 rfl (sd rfl (yl_assign rfl rfl (SeqR.done (tn ?_)))))))))))))))
      refine CW.seq (CW.seq (CW.region (sd rfl (yl_assign rfl rfl (SeqR.done (tn (CW.block (CW.loop (fun m256 L257 w258 => ∃ (k254 : Nat) (x255 : Bool), m256 = p_more.length - k254 ∧ k254 ≤ p_more.length ∧ w11.heap.size ≤ w258.heap.size ∧ lkp L257 0 = some (.string (bs (p_s))) ∧ lkp L257 1 = some (.string (bs (p_more))) ∧ lkp L257 5 = some (.int .i64 ((k5 : Int))) ∧ lkp L257 6 = some (.bool (x255)) ∧ lkp L257 7 = some (.int .i64 ((k254 : Int))) ∧ lkp L257 19 = some (.string (bs (p_s))) ∧ lkp L257 20 = some (.int .i64 ((k5 : Int))) ∧ lkp L257 21 = some (.int .u8 (((p_s.getD k5 0).toNat : Int))) ∧ lkp L257 22 = some (.bool (decide (((p_s.getD k5 0).toNat : Int) ≤ 122))) ∧ lkp L257 25 = some (.string (bs (p_s))) ∧ lkp L257 26 = some (.int .i64 ((k5 : Int))) ∧ lkp L257 27 = some (.int .u8 (((p_s.getD k5 0).toNat : Int))) ∧ lkp L257 28 = some (.bool (decide (48 ≤ ((p_s.getD k5 0).toNat : Int)))) ∧ lkp L257 29 = some (.bool (decide (48 ≤ ((p_s.getD k5 0).toNat : Int)))) ∧ lkp L257 30 = some (.string (bs (p_s))) ∧ lkp L257 31 = some (.int .i64 ((k5 : Int))) ∧ lkp L257 32 = some (.int .u8 (((p_s.getD k5 0).toNat : Int))) ∧ lkp L257 33 = some (.bool (decide (((p_s.getD k5 0).toNat : Int) ≤ 57))) ∧ lkp L257 34 = some (.bool (decide (((p_s.getD k5 0).toNat : Int) ≤ 57))) ∧ Ex w w258 ∧ loopM (B_s_l3Bytes_1 p_s p_more k5) (p_more.length - k254) k254 (x255) = loopM (B_s_l3Bytes_1 p_s p_more k5) (p_more.length - 0) 0 (decide (((p_s.getD k5 0).toNat : Int) ≤ 57))) (p_more.length - 0) ?_ ?_))))))))
      ·exact ⟨0, decide (((p_s.getD k5 0).toNat : Int) ≤ 57), rfl, (by omega), Nat.le_refl _, rfl, rfl, rfl, rfl, rfl, rfl, rfl, rfl, rfl, rfl, rfl, rfl, rfl, rfl, rfl, rfl, rfl, rfl, rfl, hf18, rfl⟩
      ·rintro m259 L260 w261 ⟨k254, x255, rfl, hk262, hsz264, hl265, hl266, hl267, hl268, hl269, hl270, hl271, hl272, hl273, hl274, hl275, hl276, hl277, hl278, hl279, hl280, hl281, hl282, hl283, hf284, hI263⟩
       refine CW.sub (Sub.cons hl265 (Sub.cons hl266 (Sub.cons hl267 (Sub.cons hl268 (Sub.cons hl269 (Sub.cons hl270 (Sub.cons hl271 (Sub.cons hl272 (Sub.cons hl273 (Sub.cons hl274 (Sub.cons hl275 (Sub.cons hl276 (Sub.cons hl277 (Sub.cons hl278 (Sub.cons hl279 (Sub.cons hl280 (Sub.cons hl281 (Sub.cons hl282 (Sub.cons hl283 (Sub.nil _)))))))))))))))))))) ?_
       have hf284z := Ex.size hf284
       have hbg285 : p_more.length ≤ 1073741824 := o2
       rcases Nat.lt_or_ge k254 p_more.length with hlt286 | hlt286
       ·refine CW.seq (CW.seq (CW.region (sd rfl (yl_move rfl rfl (sd rfl (yl_move rfl rfl (sd rfl (yl_slen Try.un9 (a := p_more) rfl rfl (sd rfl (yl_lss rfl rfl rfl (SeqR.done (tn ?_))))))))))))
        refine CW.cond_t rfl (lt_t hlt286) (CW.skip (tn (CW.seq (CW.block (bcase (x255) (fun hb287 => ?_) (fun hb287 => ?_))))))
        ·refine CW.drawsI 11 (vgetI [DetI (.bool (x255)), DetI (.bool (x255)), DetI (undef), DetI (undef), DetI (undef), DetI (undef), DetI (undef), DetI (undef), DetI (undef), DetI (.bool (true)), DetI (.bool (true))]) Try.follows rfl rfl rfl rfl rfl rfl (vgetI_stable ⟨StableI.det _, StableI.det _, StableI.det _, StableI.det _, StableI.det _, StableI.det _, StableI.det _, StableI.det _, StableI.det _, StableI.det _, StableI.det _, trivial⟩) ⟨?_, ?_, ?_, ?_, ?_, ?_, ?_, ?_, ?_, ?_, ?_, trivial⟩ ?_
         ·exact fun _ _ h => os rfl ((yl_move rfl (h.old 6 _ rfl rfl) kI))
         ·exact fun _ _ h => os rfl ((yl_move rfl (h.dt 0 42 rfl rfl rfl) kI))
         ·exact fun _ _ h => OpR.skip rfl rfl (h.dt 1 43 rfl rfl rfl) hb287 ⟨rfl, Ex.refl _⟩
         ·exact fun _ _ h => OpR.skip rfl rfl (h.dt 1 43 rfl rfl rfl) hb287 ⟨rfl, Ex.refl _⟩
         ·exact fun _ _ h => OpR.skip rfl rfl (h.dt 1 43 rfl rfl rfl) hb287 ⟨rfl, Ex.refl _⟩
         ·exact fun _ _ h => OpR.skip rfl rfl (h.dt 1 43 rfl rfl rfl) hb287 ⟨rfl, Ex.refl _⟩
         ·exact fun _ _ h => OpR.skip rfl rfl (h.dt 1 43 rfl rfl rfl) hb287 ⟨rfl, Ex.refl _⟩
         ·exact fun _ _ h => OpR.skip rfl rfl (h.dt 1 43 rfl rfl rfl) hb287 ⟨rfl, Ex.refl _⟩
         ·exact fun _ _ h => OpR.skip rfl rfl (h.dt 1 43 rfl rfl rfl) hb287 ⟨rfl, Ex.refl _⟩
         ·exact fun _ _ h => os rfl ((yl_pick_t rfl (h.dt 1 43 rfl rfl rfl) hb287 rfl kI))
         ·exact fun _ _ h => os rfl ((yl_assign rfl (h.dt 9 51 rfl rfl rfl) kI))
         ·intro fl347 fh348 L344 w345 hp346
          have hE349 := hp346.ex
          have hE349z := Ex.size hE349
          refine SeqR.done (bn (tn (CW.sub (Sub.cons (d := 0) (hp346.old 0 _ rfl rfl) (Sub.cons (d := 1) (hp346.old 1 _ rfl rfl) (Sub.cons (d := 5) (hp346.old 5 _ rfl rfl) (Sub.cons (d := 6) (hp346.nt 10 6 rfl rfl rfl) (Sub.cons (d := 7) (hp346.old 7 _ rfl rfl) (Sub.cons (d := 19) (hp346.old 19 _ rfl rfl) (Sub.cons (d := 20) (hp346.old 20 _ rfl rfl) (Sub.cons (d := 21) (hp346.old 21 _ rfl rfl) (Sub.cons (d := 22) (hp346.old 22 _ rfl rfl) (Sub.cons (d := 25) (hp346.old 25 _ rfl rfl) (Sub.cons (d := 26) (hp346.old 26 _ rfl rfl) (Sub.cons (d := 27) (hp346.old 27 _ rfl rfl) (Sub.cons (d := 28) (hp346.old 28 _ rfl rfl) (Sub.cons (d := 29) (hp346.old 29 _ rfl rfl) (Sub.cons (d := 30) (hp346.old 30 _ rfl rfl) (Sub.cons (d := 31) (hp346.old 31 _ rfl rfl) (Sub.cons (d := 32) (hp346.old 32 _ rfl rfl) (Sub.cons (d := 33) (hp346.old 33 _ rfl rfl) (Sub.cons (d := 34) (hp346.old 34 _ rfl rfl) (Sub.cons (d := 44) (hp346.nt 2 44 rfl rfl rfl) (Sub.cons (d := 45) (hp346.nt 3 45 rfl rfl rfl) (Sub.cons (d := 46) (hp346.nt 4 46 rfl rfl rfl) (Sub.cons (d := 47) (hp346.nt 5 47 rfl rfl rfl) (Sub.cons (d := 48) (hp346.nt 6 48 rfl rfl rfl) (Sub.cons (d := 49) (hp346.nt 7 49 rfl rfl rfl) (Sub.cons (d := 50) (hp346.nt 8 50 rfl rfl rfl) (Sub.nil _))))))))))))))))))))))))))) (CW.region (sd rfl (yl_move rfl rfl (sd rfl (yl_inc rfl rfl rfl (by omega) (sd rfl (yl_assign rfl rfl (SeqR.done ?_)))))))))))
          refine tn ?_
          have hB376 : B_s_l3Bytes_1 p_s p_more k5 k254 (x255) = .cont (true) := by simp only [B_s_l3Bytes_1, hb21, hb22, hb253, hb287, cond_true, cond_false, loopE_done, loopE_ret]
          exact ⟨p_more.length - (k254 + 1), by omega, k254 + 1, true, rfl, hlt286, (by omega), rfl, rfl, rfl, rfl, rfl, rfl, rfl, rfl, rfl, rfl, rfl, rfl, rfl, rfl, rfl, rfl, rfl, rfl, rfl, (Ex.trans hf284 hE349), (loopM.cont hlt286 hB376).symm.trans hI263⟩
        ·refine CW.drawsI 11 (vgetI [DetI (.bool (x255)), DetI (.bool (x255)), DetI (.string (bs (p_s))), DetI (.int .i64 ((k5 : Int))), DetI (.int .u8 (((p_s.getD k5 0).toNat : Int))), DetI (.string (bs (p_more))), DetI (.int .i64 ((k254 : Int))), DetI (.int .u8 (((p_more.getD k254 0).toNat : Int))), DetI (.bool (decide (((p_s.getD k5 0).toNat : Int) = ((p_more.getD k254 0).toNat : Int)))), DetI (.bool (decide (((p_s.getD k5 0).toNat : Int) = ((p_more.getD k254 0).toNat : Int)))), DetI (.bool (decide (((p_s.getD k5 0).toNat : Int) = ((p_more.getD k254 0).toNat : Int))))]) Try.follows rfl rfl rfl rfl rfl rfl (vgetI_stable ⟨StableI.det _, StableI.det _, StableI.det _, StableI.det _, StableI.det _, StableI.det _, StableI.det _, StableI.det _, StableI.det _, StableI.det _, StableI.det _, trivial⟩) ⟨?_, ?_, ?_, ?_, ?_, ?_, ?_, ?_, ?_, ?_, ?_, trivial⟩ ?_
         ·exact fun _ _ h => os rfl ((yl_move rfl (h.old 6 _ rfl rfl) kI))
         ·exact fun _ _ h => os rfl ((yl_move rfl (h.dt 0 42 rfl rfl rfl) kI))
         ·exact fun _ _ h => OpR.want rfl rfl (h.dt 1 43 rfl rfl rfl) hb287 (Yl.sameI (yl_move rfl (h.old 0 _ rfl rfl) kI))
         ·exact fun _ _ h => OpR.want rfl rfl (h.dt 1 43 rfl rfl rfl) hb287 (Yl.sameI (yl_move rfl (h.old 5 _ rfl rfl) kI))
         ·intro L400 w401 hi402
          have hE403 := hi402.ex
          have hE403z := Ex.size hE403
          exact OpR.want rfl rfl (hi402.dt 1 43 rfl rfl rfl) hb287 (Yl.sameI (yl_sindexN Try.un9 (a := p_s) rfl (hi402.dt 2 44 rfl rfl rfl) (hi402.dt 3 45 rfl rfl rfl) (by first | omega | assumption | (simp only [IntKind.wrap_i64] at *; omega)) kI))
         ·exact fun _ _ h => OpR.want rfl rfl (h.dt 1 43 rfl rfl rfl) hb287 (Yl.sameI (yl_move rfl (h.old 1 _ rfl rfl) kI))
         ·exact fun _ _ h => OpR.want rfl rfl (h.dt 1 43 rfl rfl rfl) hb287 (Yl.sameI (yl_move rfl (h.old 7 _ rfl rfl) kI))
         ·intro L419 w420 hi421
          have hE422 := hi421.ex
          have hE422z := Ex.size hE422
          exact OpR.want rfl rfl (hi421.dt 1 43 rfl rfl rfl) hb287 (Yl.sameI (yl_sindexN Try.un9 (a := p_more) rfl (hi421.dt 5 47 rfl rfl rfl) (hi421.dt 6 48 rfl rfl rfl) (by first | omega | assumption | (simp only [IntKind.wrap_i64] at *; omega)) kI))
         ·exact fun _ _ h => OpR.want rfl rfl (h.dt 1 43 rfl rfl rfl) hb287 (Yl.sameI (yl_eql rfl (h.dt 4 46 rfl rfl rfl) (h.dt 7 49 rfl rfl rfl) kI))
         ·exact fun _ _ h => os rfl ((yl_pick_f rfl (h.dt 1 43 rfl rfl rfl) hb287 (h.dt 8 50 rfl rfl rfl) kI))
         ·exact fun _ _ h => os rfl ((yl_assign rfl (h.dt 9 51 rfl rfl rfl) kI))
         ·intro fl447 fh448 L444 w445 hp446
          have hE449 := hp446.ex
          have hE449z := Ex.size hE449
          refine SeqR.done (bn (tn (CW.sub (Sub.cons (d := 0) (hp446.old 0 _ rfl rfl) (Sub.cons (d := 1) (hp446.old 1 _ rfl rfl) (Sub.cons (d := 5) (hp446.old 5 _ rfl rfl) (Sub.cons (d := 6) (hp446.nt 10 6 rfl rfl rfl) (Sub.cons (d := 7) (hp446.old 7 _ rfl rfl) (Sub.cons (d := 19) (hp446.old 19 _ rfl rfl) (Sub.cons (d := 20) (hp446.old 20 _ rfl rfl) (Sub.cons (d := 21) (hp446.old 21 _ rfl rfl) (Sub.cons (d := 22) (hp446.old 22 _ rfl rfl) (Sub.cons (d := 25) (hp446.old 25 _ rfl rfl) (Sub.cons (d := 26) (hp446.old 26 _ rfl rfl) (Sub.cons (d := 27) (hp446.old 27 _ rfl rfl) (Sub.cons (d := 28) (hp446.old 28 _ rfl rfl) (Sub.cons (d := 29) (hp446.old 29 _ rfl rfl) (Sub.cons (d := 30) (hp446.old 30 _ rfl rfl) (Sub.cons (d := 31) (hp446.old 31 _ rfl rfl) (Sub.cons (d := 32) (hp446.old 32 _ rfl rfl) (Sub.cons (d := 33) (hp446.old 33 _ rfl rfl) (Sub.cons (d := 34) (hp446.old 34 _ rfl rfl) (Sub.cons (d := 44) (hp446.nt 2 44 rfl rfl rfl) (Sub.cons (d := 45) (hp446.nt 3 45 rfl rfl rfl) (Sub.cons (d := 46) (hp446.nt 4 46 rfl rfl rfl) (Sub.cons (d := 47) (hp446.nt 5 47 rfl rfl rfl) (Sub.cons (d := 48) (hp446.nt 6 48 rfl rfl rfl) (Sub.cons (d := 49) (hp446.nt 7 49 rfl rfl rfl) (Sub.cons (d := 50) (hp446.nt 8 50 rfl rfl rfl) (Sub.nil _))))))))))))))))))))))))))) (CW.region (sd rfl (yl_move rfl rfl (sd rfl (yl_inc rfl rfl rfl (by omega) (sd rfl (yl_assign rfl rfl (SeqR.done ?_)))))))))))
          refine tn ?_
          have hB476 : B_s_l3Bytes_1 p_s p_more k5 k254 (x255) = .cont (decide (((p_s.getD k5 0).toNat : Int) = ((p_more.getD k254 0).toNat : Int))) := by simp only [B_s_l3Bytes_1, hb21, hb22, hb253, hb287, cond_true, cond_false, loopE_done, loopE_ret]
          exact ⟨p_more.length - (k254 + 1), by omega, k254 + 1, decide (((p_s.getD k5 0).toNat : Int) = ((p_more.getD k254 0).toNat : Int)), rfl, hlt286, (by omega), rfl, rfl, rfl, rfl, rfl, rfl, rfl, rfl, rfl, rfl, rfl, rfl, rfl, rfl, rfl, rfl, rfl, rfl, rfl, (Ex.trans hf284 hE449), (loopM.cont hlt286 hB476).symm.trans hI263⟩
       ·refine CW.seq (CW.seq (CW.region (sd rfl (yl_move rfl rfl (sd rfl (yl_move rfl rfl (sd rfl (yl_slen Try.un9 (a := p_more) rfl rfl (sd rfl (yl_lss rfl rfl rfl (SeqR.done (tn ?_))))))))))))
        refine CW.cond_f rfl (lt_f hlt286) (CW.exit (tx (tx ?_)))
        have hL478 : loopM (B_s_l3Bytes_1 p_s p_more k5) (p_more.length - 0) 0 (decide (((p_s.getD k5 0).toNat : Int) ≤ 57)) = .done (x255) := hI263.symm.trans (loopM.stop hlt286)
        refine bx (tn (CW.seq (CW.region (sd rfl (yl_move rfl rfl (sd rfl (yl_not rfl rfl (SeqR.done (tn (bcase (x255) (fun hb479 => ?_) (fun hb479 => ?_)))))))))))
        ·refine CW.cond_f rfl (not_t hb479) (CW.skip (bn (tn (CW.region (sd rfl (yl_move rfl rfl (sd rfl (yl_inc rfl rfl rfl (by omega) (sd rfl (yl_assign rfl rfl (SeqR.done ?_)))))))))))
         refine tn ?_
         have hB480 : B_s_l3Bytes_0 p_s p_more k5 () = .cont () := by simp only [B_s_l3Bytes_0, hb21, hb22, hb253, hb479, hL478, cond_true, cond_false, loopE_done, loopE_ret]
         exact ⟨p_s.length - (k5 + 1), by omega, k5 + 1, rfl, hlt20, (by omega), rfl, rfl, rfl, hf284, (loopM.cont hlt20 hB480).symm.trans hI13⟩
        ·refine CW.cond_t rfl (not_f hb479) (CW.seq (CW.region (sd rfl (yl_assign rfl rfl (SeqR.done (tn (CW.ret (br (tr ?_)))))))))
         refine tr ?_
         have hB482 : B_s_l3Bytes_0 p_s p_more k5 () = .ret false := by simp only [B_s_l3Bytes_0, hb21, hb22, hb253, hb479, hL478, cond_true, cond_false, loopE_done, loopE_ret]
         have hL481 : loopM (B_s_l3Bytes_0 p_s p_more) (p_s.length - 0) 0 () = .ret false := hI13.symm.trans (loopM.ret hlt20 hB482)
         refine br (tr (rr rfl (.cons rfl .nil) ?_))
         have hM483 : (s_l3Bytes p_s p_more) = (false) := by simp only [s_l3Bytes, hb21, hb22, hb253, hb479, hL478, hL481, cond_true, cond_false, loopE_done, loopE_ret]
         rw [hM483]
         exact ⟨rfl, hf284⟩
     ·have hb253p := dec_f hb253
      refine sz rfl rfl hb253 (sz rfl rfl hb253 (sz rfl rfl hb253 (sz rfl rfl hb253 (sy rfl rfl hb22 (yl_pick_f rfl rfl hb253 rfl (sd rfl (yl_pick_f rfl rfl hb22 rfl (sd rfl (yl_assign rfl rfl (SeqR.done (tn ?_)))))))))))
      refine CW.seq (CW.seq (CW.region (sd rfl (yl_assign rfl rfl (SeqR.done (tn (CW.block (CW.loop (fun m486 L487 w488 => ∃ (k484 : Nat) (x485 : Bool), m486 = p_more.length - k484 ∧ k484 ≤ p_more.length ∧ w11.heap.size ≤ w488.heap.size ∧ lkp L487 0 = some (.string (bs (p_s))) ∧ lkp L487 1 = some (.string (bs (p_more))) ∧ lkp L487 5 = some (.int .i64 ((k5 : Int))) ∧ lkp L487 6 = some (.bool (x485)) ∧ lkp L487 7 = some (.int .i64 ((k484 : Int))) ∧ lkp L487 19 = some (.string (bs (p_s))) ∧ lkp L487 20 = some (.int .i64 ((k5 : Int))) ∧ lkp L487 21 = some (.int .u8 (((p_s.getD k5 0).toNat : Int))) ∧ lkp L487 22 = some (.bool (decide (((p_s.getD k5 0).toNat : Int) ≤ 122))) ∧ lkp L487 25 = some (.string (bs (p_s))) ∧ lkp L487 26 = some (.int .i64 ((k5 : Int))) ∧ lkp L487 27 = some (.int .u8 (((p_s.getD k5 0).toNat : Int))) ∧ lkp L487 28 = some (.bool (decide (48 ≤ ((p_s.getD k5 0).toNat : Int)))) ∧ lkp L487 29 = some (.bool (decide (48 ≤ ((p_s.getD k5 0).toNat : Int)))) ∧ lkp L487 30 = some (undef) ∧ lkp L487 31 = some (undef) ∧ lkp L487 32 = some (undef) ∧ lkp L487 33 = some (undef) ∧ lkp L487 34 = some (.bool (false)) ∧ Ex w w488 ∧ loopM (B_s_l3Bytes_1 p_s p_more k5) (p_more.length - k484) k484 (x485) = loopM (B_s_l3Bytes_1 p_s p_more k5) (p_more.length - 0) 0 (false)) (p_more.length - 0) ?_ ?_))))))))
      ·exact ⟨0, false, rfl, (by omega), Nat.le_refl _, rfl, rfl, rfl, rfl, rfl, rfl, rfl, rfl, rfl, rfl, rfl, rfl, rfl, rfl, rfl, rfl, rfl, rfl, rfl, hf18, rfl⟩
      ·rintro m489 L490 w491 ⟨k484, x485, rfl, hk492, hsz494, hl495, hl496, hl497, hl498, hl499, hl500, hl501, hl502, hl503, hl504, hl505, hl506, hl507, hl508, hl509, hl510, hl511, hl512, hl513, hf514, hI493⟩
       refine CW.sub (Sub.cons hl495 (Sub.cons hl496 (Sub.cons hl497 (Sub.cons hl498 (Sub.cons hl499 (Sub.cons hl500 (Sub.cons hl501 (Sub.cons hl502 (Sub.cons hl503 (Sub.cons hl504 (Sub.cons hl505 (Sub.cons hl506 (Sub.cons hl507 (Sub.cons hl508 (Sub.cons hl509 (Sub.cons hl510 (Sub.cons hl511 (Sub.cons hl512 (Sub.cons hl513 (Sub.nil _)))))))))))))))))))) ?_
       have hf514z := Ex.size hf514
       have hbg515 : p_more.length ≤ 1073741824 := o2
       rcases Nat.lt_or_ge k484 p_more.length with hlt516 | hlt516
       ·refine CW.seq (CW.seq (CW.region (sd rfl (yl_move rfl rfl (sd rfl (yl_move rfl rfl (sd rfl (yl_slen Try.un9 (a := p_more) rfl rfl (sd rfl (yl_lss rfl rfl rfl (SeqR.done (tn ?_))))))))))))
        refine CW.cond_t rfl (lt_t hlt516) (CW.skip (tn (CW.seq (CW.block (bcase (x485) (fun hb517 => ?_) (fun hb517 => ?_))))))
        ·refine CW.drawsI 11 (vgetI [DetI (.bool (x485)), DetI (.bool (x485)), DetI (undef), DetI (undef), DetI (undef), DetI (undef), DetI (undef), DetI (undef), DetI (undef), DetI (.bool (true)), DetI (.bool (true))]) Try.follows rfl rfl rfl rfl rfl rfl (vgetI_stable ⟨StableI.det _, StableI.det _, StableI.det _, StableI.det _, StableI.det _, StableI.det _, StableI.det _, StableI.det _, StableI.det _, StableI.det _, StableI.det _, trivial⟩) ⟨?_, ?_, ?_, ?_, ?_, ?_, ?_, ?_, ?_, ?_, ?_, trivial⟩ ?_
         ·exact fun _ _ h => os rfl ((yl_move rfl (h.old 6 _ rfl rfl) kI))
         ·exact fun _ _ h => os rfl ((yl_move rfl (h.dt 0 42 rfl rfl rfl) kI))
         ·exact fun _ _ h => OpR.skip rfl rfl (h.dt 1 43 rfl rfl rfl) hb517 ⟨rfl, Ex.refl _⟩
         ·exact fun _ _ h => OpR.skip rfl rfl (h.dt 1 43 rfl rfl rfl) hb517 ⟨rfl, Ex.refl _⟩
         ·exact fun _ _ h => OpR.skip rfl rfl (h.dt 1 43 rfl rfl rfl) hb517 ⟨rfl, Ex.refl _⟩
         ·exact fun _ _ h => OpR.skip rfl rfl (h.dt 1 43 rfl rfl rfl) hb517 ⟨rfl, Ex.refl _⟩
         ·exact fun _ _ h => OpR.skip rfl rfl (h.dt 1 43 rfl rfl rfl) hb517 ⟨rfl, Ex.refl _⟩
         ·exact fun _ _ h => OpR.skip rfl rfl (h.dt 1 43 rfl rfl rfl) hb517 ⟨rfl, Ex.refl _⟩
         ·exact fun _ _ h => OpR.skip rfl rfl (h.dt 1 43 rfl rfl rfl) hb517 ⟨rfl, Ex.refl _⟩
         ·exact fun _ _ h => os rfl ((yl_pick_t rfl (h.dt 1 43 rfl rfl rfl) hb517 rfl kI))
         ·exact fun _ _ h => os rfl ((yl_assign rfl (h.dt 9 51 rfl rfl rfl) kI))
         ·intro fl577 fh578 L574 w575 hp576
          have hE579 := hp576.ex
          have hE579z := Ex.size hE579
          refine SeqR.done (bn (tn (CW.sub (Sub.cons (d := 0) (hp576.old 0 _ rfl rfl) (Sub.cons (d := 1) (hp576.old 1 _ rfl rfl) (Sub.cons (d := 5) (hp576.old 5 _ rfl rfl) (Sub.cons (d := 6) (hp576.nt 10 6 rfl rfl rfl) (Sub.cons (d := 7) (hp576.old 7 _ rfl rfl) (Sub.cons (d := 19) (hp576.old 19 _ rfl rfl) (Sub.cons (d := 20) (hp576.old 20 _ rfl rfl) (Sub.cons (d := 21) (hp576.old 21 _ rfl rfl) (Sub.cons (d := 22) (hp576.old 22 _ rfl rfl) (Sub.cons (d := 25) (hp576.old 25 _ rfl rfl) (Sub.cons (d := 26) (hp576.old 26 _ rfl rfl) (Sub.cons (d := 27) (hp576.old 27 _ rfl rfl) (Sub.cons (d := 28) (hp576.old 28 _ rfl rfl) (Sub.cons (d := 29) (hp576.old 29 _ rfl rfl) (Sub.cons (d := 30) (hp576.old 30 _ rfl rfl) (Sub.cons (d := 31) (hp576.old 31 _ rfl rfl) (Sub.cons (d := 32) (hp576.old 32 _ rfl rfl) (Sub.cons (d := 33) (hp576.old 33 _ rfl rfl) (Sub.cons (d := 34) (hp576.old 34 _ rfl rfl) (Sub.cons (d := 44) (hp576.nt 2 44 rfl rfl rfl) (Sub.cons (d := 45) (hp576.nt 3 45 rfl rfl rfl) (Sub.cons (d := 46) (hp576.nt 4 46 rfl rfl rfl) (Sub.cons (d := 47) (hp576.nt 5 47 rfl rfl rfl) (Sub.cons (d := 48) (hp576.nt 6 48 rfl rfl rfl) (Sub.cons (d := 49) (hp576.nt 7 49 rfl rfl rfl) (Sub.cons (d := 50) (hp576.nt 8 50 rfl rfl rfl) (Sub.nil _))))))))))))))))))))))))))) (CW.region (sd rfl (yl_move rfl rfl (sd rfl (yl_inc rfl rfl rfl (by omega) (sd rfl (yl_assign rfl rfl (SeqR.done ?_)))))))))))
          refine tn ?_
          have hB606 : B_s_l3Bytes_1 p_s p_more k5 k484 (x485) = .cont (true) := by simp only [B_s_l3Bytes_1, hb21, hb22, hb253, hb517, cond_true, cond_false, loopE_done, loopE_ret]
          exact ⟨p_more.length - (k484 + 1), by omega, k484 + 1, true, rfl, hlt516, (by omega), rfl, rfl, rfl, rfl, rfl, rfl, rfl, rfl, rfl, rfl, rfl, rfl, rfl, rfl, rfl, rfl, rfl, rfl, rfl, (Ex.trans hf514 hE579), (loopM.cont hlt516 hB606).symm.trans hI493⟩
        ·refine CW.drawsI 11 (vgetI [DetI (.bool (x485)), DetI (.bool (x485)), DetI (.string (bs (p_s))), DetI (.int .i64 ((k5 : Int))), DetI (.int .u8 (((p_s.getD k5 0).toNat : Int))), DetI (.string (bs (p_more))), DetI (.int .i64 ((k484 : Int))), DetI (.int .u8 (((p_more.getD k484 0).toNat : Int))), DetI (.bool (decide (((p_s.getD k5 0).toNat : Int) = ((p_more.getD k484 0).toNat : Int)))), DetI (.bool (decide (((p_s.getD k5 0).toNat : Int) = ((p_more.getD k484 0).toNat : Int)))), DetI (.bool (decide (((p_s.getD k5 0).toNat : Int) = ((p_more.getD k484 0).toNat : Int))))]) Try.follows rfl rfl rfl rfl rfl rfl (vgetI_stable ⟨StableI.det _, StableI.det _, StableI.det _, StableI.det _, StableI.det _, StableI.det _, StableI.det _, StableI.det _, StableI.det _, StableI.det _, StableI.det _, trivial⟩) ⟨?_, ?_, ?_, ?_, ?_, ?_, ?_, ?_, ?_, ?_, ?_, trivial⟩ ?_
         ·exact fun _ _ h => os rfl ((yl_move rfl (h.old 6 _ rfl rfl) kI))
         ·exact fun _ _ h => os rfl ((yl_move rfl (h.dt 0 42 rfl rfl rfl) kI))
         ·exact fun _ _ h => OpR.want rfl rfl (h.dt 1 43 rfl rfl rfl) hb517 (Yl.sameI (yl_move rfl (h.old 0 _ rfl rfl) kI))
         ·exact fun _ _ h => OpR.want rfl rfl (h.dt 1 43 rfl rfl rfl) hb517 (Yl.sameI (yl_move rfl (h.old 5 _ rfl rfl) kI))
         ·intro L630 w631 hi632
          have hE633 := hi632.ex
          have hE633z := Ex.size hE633
          exact OpR.want rfl rfl (hi632.dt 1 43 rfl rfl rfl) hb517 (Yl.sameI (yl_sindexN Try.un9 (a := p_s) rfl (hi632.dt 2 44 rfl rfl rfl) (hi632.dt 3 45 rfl rfl rfl) (by first | omega | assumption | (simp only [IntKind.wrap_i64] at *; omega)) kI))
         ·exact fun _ _ h => OpR.want rfl rfl (h.dt 1 43 rfl rfl rfl) hb517 (Yl.sameI (yl_move rfl (h.old 1 _ rfl rfl) kI))
         ·exact fun _ _ h => OpR.want rfl rfl (h.dt 1 43 rfl rfl rfl) hb517 (Yl.sameI (yl_move rfl (h.old 7 _ rfl rfl) kI))
         ·intro L649 w650 hi651
          have hE652 := hi651.ex
          have hE652z := Ex.size hE652
          exact OpR.want rfl rfl (hi651.dt 1 43 rfl rfl rfl) hb517 (Yl.sameI (yl_sindexN Try.un9 (a := p_more) rfl (hi651.dt 5 47 rfl rfl rfl) (hi651.dt 6 48 rfl rfl rfl) (by first | omega | assumption | (simp only [IntKind.wrap_i64] at *; omega)) kI))
         ·exact fun _ _ h => OpR.want rfl rfl (h.dt 1 43 rfl rfl rfl) hb517 (Yl.sameI (yl_eql rfl (h.dt 4 46 rfl rfl rfl) (h.dt 7 49 rfl rfl rfl) kI))
         ·exact fun _ _ h => os rfl ((yl_pick_f rfl (h.dt 1 43 rfl rfl rfl) hb517 (h.dt 8 50 rfl rfl rfl) kI))
         ·exact fun _ _ h => os rfl ((yl_assign rfl (h.dt 9 51 rfl rfl rfl) kI))
         ·intro fl677 fh678 L674 w675 hp676
          have hE679 := hp676.ex
          have hE679z := Ex.size hE679
          refine SeqR.done (bn (tn (CW.sub (Sub.cons (d := 0) (hp676.old 0 _ rfl rfl) (Sub.cons (d := 1) (hp676.old 1 _ rfl rfl) (Sub.cons (d := 5) (hp676.old 5 _ rfl rfl) (Sub.cons (d := 6) (hp676.nt 10 6 rfl rfl rfl) (Sub.cons (d := 7) (hp676.old 7 _ rfl rfl) (Sub.cons (d := 19) (hp676.old 19 _ rfl rfl) (Sub.cons (d := 20) (hp676.old 20 _ rfl rfl) (Sub.cons (d := 21) (hp676.old 21 _ rfl rfl) (Sub.cons (d := 22) (hp676.old 22 _ rfl rfl) (Sub.cons (d := 25) (hp676.old 25 _ rfl rfl) (Sub.cons (d := 26) (hp676.old 26 _ rfl rfl) (Sub.cons (d := 27) (hp676.old 27 _ rfl rfl) (Sub.cons (d := 28) (hp676.old 28 _ rfl rfl) (Sub.cons (d := 29) (hp676.old 29 _ rfl rfl) (Sub.cons (d := 30) (hp676.old 30 _ rfl rfl) (Sub.cons (d := 31) (hp676.old 31 _ rfl rfl) (Sub.cons (d := 32) (hp676.old 32 _ rfl rfl) (Sub.cons (d := 33) (hp676.old 33 _ rfl rfl) (Sub.cons (d := 34) (hp676.old 34 _ rfl rfl) (Sub.cons (d := 44) (hp676.nt 2 44 rfl rfl rfl) (Sub.cons (d := 45) (hp676.nt 3 45 rfl rfl rfl) (Sub.cons (d := 46) (hp676.nt 4 46 rfl rfl rfl) (Sub.cons (d := 47) (hp676.nt 5 47 rfl rfl rfl) (Sub.cons (d := 48) (hp676.nt 6 48 rfl rfl rfl) (Sub.cons (d := 49) (hp676.nt 7 49 rfl rfl rfl) (Sub.cons (d := 50) (hp676.nt 8 50 rfl rfl rfl) (Sub.nil _))))))))))))))))))))))))))) (CW.region (sd rfl (yl_move rfl rfl (sd rfl (yl_inc rfl rfl rfl (by omega) (sd rfl (yl_assign rfl rfl (SeqR.done ?_)))))))))))
          refine tn ?_
          have hB706 : B_s_l3Bytes_1 p_s p_more k5 k484 (x485) = .cont (decide (((p_s.getD k5 0).toNat : Int) = ((p_more.getD k484 0).toNat : Int))) := by simp only [B_s_l3Bytes_1, hb21, hb22, hb253, hb517, cond_true, cond_false, loopE_done, loopE_ret]
          exact ⟨p_more.length - (k484 + 1), by omega, k484 + 1, decide (((p_s.getD k5 0).toNat : Int) = ((p_more.getD k484 0).toNat : Int)), rfl, hlt516, (by omega), rfl, rfl, rfl, rfl, rfl, rfl, rfl, rfl, rfl, rfl, rfl, rfl, rfl, rfl, rfl, rfl, rfl, rfl, rfl, (Ex.trans hf514 hE679), (loopM.cont hlt516 hB706).symm.trans hI493⟩
       ·refine CW.seq (CW.seq (CW.region (sd rfl (yl_move rfl rfl (sd rfl (yl_move rfl rfl (sd rfl (yl_slen Try.un9 (a := p_more) rfl rfl (sd rfl (yl_lss rfl rfl rfl (SeqR.done (tn ?_))))))))))))
        refine CW.cond_f rfl (lt_f hlt516) (CW.exit (tx (tx ?_)))
        have hL708 : loopM (B_s_l3Bytes_1 p_s p_more k5) (p_more.length - 0) 0 (false) = .done (x485) := hI493.symm.trans (loopM.stop hlt516)
        refine bx (tn (CW.seq (CW.region (sd rfl (yl_move rfl rfl (sd rfl (yl_not rfl rfl (SeqR.done (tn (bcase (x485) (fun hb709 => ?_) (fun hb709 => ?_)))))))))))
        ·refine CW.cond_f rfl (not_t hb709) (CW.skip (bn (tn (CW.region (sd rfl (yl_move rfl rfl (sd rfl (yl_inc rfl rfl rfl (by omega) (sd rfl (yl_assign rfl rfl (SeqR.done ?_)))))))))))
         refine tn ?_
         have hB710 : B_s_l3Bytes_0 p_s p_more k5 () = .cont () := by simp only [B_s_l3Bytes_0, hb21, hb22, hb253, hb709, hL708, cond_true, cond_false, loopE_done, loopE_ret]
         exact ⟨p_s.length - (k5 + 1), by omega, k5 + 1, rfl, hlt20, (by omega), rfl, rfl, rfl, hf514, (loopM.cont hlt20 hB710).symm.trans hI13⟩
        ·refine CW.cond_t rfl (not_f hb709) (CW.seq (CW.region (sd rfl (yl_assign rfl rfl (SeqR.done (tn (CW.ret (br (tr ?_)))))))))
         refine tr ?_
         have hB712 : B_s_l3Bytes_0 p_s p_more k5 () = .ret false := by simp only [B_s_l3Bytes_0, hb21, hb22, hb253, hb709, hL708, cond_true, cond_false, loopE_done, loopE_ret]
         have hL711 : loopM (B_s_l3Bytes_0 p_s p_more) (p_s.length - 0) 0 () = .ret false := hI13.symm.trans (loopM.ret hlt20 hB712)
         refine br (tr (rr rfl (.cons rfl .nil) ?_))
         have hM713 : (s_l3Bytes p_s p_more) = (false) := by simp only [s_l3Bytes, hb21, hb22, hb253, hb709, hL708, hL711, cond_true, cond_false, loopE_done, loopE_ret]
         rw [hM713]
         exact ⟨rfl, hf514⟩
   ·have hb21p := dec_f hb21
    refine sz rfl rfl hb21 (sz rfl rfl hb21 (sz rfl rfl hb21 (sz rfl rfl hb21 (sd rfl (yl_pick_f rfl rfl hb21 rfl (sd rfl (yl_move rfl rfl (sy rfl rfl rfl (yl_move rfl rfl (sy rfl rfl rfl (yl_move rfl rfl (sy rfl rfl rfl (yl_sindexN Try.un9 (a := p_s) rfl rfl rfl (by first | omega | assumption | (simp only [IntKind.wrap_i64] at *; omega)) ?_)))))))))))))
    refine sy rfl rfl rfl (yl_geq rfl rfl rfl (sy rfl rfl rfl (yl_move rfl rfl (bcase (decide (48 ≤ ((p_s.getD k5 0).toNat : Int))) (fun hb714 => ?_) (fun hb714 => ?_)))))
    ·have hb714p := dec_t hb714
     refine sy rfl rfl hb714 (yl_move rfl rfl (sy rfl rfl hb714 (yl_move rfl rfl (sy rfl rfl hb714 (yl_sindexN Try.un9 (a := p_s) rfl rfl rfl (by first | omega | assumption | (simp only [IntKind.wrap_i64] at *; omega)) (sy rfl rfl hb714 (yl_leq rfl rfl rfl (sy rfl rfl rfl (yl_pick_t rfl rfl hb714 rfl (sd rfl (yl_pick_f rfl rfl rfl rfl (sd rfl (yl_assign rfl rfl (SeqR.done (tn ?_)))))))))))))))
     refine CW.seq (CW.seq (CW.region (sd rfl (yl_assign rfl rfl (SeqR.done (tn (CW.block (CW.loop (fun m717 L718 w719 => ∃ (k715 : Nat) (x716 : Bool), m717 = p_more.length - k715 ∧ k715 ≤ p_more.length ∧ w11.heap.size ≤ w719.heap.size ∧ lkp L718 0 = some (.string (bs (p_s))) ∧ lkp L718 1 = some (.string (bs (p_more))) ∧ lkp L718 5 = some (.int .i64 ((k5 : Int))) ∧ lkp L718 6 = some (.bool (x716)) ∧ lkp L718 7 = some (.int .i64 ((k715 : Int))) ∧ lkp L718 19 = some (undef) ∧ lkp L718 20 = some (undef) ∧ lkp L718 21 = some (undef) ∧ lkp L718 22 = some (undef) ∧ lkp L718 25 = some (.string (bs (p_s))) ∧ lkp L718 26 = some (.int .i64 ((k5 : Int))) ∧ lkp L718 27 = some (.int .u8 (((p_s.getD k5 0).toNat : Int))) ∧ lkp L718 28 = some (.bool (decide (48 ≤ ((p_s.getD k5 0).toNat : Int)))) ∧ lkp L718 29 = some (.bool (decide (48 ≤ ((p_s.getD k5 0).toNat : Int)))) ∧ lkp L718 30 = some (.string (bs (p_s))) ∧ lkp L718 31 = some (.int .i64 ((k5 : Int))) ∧ lkp L718 32 = some (.int .u8 (((p_s.getD k5 0).toNat : Int))) ∧ lkp L718 33 = some (.bool (decide (((p_s.getD k5 0).toNat : Int) ≤ 57))) ∧ lkp L718 34 = some (.bool (decide (((p_s.getD k5 0).toNat : Int) ≤ 57))) ∧ Ex w w719 ∧ loopM (B_s_l3Bytes_1 p_s p_more k5) (p_more.length - k715) k715 (x716) = loopM (B_s_l3Bytes_1 p_s p_more k5) (p_more.length - 0) 0 (decide (((p_s.getD k5 0).toNat : Int) ≤ 57))) (p_more.length - 0) ?_ ?_))))))))
     ·exact ⟨0, decide (((p_s.getD k5 0).toNat : Int) ≤ 57), rfl, (by omega), Nat.le_refl _, rfl, rfl, rfl, rfl, rfl, rfl, rfl, rfl, rfl, rfl, rfl, rfl, rfl, rfl, rfl, rfl, rfl, rfl, rfl, hf18, rfl⟩
     ·rintro m720 L721 w722 ⟨k715, x716, rfl, hk723, hsz725, hl726, hl727, hl728, hl729, hl730, hl731, hl732, hl733, hl734, hl735, hl736, hl737, hl738, hl739, hl740, hl741, hl742, hl743, hl744, hf745, hI724⟩
      refine CW.sub (Sub.cons hl726 (Sub.cons hl727 (Sub.cons hl728 (Sub.cons hl729 (Sub.cons hl730 (Sub.cons hl731 (Sub.cons hl732 (Sub.cons hl733 (Sub.cons hl734 (Sub.cons hl735 (Sub.cons hl736 (Sub.cons hl737 (Sub.cons hl738 (Sub.cons hl739 (Sub.cons hl740 (Sub.cons hl741 (Sub.cons hl742 (Sub.cons hl743 (Sub.cons hl744 (Sub.nil _)))))))))))))))))))) ?_
      have hf745z := Ex.size hf745
      have hbg746 : p_more.length ≤ 1073741824 := o2
      rcases Nat.lt_or_ge k715 p_more.length with hlt747 | hlt747
      ·refine CW.seq (CW.seq (CW.region (sd rfl (yl_move rfl rfl (sd rfl (yl_move rfl rfl (sd rfl (yl_slen Try.un9 (a := p_more) rfl rfl (sd rfl (yl_lss rfl rfl rfl (SeqR.done (tn ?_))))))))))))
       refine CW.cond_t rfl (lt_t hlt747) (CW.skip (tn (CW.seq (CW.block (bcase (x716) (fun hb748 => ?_) (fun hb748 => ?_))))))
       ·refine CW.drawsI 11 (vgetI [DetI (.bool (x716)), DetI (.bool (x716)), DetI (undef), DetI (undef), DetI (undef), DetI (undef), DetI (undef), DetI (undef), DetI (undef), DetI (.bool (true)), DetI (.bool (true))]) Try.follows rfl rfl rfl rfl rfl rfl (vgetI_stable ⟨StableI.det _, StableI.det _, StableI.det _, StableI.det _, StableI.det _, StableI.det _, StableI.det _, StableI.det _, StableI.det _, StableI.det _, StableI.det _, trivial⟩) ⟨?_, ?_, ?_, ?_, ?_, ?_, ?_, ?_, ?_, ?_, ?_, trivial⟩ ?_
        ·exact fun _ _ h => os rfl ((yl_move rfl (h.old 6 _ rfl rfl) kI))
        ·exact fun _ _ h => os rfl ((yl_move rfl (h.dt 0 42 rfl rfl rfl) kI))
        ·exact fun _ _ h => OpR.skip rfl rfl (h.dt 1 43 rfl rfl rfl) hb748 ⟨rfl, Ex.refl _⟩
        ·exact fun _ _ h => OpR.skip rfl rfl (h.dt 1 43 rfl rfl rfl) hb748 ⟨rfl, Ex.refl _⟩
        ·exact fun _ _ h => OpR.skip rfl rfl (h.dt 1 43 rfl rfl rfl) hb748 ⟨rfl, Ex.refl _⟩
        ·exact fun _ _ h => OpR.skip rfl rfl (h.dt 1 43 rfl rfl rfl) hb748 ⟨rfl, Ex.refl _⟩
        ·exact fun _ _ h => OpR.skip rfl rfl (h.dt 1 43 rfl rfl rfl) hb748 ⟨rfl, Ex.refl _⟩
        ·exact fun _ _ h => OpR.skip rfl rfl (h.dt 1 43 rfl rfl rfl) hb748 ⟨rfl, Ex.refl _⟩
        ·exact fun _ _ h => OpR.skip rfl rfl (h.dt 1 43 rfl rfl rfl) hb748 ⟨rfl, Ex.refl _⟩
        ·exact fun _ _ h => os rfl ((yl_pick_t rfl (h.dt 1 43 rfl rfl rfl) hb748 rfl kI))
        ·exact fun _ _ h => os rfl ((yl_assign rfl (h.dt 9 51 rfl rfl rfl) kI))
        ·intro fl808 fh809 L805 w806 hp807
         have hE810 := hp807.ex
         have hE810z := Ex.size hE810
         refine SeqR.done (bn (tn (CW.sub (Sub.cons (d := 0) (hp807.old 0 _ rfl rfl) (Sub.cons (d := 1) (hp807.old 1 _ rfl rfl) (Sub.cons (d := 5) (hp807.old 5 _ rfl rfl) (Sub.cons (d := 6) (hp807.nt 10 6 rfl rfl rfl) (Sub.cons (d := 7) (hp807.old 7 _ rfl rfl) (Sub.cons (d := 19) (hp807.old 19 _ rfl rfl) (Sub.cons (d := 20) (hp807.old 20 _ rfl rfl) (Sub.cons (d := 21) (hp807.old 21 _ rfl rfl) (Sub.cons (d := 22) (hp807.old 22 _ rfl rfl) (Sub.cons (d := 25) (hp807.old 25 _ rfl rfl) (Sub.cons (d := 26) (hp807.old 26 _ rfl rfl) (Sub.cons (d := 27) (hp807.old 27 _ rfl rfl) (Sub.cons (d := 28) (hp807.old 28 _ rfl rfl) (Sub.cons (d := 29) (hp807.old 29 _ rfl rfl) (Sub.cons (d := 30) (hp807.old 30 _ rfl rfl) (Sub.cons (d := 31) (hp807.old 31 _ rfl rfl) (Sub.cons (d := 32) (hp807.old 32 _ rfl rfl) (Sub.cons (d := 33) (hp807.old 33 _ rfl rfl) (Sub.cons (d := 34) (hp807.old 34 _ rfl rfl) (Sub.cons (d := 44) (hp807.nt 2 44 rfl rfl rfl) (Sub.cons (d := 45) (hp807.nt 3 45 rfl rfl rfl) (Sub.cons (d := 46) (hp807.nt 4 46 rfl rfl rfl) (Sub.cons (d := 47) (hp807.nt 5 47 rfl rfl rfl) (Sub.cons (d := 48) (hp807.nt 6 48 rfl rfl rfl) (Sub.cons (d := 49) (hp807.nt 7 49 rfl rfl rfl) (Sub.cons (d := 50) (hp807.nt 8 50 rfl rfl rfl) (Sub.nil _))))))))))))))))))))))))))) (CW.region (sd rfl (yl_move rfl rfl (sd rfl (yl_inc rfl rfl rfl (by omega) (sd rfl (yl_assign rfl rfl (SeqR.done ?_)))))))))))
         refine tn ?_
         have hB837 : B_s_l3Bytes_1 p_s p_more k5 k715 (x716) = .cont (true) := by simp only [B_s_l3Bytes_1, hb21, hb714, hb748, cond_true, cond_false, loopE_done, loopE_ret]
         exact ⟨p_more.length - (k715 + 1), by omega, k715 + 1, true, rfl, hlt747, (by omega), rfl, rfl, rfl, rfl, rfl, rfl, rfl, rfl, rfl, rfl, rfl, rfl, rfl, rfl, rfl, rfl, rfl, rfl, rfl, (Ex.trans hf745 hE810), (loopM.cont hlt747 hB837).symm.trans hI724⟩
       ·refine CW.drawsI 11 (vgetI [DetI (.bool (x716)), DetI (.bool (x716)), DetI (.string (bs (p_s))), DetI (.int .i64 ((k5 : Int))), DetI (.int .u8 (((p_s.getD k5 0).toNat : Int))), DetI (.string (bs (p_more))), DetI (.int .i64 ((k715 : Int))), DetI (.int .u8 (((p_more.getD k715 0).toNat : Int))), DetI (.bool (decide (((p_s.getD k5 0).toNat : Int) = ((p_more.getD k715 0).toNat : Int)))), DetI (.bool (decide (((p_s.getD k5 0).toNat : Int) = ((p_more.getD k715 0).toNat : Int)))), DetI (.bool (decide (((p_s.getD k5 0).toNat : Int) = ((p_more.getD k715 0).toNat : Int))))]) Try.follows rfl rfl rfl rfl rfl rfl (vgetI_stable ⟨StableI.det _, StableI.det _, StableI.det _, StableI.det _, StableI.det _, StableI.det _, StableI.det _, StableI.det _, StableI.det _, StableI.det _, StableI.det _, trivial⟩) ⟨?_, ?_, ?_, ?_, ?_, ?_, ?_, ?_, ?_, ?_, ?_, trivial⟩ ?_
        ·exact fun _ _ h => os rfl ((yl_move rfl (h.old 6 _ rfl rfl) kI))
        ·exact fun _ _ h => os rfl ((yl_move rfl (h.dt 0 42 rfl rfl rfl) kI))
        ·exact fun _ _ h => OpR.want rfl rfl (h.dt 1 43 rfl rfl rfl) hb748 (Yl.sameI (yl_move rfl (h.old 0 _ rfl rfl) kI))
        ·exact fun _ _ h => OpR.want rfl rfl (h.dt 1 43 rfl rfl rfl) hb748 (Yl.sameI (yl_move rfl (h.old 5 _ rfl rfl) kI))
        ·intro L861 w862 hi863
         have hE864 := hi863.ex
         have hE864z := Ex.size hE864
         exact OpR.want rfl rfl (hi863.dt 1 43 rfl rfl rfl) hb748 (Yl.sameI (yl_sindexN Try.un9 (a := p_s) rfl (hi863.dt 2 44 rfl rfl rfl) (hi863.dt 3 45 rfl rfl rfl) (by first | omega | assumption | (simp only [IntKind.wrap_i64] at *; omega)) kI))
        ·exact fun _ _ h => OpR.want rfl rfl (h.dt 1 43 rfl rfl rfl) hb748 (Yl.sameI (yl_move rfl (h.old 1 _ rfl rfl) kI))
        ·exact fun _ _ h => OpR.want rfl rfl (h.dt 1 43 rfl rfl rfl) hb748 (Yl.sameI (yl_move rfl (h.old 7 _ rfl rfl) kI))
        ·intro L880 w881 hi882
         have hE883 := hi882.ex
         have hE883z := Ex.size hE883
         exact OpR.want rfl rfl (hi882.dt 1 43 rfl rfl rfl) hb748 (Yl.sameI (yl_sindexN Try.un9 (a := p_more) rfl (hi882.dt 5 47 rfl rfl rfl) (hi882.dt 6 48 rfl rfl rfl) (by first | omega | assumption | (simp only [IntKind.wrap_i64] at *; omega)) kI))
        ·exact fun _ _ h => OpR.want rfl rfl (h.dt 1 43 rfl rfl rfl) hb748 (Yl.sameI (yl_eql rfl (h.dt 4 46 rfl rfl rfl) (h.dt 7 49 rfl rfl rfl) kI))
        ·exact fun _ _ h => os rfl ((yl_pick_f rfl (h.dt 1 43 rfl rfl rfl) hb748 (h.dt 8 50 rfl rfl rfl) kI))
        ·exact fun _ _ h => os rfl ((yl_assign rfl (h.dt 9 51 rfl rfl rfl) kI))
        ·intro fl908 fh909 L905 w906 hp907
         have hE910 := hp907.ex
         have hE910z := Ex.size hE910
         refine SeqR.done (bn (tn (CW.sub (Sub.cons (d := 0) (hp907.old 0 _ rfl rfl) (Sub.cons (d := 1) (hp907.old 1 _ rfl rfl) (Sub.cons (d := 5) (hp907.old 5 _ rfl rfl) (Sub.cons (d := 6) (hp907.nt 10 6 rfl rfl rfl) (Sub.cons (d := 7) (hp907.old 7 _ rfl rfl) (Sub.cons (d := 19) (hp907.old 19 _ rfl rfl) (Sub.cons (d := 20) (hp907.old 20 _ rfl rfl) (Sub.cons (d := 21) (hp907.old 21 _ rfl rfl) (Sub.cons (d := 22) (hp907.old 22 _ rfl rfl) (Sub.cons (d := 25) (hp907.old 25 _ rfl rfl) (Sub.cons (d := 26) (hp907.old 26 _ rfl rfl) (Sub.cons (d := 27) (hp907.old 27 _ rfl rfl) (Sub.cons (d := 28) (hp907.old 28 _ rfl rfl) (Sub.cons (d := 29) (hp907.old 29 _ rfl rfl) (Sub.cons (d := 30) (hp907.old 30 _ rfl rfl) (Sub.cons (d := 31) (hp907.old 31 _ rfl rfl) (Sub.cons (d := 32) (hp907.old 32 _ rfl rfl) (Sub.cons (d := 33) (hp907.old 33 _ rfl rfl) (Sub.cons (d := 34) (hp907.old 34 _ rfl rfl) (Sub.cons (d := 44) (hp907.nt 2 44 rfl rfl rfl) (Sub.cons (d := 45) (hp907.nt 3 45 rfl rfl rfl) (Sub.cons (d := 46) (hp907.nt 4 46 rfl rfl rfl) (Sub.cons (d := 47) (hp907.nt 5 47 rfl rfl rfl) (Sub.cons (d := 48) (hp907.nt 6 48 rfl rfl rfl) (Sub.cons (d := 49) (hp907.nt 7 49 rfl rfl rfl) (Sub.cons (d := 50) (hp907.nt 8 50 rfl rfl rfl) (Sub.nil _))))))))))))))))))))))))))) (CW.region (sd rfl (yl_move rfl rfl (sd rfl (yl_inc rfl rfl rfl (by omega) (sd rfl (yl_assign rfl rfl (SeqR.done ?_)))))))))))
         refine tn ?_
         have hB937 : B_s_l3Bytes_1 p_s p_more k5 k715 (x716) = .cont (decide (((p_s.getD k5 0).toNat : Int) = ((p_more.getD k715 0).toNat : Int))) := by simp only [B_s_l3Bytes_1, hb21, hb714, hb748, cond_true, cond_false, loopE_done, loopE_ret]
         exact ⟨p_more.length - (k715 + 1), by omega, k715 + 1, decide (((p_s.getD k5 0).toNat : Int) = ((p_more.getD k715 0).toNat : Int)), rfl, hlt747, (by omega), rfl, rfl, rfl, rfl, rfl, rfl, rfl, rfl, rfl, rfl, rfl, rfl, rfl, rfl, rfl, rfl, rfl, rfl, rfl, (Ex.trans hf745 hE910), (loopM.cont hlt747 hB937).symm.trans hI724⟩
      ·refine CW.seq (CW.seq (CW.region (sd rfl (yl_move rfl rfl (sd rfl (yl_move rfl rfl (sd rfl (yl_slen Try.un9 (a := p_more) rfl rfl (sd rfl (yl_lss rfl rfl rfl (SeqR.done (tn ?_))))))))))))
       refine CW.cond_f rfl (lt_f hlt747) (CW.exit (tx (tx ?_)))
       have hL939 : loopM (B_s_l3Bytes_1 p_s p_more k5) (p_more.length - 0) 0 (decide (((p_s.getD k5 0).toNat : Int) ≤ 57)) = .done (x716) := hI724.symm.trans (loopM.stop hlt747)
       refine bx (tn (CW.seq (CW.region (sd rfl (yl_move rfl rfl (sd rfl (yl_not rfl rfl (SeqR.done (tn (bcase (x716) (fun hb940 => ?_) (fun hb940 => ?_)))))))))))
       ·refine CW.cond_f rfl (not_t hb940) (CW.skip (bn (tn (CW.region (sd rfl (yl_move rfl rfl (sd rfl (yl_inc rfl rfl rfl (by omega) (sd rfl (yl_assign rfl rfl (SeqR.done ?_)))))))))))
        refine tn ?_
        have hB941 : B_s_l3Bytes_0 p_s p_more k5 () = .cont () := by simp only [B_s_l3Bytes_0, hb21, hb714, hb940, hL939, cond_true, cond_false, loopE_done, loopE_ret]
        exact ⟨p_s.length - (k5 + 1), by omega, k5 + 1, rfl, hlt20, (by omega), rfl, rfl, rfl, hf745, (loopM.cont hlt20 hB941).symm.trans hI13⟩
       ·refine CW.cond_t rfl (not_f hb940) (CW.seq (CW.region (sd rfl (yl_assign rfl rfl (SeqR.done (tn (CW.ret (br (tr ?_)))))))))
        refine tr ?_
        have hB943 : B_s_l3Bytes_0 p_s p_more k5 () = .ret false := by simp only [B_s_l3Bytes_0, hb21, hb714, hb940, hL939, cond_true, cond_false, loopE_done, loopE_ret]
        have hL942 : loopM (B_s_l3Bytes_0 p_s p_more) (p_s.length - 0) 0 () = .ret false := hI13.symm.trans (loopM.ret hlt20 hB943)
        refine br (tr (rr rfl (.cons rfl .nil) ?_))
        have hM944 : (s_l3Bytes p_s p_more) = (false) := by simp only [s_l3Bytes, hb21, hb714, hb940, hL939, hL942, cond_true, cond_false, loopE_done, loopE_ret]
        rw [hM944]
        exact ⟨rfl, hf745⟩
    ·have hb714p := dec_f hb714
     refine sz rfl rfl hb714 (sz rfl rfl hb714 (sz rfl rfl hb714 (sz rfl rfl hb714 (sy rfl rfl rfl (yl_pick_f rfl rfl hb714 rfl (sd rfl (yl_pick_f rfl rfl rfl rfl (sd rfl (yl_assign rfl rfl (SeqR.done (tn ?_)))))))))))
     refine CW.seq (CW.seq (CW.region (sd rfl (yl_assign rfl rfl (SeqR.done (tn (CW.block (CW.loop (fun m947 L948 w949 => ∃ (k945 : Nat) (x946 : Bool), m947 = p_more.length - k945 ∧ k945 ≤ p_more.length ∧ w11.heap.size ≤ w949.heap.size ∧ lkp L948 0 = some (.string (bs (p_s))) ∧ lkp L948 1 = some (.string (bs (p_more))) ∧ lkp L948 5 = some (.int .i64 ((k5 : Int))) ∧ lkp L948 6 = some (.bool (x946)) ∧ lkp L948 7 = some (.int .i64 ((k945 : Int))) ∧ lkp L948 19 = some (undef) ∧ lkp L948 20 = some (undef) ∧ lkp L948 21 = some (undef) ∧ lkp L948 22 = some (undef) ∧ lkp L948 25 = some (.string (bs (p_s))) ∧ lkp L948 26 = some (.int .i64 ((k5 : Int))) ∧ lkp L948 27 = some (.int .u8 (((p_s.getD k5 0).toNat : Int))) ∧ lkp L948 28 = some (.bool (decide (48 ≤ ((p_s.getD k5 0).toNat : Int)))) ∧ lkp L948 29 = some (.bool (decide (48 ≤ ((p_s.getD k5 0).toNat : Int)))) ∧ lkp L948 30 = some (undef) ∧ lkp L948 31 = some (undef) ∧ lkp L948 32 = some (undef) ∧ lkp L948 33 = some (undef) ∧ lkp L948 34 = some (.bool (false)) ∧ Ex w w949 ∧ loopM (B_s_l3Bytes_1 p_s p_more k5) (p_more.length - k945) k945 (x946) = loopM (B_s_l3Bytes_1 p_s p_more k5) (p_more.length - 0) 0 (false)) (p_more.length - 0) ?_ ?_))))))))
     ·exact ⟨0, false, rfl, (by omega), Nat.le_refl _, rfl, rfl, rfl, rfl, rfl, rfl, rfl, rfl, rfl, rfl, rfl, rfl, rfl, rfl, rfl, rfl, rfl, rfl, rfl, hf18, rfl⟩
     ·rintro m950 L951 w952 ⟨k945, x946, rfl, hk953, hsz955, hl956, hl957, hl958, hl959, hl960, hl961, hl962, hl963, hl964, hl965, hl966, hl967, hl968, hl969, hl970, hl971, hl972, hl973, hl974, hf975, hI954⟩
      refine CW.sub (Sub.cons hl956 (Sub.cons hl957 (Sub.cons hl958 (Sub.cons hl959 (Sub.cons hl960 (Sub.cons hl961 (Sub.cons hl962 (Sub.cons hl963 (Sub.cons hl964 (Sub.cons hl965 (Sub.cons hl966 (Sub.cons hl967 (Sub.cons hl968 (Sub.cons hl969 (Sub.cons hl970 (Sub.cons hl971 (Sub.cons hl972 (Sub.cons hl973 (Sub.cons hl974 (Sub.nil _)))))))))))))))))))) ?_
      have hf975z := Ex.size hf975
      have hbg976 : p_more.length ≤ 1073741824 := o2
      rcases Nat.lt_or_ge k945 p_more.length with hlt977 | hlt977
      ·refine CW.seq (CW.seq (CW.region (sd rfl (yl_move rfl rfl (sd rfl (yl_move rfl rfl (sd rfl (yl_slen Try.un9 (a := p_more) rfl rfl (sd rfl (yl_lss rfl rfl rfl (SeqR.done (tn ?_))))))))))))
       refine CW.cond_t rfl (lt_t hlt977) (CW.skip (tn (CW.seq (CW.block (bcase (x946) (fun hb978 => ?_) (fun hb978 => ?_))))))
       ·refine CW.drawsI 11 (vgetI [DetI (.bool (x946)), DetI (.bool (x946)), DetI (undef), DetI (undef), DetI (undef), DetI (undef), DetI (undef), DetI (undef), DetI (undef), DetI (.bool (true)), DetI (.bool (true))]) Try.follows rfl rfl rfl rfl rfl rfl (vgetI_stable ⟨StableI.det _, StableI.det _, StableI.det _, StableI.det _, StableI.det _, StableI.det _, StableI.det _, StableI.det _, StableI.det _, StableI.det _, StableI.det _, trivial⟩) ⟨?_, ?_, ?_, ?_, ?_, ?_, ?_, ?_, ?_, ?_, ?_, trivial⟩ ?_
        ·exact fun _ _ h => os rfl ((yl_move rfl (h.old 6 _ rfl rfl) kI))
        ·exact fun _ _ h => os rfl ((yl_move rfl (h.dt 0 42 rfl rfl rfl) kI))
        ·exact fun _ _ h => OpR.skip rfl rfl (h.dt 1 43 rfl rfl rfl) hb978 ⟨rfl, Ex.refl _⟩
        ·exact fun _ _ h => OpR.skip rfl rfl (h.dt 1 43 rfl rfl rfl) hb978 ⟨rfl, Ex.refl _⟩
        ·exact fun _ _ h => OpR.skip rfl rfl (h.dt 1 43 rfl rfl rfl) hb978 ⟨rfl, Ex.refl _⟩
        ·exact fun _ _ h => OpR.skip rfl rfl (h.dt 1 43 rfl rfl rfl) hb978 ⟨rfl, Ex.refl _⟩
        ·exact fun _ _ h => OpR.skip rfl rfl (h.dt 1 43 rfl rfl rfl) hb978 ⟨rfl, Ex.refl _⟩
        ·exact fun _ _ h => OpR.skip rfl rfl (h.dt 1 43 rfl rfl rfl) hb978 ⟨rfl, Ex.refl _⟩
        ·exact fun _ _ h => OpR.skip rfl rfl (h.dt 1 43 rfl rfl rfl) hb978 ⟨rfl, Ex.refl _⟩
        ·exact fun _ _ h => os rfl ((yl_pick_t rfl (h.dt 1 43 rfl rfl rfl) hb978 rfl kI))
        ·exact fun _ _ h => os rfl ((yl_assign rfl (h.dt 9 51 rfl rfl rfl) kI))
        ·intro fl1038 fh1039 L1035 w1036 hp1037
         have hE1040 := hp1037.ex
         have hE1040z := Ex.size hE1040
         refine SeqR.done (bn (tn (CW.sub (Sub.cons (d := 0) (hp1037.old 0 _ rfl rfl) (Sub.cons (d := 1) (hp1037.old 1 _ rfl rfl) (Sub.cons (d := 5) (hp1037.old 5 _ rfl rfl) (Sub.cons (d := 6) (hp1037.nt 10 6 rfl rfl rfl) (Sub.cons (d := 7) (hp1037.old 7 _ rfl rfl) (Sub.cons (d := 19) (hp1037.old 19 _ rfl rfl) (Sub.cons (d := 20) (hp1037.old 20 _ rfl rfl) (Sub.cons (d := 21) (hp1037.old 21 _ rfl rfl) (Sub.cons (d := 22) (hp1037.old 22 _ rfl rfl) (Sub.cons (d := 25) (hp1037.old 25 _ rfl rfl) (Sub.cons (d := 26) (hp1037.old 26 _ rfl rfl) (Sub.cons (d := 27) (hp1037.old 27 _ rfl rfl) (Sub.cons (d := 28) (hp1037.old 28 _ rfl rfl) (Sub.cons (d := 29) (hp1037.old 29 _ rfl rfl) (Sub.cons (d := 30) (hp1037.old 30 _ rfl rfl) (Sub.cons (d := 31) (hp1037.old 31 _ rfl rfl) (Sub.cons (d := 32) (hp1037.old 32 _ rfl rfl) (Sub.cons (d := 33) (hp1037.old 33 _ rfl rfl) (Sub.cons (d := 34) (hp1037.old 34 _ rfl rfl) (Sub.cons (d := 44) (hp1037.nt 2 44 rfl rfl rfl) (Sub.cons (d := 45) (hp1037.nt 3 45 rfl rfl rfl) (Sub.cons (d := 46) (hp1037.nt 4 46 rfl rfl rfl) (Sub.cons (d := 47) (hp1037.nt 5 47 rfl rfl rfl) (Sub.cons (d := 48) (hp1037.nt 6 48 rfl rfl rfl) (Sub.cons (d := 49) (hp1037.nt 7 49 rfl rfl rfl) (Sub.cons (d := 50) (hp1037.nt 8 50 rfl rfl rfl) (Sub.nil _))))))))))))))))))))))))))) (CW.region (sd rfl (yl_move rfl rfl (sd rfl (yl_inc rfl rfl rfl (by omega) (sd rfl (yl_assign rfl rfl (SeqR.done ?_)))))))))))
         refine tn ?_
         have hB1067 : B_s_l3Bytes_1 p_s p_more k5 k945 (x946) = .cont (true) := by simp only [B_s_l3Bytes_1, hb21, hb714, hb978, cond_true, cond_false, loopE_done, loopE_ret]
         exact ⟨p_more.length - (k945 + 1), by omega, k945 + 1, true, rfl, hlt977, (by omega), rfl, rfl, rfl, rfl, rfl, rfl, rfl, rfl, rfl, rfl, rfl, rfl, rfl, rfl, rfl, rfl, rfl, rfl, rfl, (Ex.trans hf975 hE1040), (loopM.cont hlt977 hB1067).symm.trans hI954⟩
       ·refine CW.drawsI 11 (vgetI [DetI (.bool (x946)), DetI (.bool (x946)), DetI (.string (bs (p_s))), DetI (.int .i64 ((k5 : Int))), DetI (.int .u8 (((p_s.getD k5 0).toNat : Int))), DetI (.string (bs (p_more))), DetI (.int .i64 ((k945 : Int))), DetI (.int .u8 (((p_more.getD k945 0).toNat : Int))), DetI (.bool (decide (((p_s.getD k5 0).toNat : Int) = ((p_more.getD k945 0).toNat : Int)))), DetI (.bool (decide (((p_s.getD k5 0).toNat : Int) = ((p_more.getD k945 0).toNat : Int)))), DetI (.bool (decide (((p_s.getD k5 0).toNat : Int) = ((p_more.getD k945 0).toNat : Int))))]) Try.follows rfl rfl rfl rfl rfl rfl (vgetI_stable ⟨StableI.det _, StableI.det _, StableI.det _, StableI.det _, StableI.det _, StableI.det _, StableI.det _, StableI.det _, StableI.det _, StableI.det _, StableI.det _, trivial⟩) ⟨?_, ?_, ?_, ?_, ?_, ?_, ?_, ?_, ?_, ?_, ?_, trivial⟩ ?_
        ·exact fun _ _ h => os rfl ((yl_move rfl (h.old 6 _ rfl rfl) kI))
        ·exact fun _ _ h => os rfl ((yl_move rfl (h.dt 0 42 rfl rfl rfl) kI))
        ·exact fun _ _ h => OpR.want rfl rfl (h.dt 1 43 rfl rfl rfl) hb978 (Yl.sameI (yl_move rfl (h.old 0 _ rfl rfl) kI))
        ·exact fun _ _ h => OpR.want rfl rfl (h.dt 1 43 rfl rfl rfl) hb978 (Yl.sameI (yl_move rfl (h.old 5 _ rfl rfl) kI))
        ·intro L1091 w1092 hi1093
         have hE1094 := hi1093.ex
         have hE1094z := Ex.size hE1094
         exact OpR.want rfl rfl (hi1093.dt 1 43 rfl rfl rfl) hb978 (Yl.sameI (yl_sindexN Try.un9 (a := p_s) rfl (hi1093.dt 2 44 rfl rfl rfl) (hi1093.dt 3 45 rfl rfl rfl) (by first | omega | assumption | (simp only [IntKind.wrap_i64] at *; omega)) kI))
        ·exact fun _ _ h => OpR.want rfl rfl (h.dt 1 43 rfl rfl rfl) hb978 (Yl.sameI (yl_move rfl (h.old 1 _ rfl rfl) kI))
        ·exact fun _ _ h => OpR.want rfl rfl (h.dt 1 43 rfl rfl rfl) hb978 (Yl.sameI (yl_move rfl (h.old 7 _ rfl rfl) kI))
        ·intro L1110 w1111 hi1112
         have hE1113 := hi1112.ex
         have hE1113z := Ex.size hE1113
         exact OpR.want rfl rfl (hi1112.dt 1 43 rfl rfl rfl) hb978 (Yl.sameI (yl_sindexN Try.un9 (a := p_more) rfl (hi1112.dt 5 47 rfl rfl rfl) (hi1112.dt 6 48 rfl rfl rfl) (by first | omega | assumption | (simp only [IntKind.wrap_i64] at *; omega)) kI))
        ·exact fun _ _ h => OpR.want rfl rfl (h.dt 1 43 rfl rfl rfl) hb978 (Yl.sameI (yl_eql rfl (h.dt 4 46 rfl rfl rfl) (h.dt 7 49 rfl rfl rfl) kI))
        ·exact fun _ _ h => os rfl ((yl_pick_f rfl (h.dt 1 43 rfl rfl rfl) hb978 (h.dt 8 50 rfl rfl rfl) kI))
        ·exact fun _ _ h => os rfl ((yl_assign rfl (h.dt 9 51 rfl rfl rfl) kI))
        ·intro fl1138 fh1139 L1135 w1136 hp1137
         have hE1140 := hp1137.ex
         have hE1140z := Ex.size hE1140
         refine SeqR.done (bn (tn (CW.sub (Sub.cons (d := 0) (hp1137.old 0 _ rfl rfl) (Sub.cons (d := 1) (hp1137.old 1 _ rfl rfl) (Sub.cons (d := 5) (hp1137.old 5 _ rfl rfl) (Sub.cons (d := 6) (hp1137.nt 10 6 rfl rfl rfl) (Sub.cons (d := 7) (hp1137.old 7 _ rfl rfl) (Sub.cons (d := 19) (hp1137.old 19 _ rfl rfl) (Sub.cons (d := 20) (hp1137.old 20 _ rfl rfl) (Sub.cons (d := 21) (hp1137.old 21 _ rfl rfl) (Sub.cons (d := 22) (hp1137.old 22 _ rfl rfl) (Sub.cons (d := 25) (hp1137.old 25 _ rfl rfl) (Sub.cons (d := 26) (hp1137.old 26 _ rfl rfl) (Sub.cons (d := 27) (hp1137.old 27 _ rfl rfl) (Sub.cons (d := 28) (hp1137.old 28 _ rfl rfl) (Sub.cons (d := 29) (hp1137.old 29 _ rfl rfl) (Sub.cons (d := 30) (hp1137.old 30 _ rfl rfl) (Sub.cons (d := 31) (hp1137.old 31 _ rfl rfl) (Sub.cons (d := 32) (hp1137.old 32 _ rfl rfl) (Sub.cons (d := 33) (hp1137.old 33 _ rfl rfl) (Sub.cons (d := 34) (hp1137.old 34 _ rfl rfl) (Sub.cons (d := 44) (hp1137.nt 2 44 rfl rfl rfl) (Sub.cons (d := 45) (hp1137.nt 3 45 rfl rfl rfl) (Sub.cons (d := 46) (hp1137.nt 4 46 rfl rfl rfl) (Sub.cons (d := 47) (hp1137.nt 5 47 rfl rfl rfl) (Sub.cons (d := 48) (hp1137.nt 6 48 rfl rfl rfl) (Sub.cons (d := 49) (hp1137.nt 7 49 rfl rfl rfl) (Sub.cons (d := 50) (hp1137.nt 8 50 rfl rfl rfl) (Sub.nil _))))))))))))))))))))))))))) (CW.region (sd rfl (yl_move rfl rfl (sd rfl (yl_inc rfl rfl rfl (by omega) (sd rfl (yl_assign rfl rfl (SeqR.done ?_)))))))))))
         refine tn ?_
         have hB1167 : B_s_l3Bytes_1 p_s p_more k5 k945 (x946) = .cont (decide (((p_s.getD k5 0).toNat : Int) = ((p_more.getD k945 0).toNat : Int))) := by simp only [B_s_l3Bytes_1, hb21, hb714, hb978, cond_true, cond_false, loopE_done, loopE_ret]
         exact ⟨p_more.length - (k945 + 1), by omega, k945 + 1, decide (((p_s.getD k5 0).toNat : Int) = ((p_more.getD k945 0).toNat : Int)), rfl, hlt977, (by omega), rfl, rfl, rfl, rfl, rfl, rfl, rfl, rfl, rfl, rfl, rfl, rfl, rfl, rfl, rfl, rfl, rfl, rfl, rfl, (Ex.trans hf975 hE1140), (loopM.cont hlt977 hB1167).symm.trans hI954⟩
      ·refine CW.seq (CW.seq (CW.region (sd rfl (yl_move rfl rfl (sd rfl (yl_move rfl rfl (sd rfl (yl_slen Try.un9 (a := p_more) rfl rfl (sd rfl (yl_lss rfl rfl rfl (SeqR.done (tn ?_))))))))))))
       refine CW.cond_f rfl (lt_f hlt977) (CW.exit (tx (tx ?_)))
       have hL1169 : loopM (B_s_l3Bytes_1 p_s p_more k5) (p_more.length - 0) 0 (false) = .done (x946) := hI954.symm.trans (loopM.stop hlt977)
       refine bx (tn (CW.seq (CW.region (sd rfl (yl_move rfl rfl (sd rfl (yl_not rfl rfl (SeqR.done (tn (bcase (x946) (fun hb1170 => ?_) (fun hb1170 => ?_)))))))))))
       ·refine CW.cond_f rfl (not_t hb1170) (CW.skip (bn (tn (CW.region (sd rfl (yl_move rfl rfl (sd rfl (yl_inc rfl rfl rfl (by omega) (sd rfl (yl_assign rfl rfl (SeqR.done ?_)))))))))))
        refine tn ?_
        have hB1171 : B_s_l3Bytes_0 p_s p_more k5 () = .cont () := by simp only [B_s_l3Bytes_0, hb21, hb714, hb1170, hL1169, cond_true, cond_false, loopE_done, loopE_ret]
        exact ⟨p_s.length - (k5 + 1), by omega, k5 + 1, rfl, hlt20, (by omega), rfl, rfl, rfl, hf975, (loopM.cont hlt20 hB1171).symm.trans hI13⟩
       ·refine CW.cond_t rfl (not_f hb1170) (CW.seq (CW.region (sd rfl (yl_assign rfl rfl (SeqR.done (tn (CW.ret (br (tr ?_)))))))))
        refine tr ?_
        have hB1173 : B_s_l3Bytes_0 p_s p_more k5 () = .ret false := by simp only [B_s_l3Bytes_0, hb21, hb714, hb1170, hL1169, cond_true, cond_false, loopE_done, loopE_ret]
        have hL1172 : loopM (B_s_l3Bytes_0 p_s p_more) (p_s.length - 0) 0 () = .ret false := hI13.symm.trans (loopM.ret hlt20 hB1173)
        refine br (tr (rr rfl (.cons rfl .nil) ?_))
        have hM1174 : (s_l3Bytes p_s p_more) = (false) := by simp only [s_l3Bytes, hb21, hb714, hb1170, hL1169, hL1172, cond_true, cond_false, loopE_done, loopE_ret]
        rw [hM1174]
        exact ⟨rfl, hf975⟩
  ·refine CW.seq (CW.seq (CW.region (sd rfl (yl_move rfl rfl (sd rfl (yl_move rfl rfl (sd rfl (yl_slen Try.un9 (a := p_s) rfl rfl (sd rfl (yl_lss rfl rfl rfl (SeqR.done (tn ?_))))))))))))
   refine CW.cond_f rfl (lt_f hlt20) (CW.exit (tx (tx ?_)))
   have hL1175 : loopM (B_s_l3Bytes_0 p_s p_more) (p_s.length - 0) 0 () = .done () := hI13.symm.trans (loopM.stop hlt20)
   refine bx (tn (CW.seq (CW.region (sd rfl (yl_assign rfl rfl (SeqR.done (tn (CW.ret (rr rfl (.cons rfl .nil) ?_)))))))))
   have hM1176 : (s_l3Bytes p_s p_more) = (true) := by simp only [s_l3Bytes, hL1175, cond_true, cond_false, loopE_done, loopE_ret]
   rw [hM1176]
   exact ⟨rfl, hf18⟩
set_option maxRecDepth 100000 in
set_option maxHeartbeats 2000000 in
theorem c_s_l3Key {w : World} (p_s : Str) (o1 : okS p_s) : Cal Try.prog 216 #[.string (bs (p_s))] w fun v w' => v = .bool ((s_l3Key p_s)) ∧ Ex w w' := by
 have hol2 : p_s.length ≤ 1073741824 := o1
 refine Cal.of (vs := [.string (bs (p_s))]) Try.func216 rfl Try.ntmps216 rfl (CW.seq (CW.region (sd rfl (yl_assign rfl rfl (SeqR.done (tn (CW.seq (CW.region (sd rfl (yl_move rfl rfl ?_))))))))))
 refine sd rfl (yl_slen Try.un9 (a := p_s) rfl rfl (sd rfl (yl_call Try.en72 rfl (opvs_cons rfl (opvs_cons rfl (opvs_cons rfl opvs_nil))) (Cal.mono (c_s_l1In (p_s.length : Int) 1 12) ?_))))
 rintro v4 w3 ⟨rfl, hE5⟩
 have hE5z := Ex.size hE5
 refine sd rfl (yl_move rfl rfl (bcase (s_l1In (p_s.length : Int) 1 12) (fun hb6 => ?_) (fun hb6 => ?_)))
 ·have hb6p := f_l1In hb6
  refine sy rfl rfl hb6 (yl_move rfl rfl (sy rfl rfl hb6 (yl_call Try.en210 rfl (opvs_cons rfl (opvs_cons rfl opvs_nil)) (Cal.mono (c_s_l3Bytes p_s ([46, 47] : Str) o1 (okS.lit rfl)) ?_))))
  rintro v8 w7 ⟨rfl, hE9⟩
  have hE9z := Ex.size hE9
  refine sd rfl (yl_pick_t rfl rfl hb6 rfl (sd rfl (yl_assign rfl rfl (SeqR.done (tn (CW.ret (rr rfl (.cons rfl .nil) ?_)))))))
  have hM10 : (s_l3Key p_s) = ((s_l3Bytes p_s ([46, 47] : Str))) := by simp only [s_l3Key, hb6, cond_true, cond_false, loopE_done, loopE_ret]
  rw [hM10]
  exact ⟨rfl, (Ex.trans (Ex.trans (Ex.refl w) hE5) hE9)⟩
 ·refine sz rfl rfl hb6 (sz rfl rfl hb6 (sd rfl (yl_pick_f rfl rfl hb6 rfl (sd rfl (yl_assign rfl rfl (SeqR.done (tn (CW.ret (rr rfl (.cons rfl .nil) ?_)))))))))
  have hM13 : (s_l3Key p_s) = (false) := by simp only [s_l3Key, hb6, cond_true, cond_false, loopE_done, loopE_ret]
  rw [hM13]
  exact ⟨rfl, (Ex.trans (Ex.refl w) hE5)⟩
set_option maxRecDepth 100000 in
set_option maxHeartbeats 2000000 in
theorem c_s_l3Val {w : World} (p_s : Str) (o1 : okS p_s) : Cal Try.prog 217 #[.string (bs (p_s))] w fun v w' => v = .bool ((s_l3Val p_s)) ∧ Ex w w' := by
 have hol2 : p_s.length ≤ 1073741824 := o1
 refine Cal.of (vs := [.string (bs (p_s))]) Try.func217 rfl Try.ntmps217 rfl (CW.seq (CW.region (sd rfl (yl_assign rfl rfl (SeqR.done (tn (CW.seq (CW.region (sd rfl (yl_move rfl rfl ?_))))))))))
 refine sd rfl (yl_slen Try.un9 (a := p_s) rfl rfl (sd rfl (yl_leq rfl rfl rfl (sd rfl (yl_move rfl rfl (bcase (decide ((p_s.length : Int) ≤ 24)) (fun hb3 => ?_) (fun hb3 => ?_)))))))
 ·have hb3p := dec_t hb3
  refine sy rfl rfl hb3 (yl_move rfl rfl (sy rfl rfl hb3 (yl_call Try.en210 rfl (opvs_cons rfl (opvs_cons rfl opvs_nil)) (Cal.mono (c_s_l3Bytes p_s ([46, 45, 44, 95] : Str) o1 (okS.lit rfl)) ?_))))
  rintro v5 w4 ⟨rfl, hE6⟩
  have hE6z := Ex.size hE6
  refine sd rfl (yl_pick_t rfl rfl hb3 rfl (sd rfl (yl_assign rfl rfl (SeqR.done (tn (CW.ret (rr rfl (.cons rfl .nil) ?_)))))))
  have hM7 : (s_l3Val p_s) = ((s_l3Bytes p_s ([46, 45, 44, 95] : Str))) := by simp only [s_l3Val, hb3, cond_true, cond_false, loopE_done, loopE_ret]
  rw [hM7]
  exact ⟨rfl, (Ex.trans (Ex.refl w) hE6)⟩
 ·have hb3p := dec_f hb3
  refine sz rfl rfl hb3 (sz rfl rfl hb3 (sd rfl (yl_pick_f rfl rfl hb3 rfl (sd rfl (yl_assign rfl rfl (SeqR.done (tn (CW.ret (rr rfl (.cons rfl .nil) ?_)))))))))
  have hM9 : (s_l3Val p_s) = (false) := by simp only [s_l3Val, hb3, cond_true, cond_false, loopE_done, loopE_ret]
  rw [hM9]
  exact ⟨rfl, (Ex.refl w)⟩
set_option maxRecDepth 100000 in
set_option maxHeartbeats 2000000 in
theorem c_s_l3Write {w : World} (p_key : Str) (p_val : Str) (p_gone : Bool) (o1 : okS p_key) (o2 : okS p_val) : Cal Try.prog 183 #[.string (bs (p_key)), .string (bs (p_val)), .bool (p_gone)] w fun v w' => v = .bool ((s_l3Write p_key p_val p_gone)) ∧ Ex w w' := by
 have hol3 : p_key.length ≤ 1073741824 := o1
 have hol4 : p_val.length ≤ 1073741824 := o2
 refine Cal.of (vs := [.string (bs (p_key)), .string (bs (p_val)), .bool (p_gone)]) Try.func183 rfl Try.ntmps183 rfl (CW.seq (CW.region (sd rfl (yl_assign rfl rfl (SeqR.done (tn (CW.seq (CW.region (sd rfl (yl_move rfl rfl ?_))))))))))
 refine sd rfl (yl_call Try.en216 rfl (opvs_cons rfl opvs_nil) (Cal.mono (c_s_l3Key p_key o1) ?_))
 rintro v6 w5 ⟨rfl, hE7⟩
 have hE7z := Ex.size hE7
 refine sd rfl (yl_move rfl rfl (bcase (s_l3Key p_key) (fun hb8 => ?_) (fun hb8 => ?_)))
 ·refine sy rfl rfl hb8 (yl_move rfl rfl (sy rfl rfl hb8 (yl_call Try.en217 rfl (opvs_cons rfl opvs_nil) (Cal.mono (c_s_l3Val p_val o2) ?_))))
  rintro v10 w9 ⟨rfl, hE11⟩
  have hE11z := Ex.size hE11
  refine sd rfl (yl_pick_t rfl rfl hb8 rfl (sd rfl (yl_move rfl rfl (bcase (s_l3Val p_val) (fun hb12 => ?_) (fun hb12 => ?_)))))
  ·refine sy rfl rfl hb12 (yl_move rfl rfl (sy rfl rfl hb12 (yl_not rfl rfl (sy rfl rfl hb12 (yl_move rfl rfl (bcase (p_gone) (fun hb13 => ?_) (fun hb13 => ?_)))))))
   ·refine sy rfl rfl (not_t hb13) (yl_move rfl rfl (sy rfl rfl (not_t hb13) (yl_seql (a := p_val) (b := ([] : Str)) rfl rfl rfl (sy rfl rfl hb12 (yl_pick_f rfl rfl (not_t hb13) rfl (sd rfl (yl_pick_t rfl rfl hb12 rfl (sd rfl (yl_assign rfl rfl (SeqR.done (tn (CW.ret (rr rfl (.cons rfl .nil) ?_)))))))))))))
    have hM14 : (s_l3Write p_key p_val p_gone) = (p_val == ([] : Str)) := by simp only [s_l3Write, hb8, hb12, hb13, cond_true, cond_false, loopE_done, loopE_ret]
    rw [hM14]
    exact ⟨rfl, (Ex.trans (Ex.trans (Ex.refl w) hE7) hE11)⟩
   ·refine sz rfl rfl (not_f hb13) (sz rfl rfl (not_f hb13) (sy rfl rfl hb12 (yl_pick_t rfl rfl (not_f hb13) rfl (sd rfl (yl_pick_t rfl rfl hb12 rfl (sd rfl (yl_assign rfl rfl (SeqR.done (tn (CW.ret (rr rfl (.cons rfl .nil) ?_)))))))))))
    have hM17 : (s_l3Write p_key p_val p_gone) = (true) := by simp only [s_l3Write, hb8, hb12, hb13, cond_true, cond_false, loopE_done, loopE_ret]
    rw [hM17]
    exact ⟨rfl, (Ex.trans (Ex.trans (Ex.refl w) hE7) hE11)⟩
  ·refine sz rfl rfl hb12 (sz rfl rfl hb12 (sz rfl rfl hb12 (sq rfl rfl (sq rfl rfl (sz rfl rfl hb12 (sd rfl (yl_pick_f rfl rfl hb12 rfl (sd rfl (yl_assign rfl rfl (SeqR.done ?_))))))))))
   refine tn (CW.ret (rr rfl (.cons rfl .nil) ?_))
   have hM20 : (s_l3Write p_key p_val p_gone) = (false) := by simp only [s_l3Write, hb8, hb12, cond_true, cond_false, loopE_done, loopE_ret]
   rw [hM20]
   exact ⟨rfl, (Ex.trans (Ex.trans (Ex.refl w) hE7) hE11)⟩
 ·refine sz rfl rfl hb8 (sz rfl rfl hb8 (sd rfl (yl_pick_f rfl rfl hb8 rfl (sd rfl (yl_move rfl rfl (sz rfl rfl rfl (sz rfl rfl rfl (sz rfl rfl rfl (sq rfl rfl (sq rfl rfl ?_))))))))))
  refine sz rfl rfl rfl (sd rfl (yl_pick_f rfl rfl rfl rfl (sd rfl (yl_assign rfl rfl (SeqR.done (tn (CW.ret (rr rfl (.cons rfl .nil) ?_))))))))
  have hM23 : (s_l3Write p_key p_val p_gone) = (false) := by simp only [s_l3Write, hb8, cond_true, cond_false, loopE_done, loopE_ret]
  rw [hM23]
  exact ⟨rfl, (Ex.trans (Ex.refl w) hE7)⟩
set_option maxRecDepth 100000 in
set_option maxHeartbeats 2000000 in
theorem c_s_l23Good {w : World} (p_c : DFeedItem) (o1 : ok_FeedItem p_c) : Cal Try.prog 193 #[.agg #[.int .i64 (p_c.Time), .int .i64 (p_c.Group), .string (bs (p_c.Key)), .string (bs (p_c.Val)), .bool (p_c.Gone)]] w fun v w' => v = .bool ((s_l23Good p_c)) ∧ Ex w w' := by
 have hol2 : p_c.Key.length ≤ 1073741824 := o1.1
 have hol3 : p_c.Val.length ≤ 1073741824 := o1.2
 refine Cal.of (vs := [.agg #[.int .i64 (p_c.Time), .int .i64 (p_c.Group), .string (bs (p_c.Key)), .string (bs (p_c.Val)), .bool (p_c.Gone)]]) Try.func193 rfl Try.ntmps193 rfl (CW.seq (CW.region (sd rfl (yl_box (cs := [.int .i64 (p_c.Time), .int .i64 (p_c.Group), .string (bs (p_c.Key)), .string (bs (p_c.Val)), .bool (p_c.Gone)]) rfl rfl rfl ?_))))
 intro b4 w5 hs6 hz7 hB8 hE9
 refine sd rfl (yl_assign rfl rfl (SeqR.done (tn (CW.seq (CW.region (sd rfl (yl_fieldAddr Try.fd140_0 rfl rfl (sd rfl (yl_load1 Try.ty3 rfl rfl ((hB8.cell 0).trans rfl) (sd rfl (yl_call Try.en72 rfl (opvs_cons rfl (opvs_cons rfl (opvs_cons rfl opvs_nil))) (Cal.mono (c_s_l1In p_c.Time 1 100000) ?_))))))))))))
 rintro v11 w10 ⟨rfl, hE12⟩
 have hE12z := Ex.size hE12
 refine sd rfl (yl_move rfl rfl (bcase (s_l1In p_c.Time 1 100000) (fun hb13 => ?_) (fun hb13 => ?_)))
 ·have hb13p := f_l1In hb13
  refine sy rfl rfl hb13 (yl_fieldAddr Try.fd140_1 rfl rfl ?_)
  have q14 := Box.ex hB8 hE12
  refine sy rfl rfl hb13 (yl_load1 Try.ty3 rfl rfl ((q14.cell 1).trans rfl) (sy rfl rfl hb13 (yl_call Try.en72 rfl (opvs_cons rfl (opvs_cons rfl (opvs_cons rfl opvs_nil))) (Cal.mono (c_s_l1In p_c.Group 0 3) ?_))))
  rintro v16 w15 ⟨rfl, hE17⟩
  have hE17z := Ex.size hE17
  refine sd rfl (yl_pick_t rfl rfl hb13 rfl (sd rfl (yl_move rfl rfl (bcase (s_l1In p_c.Group 0 3) (fun hb18 => ?_) (fun hb18 => ?_)))))
  ·have hb18p := f_l1In hb18
   refine sy rfl rfl hb18 (yl_fieldAddr Try.fd140_2 rfl rfl ?_)
   have q19 := Box.ex q14 hE17
   refine sy rfl rfl hb18 (yl_load1 Try.ty9 rfl rfl ((q19.cell 2).trans rfl) (sy rfl rfl hb18 (yl_fieldAddr Try.fd140_3 rfl rfl (sy rfl rfl hb18 (yl_load1 Try.ty9 rfl rfl ((q19.cell 3).trans rfl) (sy rfl rfl hb18 (yl_fieldAddr Try.fd140_4 rfl rfl (sy rfl rfl hb18 (yl_load1 Try.ty4 rfl rfl ((q19.cell 4).trans rfl) (sy rfl rfl hb18 (yl_call Try.en183 rfl (opvs_cons rfl (opvs_cons rfl (opvs_cons rfl opvs_nil))) (Cal.mono (c_s_l3Write p_c.Key p_c.Val p_c.Gone o1.1 o1.2) ?_))))))))))))
   rintro v21 w20 ⟨rfl, hE22⟩
   have hE22z := Ex.size hE22
   refine sd rfl (yl_pick_t rfl rfl hb18 rfl (sd rfl (yl_assign rfl rfl (SeqR.done (tn (CW.ret (rr rfl (.cons rfl .nil) ?_)))))))
   have hM23 : (s_l23Good p_c) = ((s_l3Write p_c.Key p_c.Val p_c.Gone)) := by simp only [s_l23Good, hb13, hb18, cond_true, cond_false, loopE_done, loopE_ret]
   rw [hM23]
   exact ⟨rfl, (Ex.trans (Ex.trans (Ex.trans (Ex.trans (Ex.refl w) hE9) hE12) hE17) hE22)⟩
  ·refine sz rfl rfl hb18 (sz rfl rfl hb18 (sz rfl rfl hb18 (sz rfl rfl hb18 (sz rfl rfl hb18 (sz rfl rfl hb18 (sz rfl rfl hb18 (sd rfl (yl_pick_f rfl rfl hb18 rfl (sd rfl (yl_assign rfl rfl ?_))))))))))
   refine SeqR.done (tn (CW.ret (rr rfl (.cons rfl .nil) ?_)))
   have hM28 : (s_l23Good p_c) = (false) := by simp only [s_l23Good, hb13, hb18, cond_true, cond_false, loopE_done, loopE_ret]
   rw [hM28]
   exact ⟨rfl, (Ex.trans (Ex.trans (Ex.trans (Ex.refl w) hE9) hE12) hE17)⟩
 ·refine sz rfl rfl hb13 (sz rfl rfl hb13 (sz rfl rfl hb13 (sd rfl (yl_pick_f rfl rfl hb13 rfl (sd rfl (yl_move rfl rfl (sz rfl rfl rfl (sz rfl rfl rfl (sz rfl rfl rfl (sz rfl rfl rfl ?_))))))))))
  refine sz rfl rfl rfl (sz rfl rfl rfl (sz rfl rfl rfl (sd rfl (yl_pick_f rfl rfl rfl rfl (sd rfl (yl_assign rfl rfl (SeqR.done (tn (CW.ret (rr rfl (.cons rfl .nil) ?_))))))))))
  have hM32 : (s_l23Good p_c) = (false) := by simp only [s_l23Good, hb13, cond_true, cond_false, loopE_done, loopE_ret]
  rw [hM32]
  exact ⟨rfl, (Ex.trans (Ex.trans (Ex.refl w) hE9) hE12)⟩
set_option maxRecDepth 100000 in
set_option maxHeartbeats 2000000 in
theorem c_s_l23Ahead {w : World} (p_a : DFeedItem) (p_b : DFeedItem) (o1 : ok_FeedItem p_a) (o2 : ok_FeedItem p_b) : Cal Try.prog 194 #[.agg #[.int .i64 (p_a.Time), .int .i64 (p_a.Group), .string (bs (p_a.Key)), .string (bs (p_a.Val)), .bool (p_a.Gone)], .agg #[.int .i64 (p_b.Time), .int .i64 (p_b.Group), .string (bs (p_b.Key)), .string (bs (p_b.Val)), .bool (p_b.Gone)]] w fun v w' => v = .bool ((s_l23Ahead p_a p_b)) ∧ Ex w w' := by
 have hol3 : p_a.Key.length ≤ 1073741824 := o1.1
 have hol4 : p_a.Val.length ≤ 1073741824 := o1.2
 have hol5 : p_b.Key.length ≤ 1073741824 := o2.1
 have hol6 : p_b.Val.length ≤ 1073741824 := o2.2
 refine Cal.of (vs := [.agg #[.int .i64 (p_a.Time), .int .i64 (p_a.Group), .string (bs (p_a.Key)), .string (bs (p_a.Val)), .bool (p_a.Gone)], .agg #[.int .i64 (p_b.Time), .int .i64 (p_b.Group), .string (bs (p_b.Key)), .string (bs (p_b.Val)), .bool (p_b.Gone)]]) Try.func194 rfl Try.ntmps194 rfl (CW.seq (CW.region (sd rfl (yl_box (cs := [.int .i64 (p_a.Time), .int .i64 (p_a.Group), .string (bs (p_a.Key)), .string (bs (p_a.Val)), .bool (p_a.Gone)]) rfl rfl rfl ?_))))
 intro b7 w8 hs9 hz10 hB11 hE12
 refine sd rfl (yl_box (cs := [.int .i64 (p_b.Time), .int .i64 (p_b.Group), .string (bs (p_b.Key)), .string (bs (p_b.Val)), .bool (p_b.Gone)]) rfl rfl rfl ?_)
 intro b13 w14 hs15 hz16 hB17 hE18
 refine sd rfl (yl_assign rfl rfl (SeqR.done (tn (CW.seq (CW.seq (CW.region (sd rfl (yl_fieldAddr Try.fd140_0 rfl rfl ?_))))))))
 have q19 := Box.ex hB11 hE18
 refine sd rfl (yl_load1 Try.ty3 rfl rfl ((q19.cell 0).trans rfl) (sd rfl (yl_fieldAddr Try.fd140_0 rfl rfl (sd rfl (yl_load1 Try.ty3 rfl rfl ((hB17.cell 0).trans rfl) (sd rfl (yl_neq rfl rfl rfl (SeqR.done (tn (bcase (decide (p_a.Time = p_b.Time)) (fun hb20 => ?_) (fun hb20 => ?_)))))))))))
 ·have hb20p := dec_t hb20
  refine CW.cond_f rfl (not_t hb20) (CW.skip (tn (CW.seq (CW.seq (CW.region (sd rfl (yl_fieldAddr Try.fd140_1 rfl rfl (sd rfl (yl_load1 Try.ty3 rfl rfl ((q19.cell 1).trans rfl) (sd rfl (yl_fieldAddr Try.fd140_1 rfl rfl ?_)))))))))))
  refine sd rfl (yl_load1 Try.ty3 rfl rfl ((hB17.cell 1).trans rfl) (sd rfl (yl_neq rfl rfl rfl (SeqR.done (tn (bcase (decide (p_a.Group = p_b.Group)) (fun hb21 => ?_) (fun hb21 => ?_)))))))
  ·have hb21p := dec_t hb21
   refine CW.cond_f rfl (not_t hb21) (CW.skip (tn (CW.seq (CW.region (sd rfl (yl_fieldAddr Try.fd140_2 rfl rfl (sd rfl (yl_load1 Try.ty9 rfl rfl ((q19.cell 2).trans rfl) (sd rfl (yl_fieldAddr Try.fd140_2 rfl rfl (sd rfl (yl_load1 Try.ty9 rfl rfl ((hB17.cell 2).trans rfl) ?_))))))))))))
   refine sd rfl (yl_slss (a := p_a.Key) (b := p_b.Key) rfl rfl rfl (sd rfl (yl_assign rfl rfl (SeqR.done (tn (CW.ret (rr rfl (.cons rfl .nil) ?_)))))))
   have hM22 : (s_l23Ahead p_a p_b) = (sLt p_a.Key p_b.Key) := by simp only [s_l23Ahead, hb20, hb21, cond_true, cond_false, loopE_done, loopE_ret]
   rw [hM22]
   exact ⟨rfl, (Ex.trans (Ex.trans (Ex.refl w) hE12) hE18)⟩
  ·have hb21p := dec_f hb21
   refine CW.cond_t rfl (not_f hb21) (CW.seq (CW.region (sd rfl (yl_fieldAddr Try.fd140_1 rfl rfl (sd rfl (yl_load1 Try.ty3 rfl rfl ((q19.cell 1).trans rfl) (sd rfl (yl_fieldAddr Try.fd140_1 rfl rfl (sd rfl (yl_load1 Try.ty3 rfl rfl ((hB17.cell 1).trans rfl) (sd rfl (yl_lss rfl rfl rfl (sd rfl (yl_assign rfl rfl ?_))))))))))))))
   refine SeqR.done (tn (CW.ret (tr (rr rfl (.cons rfl .nil) ?_))))
   have hM25 : (s_l23Ahead p_a p_b) = (decide (p_a.Group < p_b.Group)) := by simp only [s_l23Ahead, hb20, hb21, cond_true, cond_false, loopE_done, loopE_ret]
   rw [hM25]
   exact ⟨rfl, (Ex.trans (Ex.trans (Ex.refl w) hE12) hE18)⟩
 ·have hb20p := dec_f hb20
  refine CW.cond_t rfl (not_f hb20) (CW.seq (CW.region (sd rfl (yl_fieldAddr Try.fd140_0 rfl rfl (sd rfl (yl_load1 Try.ty3 rfl rfl ((q19.cell 0).trans rfl) (sd rfl (yl_fieldAddr Try.fd140_0 rfl rfl (sd rfl (yl_load1 Try.ty3 rfl rfl ((hB17.cell 0).trans rfl) (sd rfl (yl_lss rfl rfl rfl (sd rfl (yl_assign rfl rfl ?_))))))))))))))
  refine SeqR.done (tn (CW.ret (tr (rr rfl (.cons rfl .nil) ?_))))
  have hM28 : (s_l23Ahead p_a p_b) = (decide (p_a.Time < p_b.Time)) := by simp only [s_l23Ahead, hb20, cond_true, cond_false, loopE_done, loopE_ret]
  rw [hM28]
  exact ⟨rfl, (Ex.trans (Ex.trans (Ex.refl w) hE12) hE18)⟩
set_option maxRecDepth 100000 in
set_option maxHeartbeats 2000000 in
theorem c_s_l23Feed {A1 : Option Addr} {c1 : Nat} {w : World} (p_l : List DFeedItem) (h1 : RdS w (Iv 0 w.heap.size) (RF e_FeedItem) 5 A1 p_l.length c1 p_l) (o2 : (okL ok_FeedItem) p_l) : Cal Try.prog 148 #[.slice A1 p_l.length c1] w fun v w' => v = .bool ((s_l23Feed p_l)) ∧ Ex w w' := by
 have hol3 := o2.1
 refine Cal.of (vs := [.slice A1 p_l.length c1]) Try.func148 rfl Try.ntmps148 rfl (CW.seq (CW.region (sd rfl (yl_assign rfl rfl (SeqR.done (tn (CW.seq (CW.seq (CW.region ?_)))))))))
 refine sd rfl (yl_assign rfl rfl (SeqR.done (tn (CW.block (CW.loop (fun m5 L6 w7 => ∃ (k4 : Nat), m5 = p_l.length - k4 ∧ k4 ≤ p_l.length ∧ w.heap.size ≤ w7.heap.size ∧ lkp L6 0 = some (.slice A1 p_l.length c1) ∧ lkp L6 3 = some (.int .i64 ((k4 : Int))) ∧ RdS w7 (Iv 0 w.heap.size) (RF e_FeedItem) 5 A1 p_l.length c1 p_l ∧ Ex w w7 ∧ loopM (B_s_l23Feed_0 p_l) (p_l.length - k4) k4 () = loopM (B_s_l23Feed_0 p_l) (p_l.length - 0) 0 ()) (p_l.length - 0) ?_ ?_)))))
 ·exact ⟨0, rfl, (by omega), Nat.le_refl _, rfl, rfl, h1, (Ex.refl w), rfl⟩
 ·rintro m8 L9 w10 ⟨k4, rfl, hk11, hsz13, hl14, hl15, hf16, hf17, hI12⟩
  refine CW.sub (Sub.cons hl14 (Sub.cons hl15 (Sub.nil _))) ?_
  have hf17z := Ex.size hf17
  have hbg18 := RdS.big hf16
  rcases Nat.lt_or_ge k4 p_l.length with hlt19 | hlt19
  ·refine CW.seq (CW.seq (CW.region (sd rfl (yl_move rfl rfl (sd rfl (yl_move rfl rfl (sd rfl (yl_len Try.un83 rfl rfl (sd rfl (yl_lss rfl rfl rfl (sd rfl (yl_move rfl rfl (sy rfl rfl (lt_t hlt19) (yl_move rfl rfl ?_))))))))))))))
   refine sy rfl rfl (lt_t hlt19) (yl_leq rfl rfl rfl (sd rfl (yl_pick_t rfl rfl (lt_t hlt19) rfl (SeqR.done (tn (bcase (decide ((k4 : Int) ≤ 400)) (fun hb20 => ?_) (fun hb20 => ?_)))))))
   ·have hb20p := dec_t hb20
    refine CW.cond_t rfl hb20 (CW.skip (tn (CW.seq (CW.block (CW.seq ?_)))))
    obtain ⟨eb21, eo21, ec21, eA21, eS21, ebl21, el21, eR21, eC21⟩ := RdS.atD hf16 d_FeedItem (i := k4) (by first | omega | assumption)
    obtain rfl := eR21
    have eC21 : Cells w10 eb21 (eo21 + k4 * 5) [.int .i64 ((p_l.getD k4 d_FeedItem).Time), .int .i64 ((p_l.getD k4 d_FeedItem).Group), .string (bs ((p_l.getD k4 d_FeedItem).Key)), .string (bs ((p_l.getD k4 d_FeedItem).Val)), .bool ((p_l.getD k4 d_FeedItem).Gone)] := eC21
    refine bcase (s_l23Good (p_l.getD k4 d_FeedItem)) (fun hb23 => ?_) (fun hb23 => ?_)
    ·obtain ⟨eb24, eo24, ec24, eA24, eS24, ebl24, el24, eR24, eC24⟩ := RdS.atD hf16 d_FeedItem (i := k4) (by first | omega | assumption)
     obtain rfl := eR24
     have eC24 : Cells w10 eb24 (eo24 + k4 * 5) [.int .i64 ((p_l.getD k4 d_FeedItem).Time), .int .i64 ((p_l.getD k4 d_FeedItem).Group), .string (bs ((p_l.getD k4 d_FeedItem).Key)), .string (bs ((p_l.getD k4 d_FeedItem).Val)), .bool ((p_l.getD k4 d_FeedItem).Gone)] := eC24
     refine bcase (decide (0 < (k4 : Int))) (fun hb26 => ?_) (fun hb26 => ?_)
     ·have hb26p := dec_t hb26
      obtain ⟨eb27, eo27, ec27, eA27, eS27, ebl27, el27, eR27, eC27⟩ := RdS.atD hf16 d_FeedItem (i := k4) (by first | omega | assumption)
      obtain rfl := eR27
      have eC27 : Cells w10 eb27 (eo27 + k4 * 5) [.int .i64 ((p_l.getD k4 d_FeedItem).Time), .int .i64 ((p_l.getD k4 d_FeedItem).Group), .string (bs ((p_l.getD k4 d_FeedItem).Key)), .string (bs ((p_l.getD k4 d_FeedItem).Val)), .bool ((p_l.getD k4 d_FeedItem).Gone)] := eC27
      obtain ⟨eb29, eo29, ec29, eA29, eS29, ebl29, el29, eR29, eC29⟩ := RdS.atD hf16 d_FeedItem (i := (IntKind.wrap .i64 ((k4 : Int) - 1)).toNat) (by first | omega | assumption | (simp only [IntKind.wrap_i64] at *; omega))
      obtain rfl := eR29
      have eC29 : Cells w10 eb29 (eo29 + ((IntKind.wrap .i64 ((k4 : Int) - 1)).toNat) * 5) [.int .i64 ((p_l.getD ((IntKind.wrap .i64 ((k4 : Int) - 1)).toNat) d_FeedItem).Time), .int .i64 ((p_l.getD ((IntKind.wrap .i64 ((k4 : Int) - 1)).toNat) d_FeedItem).Group), .string (bs ((p_l.getD ((IntKind.wrap .i64 ((k4 : Int) - 1)).toNat) d_FeedItem).Key)), .string (bs ((p_l.getD ((IntKind.wrap .i64 ((k4 : Int) - 1)).toNat) d_FeedItem).Val)), .bool ((p_l.getD ((IntKind.wrap .i64 ((k4 : Int) - 1)).toNat) d_FeedItem).Gone)] := eC29
      refine CW.drawsI 23 (vgetI [DetI (.slice A1 p_l.length c1), DetI (.int .i64 ((k4 : Int))), DetI (.pointer (some ⟨eb27, eo27 + k4 * 5, none⟩)), DetI (.agg #[.int .i64 ((p_l.getD k4 d_FeedItem).Time), .int .i64 ((p_l.getD k4 d_FeedItem).Group), .string (bs ((p_l.getD k4 d_FeedItem).Key)), .string (bs ((p_l.getD k4 d_FeedItem).Val)), .bool ((p_l.getD k4 d_FeedItem).Gone)]), DetI (.bool ((s_l23Good (p_l.getD k4 d_FeedItem)))), DetI (.bool (!(s_l23Good (p_l.getD k4 d_FeedItem)))), DetI (.bool (!(s_l23Good (p_l.getD k4 d_FeedItem)))), DetI (.int .i64 ((k4 : Int))), DetI (.bool (decide (0 < (k4 : Int)))), DetI (.bool (decide (0 < (k4 : Int)))), DetI (.slice A1 p_l.length c1), DetI (.int .i64 ((k4 : Int))), DetI (.int .i64 (IntKind.wrap .i64 ((k4 : Int) - 1))), DetI (.pointer (some ⟨eb29, eo29 + ((IntKind.wrap .i64 ((k4 : Int) - 1)).toNat) * 5, none⟩)), DetI (.agg #[.int .i64 ((p_l.getD ((IntKind.wrap .i64 ((k4 : Int) - 1)).toNat) d_FeedItem).Time), .int .i64 ((p_l.getD ((IntKind.wrap .i64 ((k4 : Int) - 1)).toNat) d_FeedItem).Group), .string (bs ((p_l.getD ((IntKind.wrap .i64 ((k4 : Int) - 1)).toNat) d_FeedItem).Key)), .string (bs ((p_l.getD ((IntKind.wrap .i64 ((k4 : Int) - 1)).toNat) d_FeedItem).Val)), .bool ((p_l.getD ((IntKind.wrap .i64 ((k4 : Int) - 1)).toNat) d_FeedItem).Gone)]), DetI (.slice A1 p_l.length c1), DetI (.int .i64 ((k4 : Int))), DetI (.pointer (some ⟨eb27, eo27 + k4 * 5, none⟩)), DetI (.agg #[.int .i64 ((p_l.getD k4 d_FeedItem).Time), .int .i64 ((p_l.getD k4 d_FeedItem).Group), .string (bs ((p_l.getD k4 d_FeedItem).Key)), .string (bs ((p_l.getD k4 d_FeedItem).Val)), .bool ((p_l.getD k4 d_FeedItem).Gone)]), DetI (.bool ((s_l23Ahead (p_l.getD ((IntKind.wrap .i64 ((k4 : Int) - 1)).toNat) d_FeedItem) (p_l.getD k4 d_FeedItem)))), DetI (.bool (!(s_l23Ahead (p_l.getD ((IntKind.wrap .i64 ((k4 : Int) - 1)).toNat) d_FeedItem) (p_l.getD k4 d_FeedItem)))), DetI (.bool (!(s_l23Ahead (p_l.getD ((IntKind.wrap .i64 ((k4 : Int) - 1)).toNat) d_FeedItem) (p_l.getD k4 d_FeedItem)))), DetI (.bool (!(s_l23Ahead (p_l.getD ((IntKind.wrap .i64 ((k4 : Int) - 1)).toNat) d_FeedItem) (p_l.getD k4 d_FeedItem))))]) Try.follows rfl rfl rfl rfl rfl rfl (vgetI_stable ⟨StableI.det _, StableI.det _, StableI.det _, StableI.det _, StableI.det _, StableI.det _, StableI.det _, StableI.det _, StableI.det _, StableI.det _, StableI.det _, StableI.det _, StableI.det _, StableI.det _, StableI.det _, StableI.det _, StableI.det _, StableI.det _, StableI.det _, StableI.det _, StableI.det _, StableI.det _, StableI.det _, trivial⟩) ⟨?_, ?_, ?_, ?_, ?_, ?_, ?_, ?_, ?_, ?_, ?_, ?_, ?_, ?_, ?_, ?_, ?_, ?_, ?_, ?_, ?_, ?_, ?_, trivial⟩ ?_
      ·exact fun _ _ h => os rfl ((yl_move rfl (h.old 0 _ rfl rfl) kI))
      ·exact fun _ _ h => os rfl ((yl_move rfl (h.old 3 _ rfl rfl) kI))
      ·intro L41 w42 hi43
       have hE44 := hi43.ex
       have hE44z := Ex.size hE44
       exact os rfl ((yl_indexAddrN Try.un83 Try.ty140 rfl (hi43.dt 0 14 rfl rfl rfl) (hi43.dt 1 15 rfl rfl rfl) eA27 (by first | omega | assumption | (simp only [IntKind.wrap_i64] at *; omega)) kI))
      ·exact fun _ _ h => os rfl ((yl_loadN (cs := [.int .i64 ((p_l.getD k4 d_FeedItem).Time), .int .i64 ((p_l.getD k4 d_FeedItem).Group), .string (bs ((p_l.getD k4 d_FeedItem).Key)), .string (bs ((p_l.getD k4 d_FeedItem).Val)), .bool ((p_l.getD k4 d_FeedItem).Gone)]) Try.ty140 rfl (h.dt 2 16 rfl rfl rfl) (Cells.ex eC27 h.ex) rfl kI))
      ·intro L53 w54 hi55
       refine OpR.op' rfl (yl_call Try.en193 rfl (opvs_cons (hi55.dt 3 17 rfl rfl rfl) opvs_nil) (Cal.mono (c_s_l23Good (p_l.getD k4 d_FeedItem) (okL.getD o2 ok_d_FeedItem _)) ?_))
       rintro v59 w58 ⟨rfl, hE60⟩
       exact ⟨rfl, hE60⟩
      ·exact fun _ _ h => os rfl ((yl_not rfl (h.dt 4 18 rfl rfl rfl) kI))
      ·exact fun _ _ h => os rfl ((yl_move rfl (h.dt 5 19 rfl rfl rfl) kI))
      ·exact fun _ _ h => OpR.want rfl rfl (h.dt 6 20 rfl rfl rfl) (not_t hb23) (Yl.sameI (yl_move rfl (h.old 3 _ rfl rfl) kI))
      ·exact fun _ _ h => OpR.want rfl rfl (h.dt 6 20 rfl rfl rfl) (not_t hb23) (Yl.sameI (yl_gtr rfl (h.dt 7 21 rfl rfl rfl) rfl kI))
      ·exact fun _ _ h => OpR.want rfl rfl (h.dt 6 20 rfl rfl rfl) (not_t hb23) (Yl.sameI (yl_move rfl (h.dt 8 22 rfl rfl rfl) kI))
      ·exact fun _ _ h => OpR.want rfl rfl (h.dt 9 23 rfl rfl rfl) hb26 (Yl.sameI (yl_move rfl (h.old 0 _ rfl rfl) kI))
      ·exact fun _ _ h => OpR.want rfl rfl (h.dt 9 23 rfl rfl rfl) hb26 (Yl.sameI (yl_move rfl (h.old 3 _ rfl rfl) kI))
      ·exact fun _ _ h => OpR.want rfl rfl (h.dt 9 23 rfl rfl rfl) hb26 (Yl.sameI (yl_sub rfl (h.dt 11 25 rfl rfl rfl) rfl kI))
      ·intro L107 w108 hi109
       have hE110 := hi109.ex
       have hE110z := Ex.size hE110
       exact OpR.want rfl rfl (hi109.dt 9 23 rfl rfl rfl) hb26 (Yl.sameI (yl_indexAddr Try.un83 Try.ty140 rfl (hi109.dt 10 24 rfl rfl rfl) (hi109.dt 12 26 rfl rfl rfl) eA29 (by first | omega | assumption | (simp only [IntKind.wrap_i64] at *; omega)) (by first | omega | assumption | (simp only [IntKind.wrap_i64] at *; omega)) kI))
      ·exact fun _ _ h => OpR.want rfl rfl (h.dt 9 23 rfl rfl rfl) hb26 (Yl.sameI (yl_loadN (cs := [.int .i64 ((p_l.getD ((IntKind.wrap .i64 ((k4 : Int) - 1)).toNat) d_FeedItem).Time), .int .i64 ((p_l.getD ((IntKind.wrap .i64 ((k4 : Int) - 1)).toNat) d_FeedItem).Group), .string (bs ((p_l.getD ((IntKind.wrap .i64 ((k4 : Int) - 1)).toNat) d_FeedItem).Key)), .string (bs ((p_l.getD ((IntKind.wrap .i64 ((k4 : Int) - 1)).toNat) d_FeedItem).Val)), .bool ((p_l.getD ((IntKind.wrap .i64 ((k4 : Int) - 1)).toNat) d_FeedItem).Gone)]) Try.ty140 rfl (h.dt 13 27 rfl rfl rfl) (Cells.ex eC29 h.ex) rfl kI))
      ·exact fun _ _ h => OpR.want rfl rfl (h.dt 9 23 rfl rfl rfl) hb26 (Yl.sameI (yl_move rfl (h.old 0 _ rfl rfl) kI))
      ·exact fun _ _ h => OpR.want rfl rfl (h.dt 9 23 rfl rfl rfl) hb26 (Yl.sameI (yl_move rfl (h.old 3 _ rfl rfl) kI))
      ·intro L133 w134 hi135
       have hE136 := hi135.ex
       have hE136z := Ex.size hE136
       exact OpR.want rfl rfl (hi135.dt 9 23 rfl rfl rfl) hb26 (Yl.sameI (yl_indexAddrN Try.un83 Try.ty140 rfl (hi135.dt 15 29 rfl rfl rfl) (hi135.dt 16 30 rfl rfl rfl) eA27 (by first | omega | assumption | (simp only [IntKind.wrap_i64] at *; omega)) kI))
      ·exact fun _ _ h => OpR.want rfl rfl (h.dt 9 23 rfl rfl rfl) hb26 (Yl.sameI (yl_loadN (cs := [.int .i64 ((p_l.getD k4 d_FeedItem).Time), .int .i64 ((p_l.getD k4 d_FeedItem).Group), .string (bs ((p_l.getD k4 d_FeedItem).Key)), .string (bs ((p_l.getD k4 d_FeedItem).Val)), .bool ((p_l.getD k4 d_FeedItem).Gone)]) Try.ty140 rfl (h.dt 17 31 rfl rfl rfl) (Cells.ex eC27 h.ex) rfl kI))
      ·intro L147 w148 hi149
       refine OpR.want rfl rfl (hi149.dt 9 23 rfl rfl rfl) hb26 (yl_call Try.en194 rfl (opvs_cons (hi149.dt 14 28 rfl rfl rfl) (opvs_cons (hi149.dt 18 32 rfl rfl rfl) opvs_nil)) (Cal.mono (c_s_l23Ahead (p_l.getD ((IntKind.wrap .i64 ((k4 : Int) - 1)).toNat) d_FeedItem) (p_l.getD k4 d_FeedItem) (okL.getD o2 ok_d_FeedItem _) (okL.getD o2 ok_d_FeedItem _)) ?_))
       rintro v155 w154 ⟨rfl, hE156⟩
       exact ⟨rfl, hE156⟩
      ·exact fun _ _ h => OpR.want rfl rfl (h.dt 9 23 rfl rfl rfl) hb26 (Yl.sameI (yl_not rfl (h.dt 19 33 rfl rfl rfl) kI))
      ·exact fun _ _ h => OpR.want rfl rfl (h.dt 6 20 rfl rfl rfl) (not_t hb23) (Yl.sameI (yl_pick_t rfl (h.dt 9 23 rfl rfl rfl) hb26 (h.dt 20 34 rfl rfl rfl) kI))
      ·exact fun _ _ h => os rfl ((yl_pick_f rfl (h.dt 6 20 rfl rfl rfl) (not_t hb23) (h.dt 21 35 rfl rfl rfl) kI))
      ·intro fl179 fh180 L176 w177 hp178
       have hE181 := hp178.ex
       have hE181z := Ex.size hE181
       refine SeqR.done (tn (CW.sub (Sub.cons (d := 0) (hp178.old 0 _ rfl rfl) (Sub.cons (d := 3) (hp178.old 3 _ rfl rfl) (Sub.cons (d := 9) (hp178.old 9 _ rfl rfl) (Sub.cons (d := 10) (hp178.old 10 _ rfl rfl) (Sub.cons (d := 21) (hp178.nt 7 21 rfl rfl rfl) (Sub.cons (d := 22) (hp178.nt 8 22 rfl rfl rfl) (Sub.cons (d := 23) (hp178.nt 9 23 rfl rfl rfl) (Sub.cons (d := 24) (hp178.nt 10 24 rfl rfl rfl) (Sub.cons (d := 25) (hp178.nt 11 25 rfl rfl rfl) (Sub.cons (d := 26) (hp178.nt 12 26 rfl rfl rfl) (Sub.cons (d := 27) (hp178.nt 13 27 rfl rfl rfl) (Sub.cons (d := 28) (hp178.nt 14 28 rfl rfl rfl) (Sub.cons (d := 29) (hp178.nt 15 29 rfl rfl rfl) (Sub.cons (d := 30) (hp178.nt 16 30 rfl rfl rfl) (Sub.cons (d := 31) (hp178.nt 17 31 rfl rfl rfl) (Sub.cons (d := 32) (hp178.nt 18 32 rfl rfl rfl) (Sub.cons (d := 33) (hp178.nt 19 33 rfl rfl rfl) (Sub.cons (d := 34) (hp178.nt 20 34 rfl rfl rfl) (Sub.cons (d := 35) (hp178.nt 21 35 rfl rfl rfl) (Sub.cons (d := 36) (hp178.nt 22 36 rfl rfl rfl) (Sub.nil _))))))))))))))))))))) (bcase (s_l23Ahead (p_l.getD ((IntKind.wrap .i64 ((k4 : Int) - 1)).toNat) d_FeedItem) (p_l.getD k4 d_FeedItem)) (fun hb202 => ?_) (fun hb202 => ?_))))
       ·refine CW.cond_f rfl (not_t hb202) (CW.skip (bn (tn (CW.region (sd rfl (yl_move rfl rfl (sd rfl (yl_inc rfl rfl rfl (by omega) (sd rfl (yl_assign rfl rfl (SeqR.done ?_)))))))))))
        refine tn ?_
        have hB203 : B_s_l23Feed_0 p_l k4 () = .cont () := by simp only [B_s_l23Feed_0, hb20, hb23, hb26, hb202, cond_true, cond_false, loopE_done, loopE_ret]
        exact ⟨p_l.length - (k4 + 1), by omega, k4 + 1, rfl, hlt19, (by omega), rfl, rfl, (RdS.ex good_FeedItem hf16 hE181), (Ex.trans hf17 hE181), (loopM.cont hlt19 hB203).symm.trans hI12⟩
       ·refine CW.cond_t rfl (not_f hb202) (CW.seq (CW.region (sd rfl (yl_assign rfl rfl (SeqR.done (tn (CW.ret (br (tr ?_)))))))))
        refine tr ?_
        have hB207 : B_s_l23Feed_0 p_l k4 () = .ret false := by simp only [B_s_l23Feed_0, hb20, hb23, hb26, hb202, cond_true, cond_false, loopE_done, loopE_ret]
        have hL206 : loopM (B_s_l23Feed_0 p_l) (p_l.length - 0) 0 () = .ret false := hI12.symm.trans (loopM.ret hlt19 hB207)
        refine br (tr (rr rfl (.cons rfl .nil) ?_))
        have hM208 : (s_l23Feed p_l) = (false) := by simp only [s_l23Feed, hb20, hb23, hb26, hb202, hL206, cond_true, cond_false, loopE_done, loopE_ret]
        rw [hM208]
        exact ⟨rfl, (Ex.trans hf17 hE181)⟩
     ·have hb26p := dec_f hb26
      obtain ⟨eb210, eo210, ec210, eA210, eS210, ebl210, el210, eR210, eC210⟩ := RdS.atD hf16 d_FeedItem (i := k4) (by first | omega | assumption)
      obtain rfl := eR210
      have eC210 : Cells w10 eb210 (eo210 + k4 * 5) [.int .i64 ((p_l.getD k4 d_FeedItem).Time), .int .i64 ((p_l.getD k4 d_FeedItem).Group), .string (bs ((p_l.getD k4 d_FeedItem).Key)), .string (bs ((p_l.getD k4 d_FeedItem).Val)), .bool ((p_l.getD k4 d_FeedItem).Gone)] := eC210
      refine CW.drawsI 23 (vgetI [DetI (.slice A1 p_l.length c1), DetI (.int .i64 ((k4 : Int))), DetI (.pointer (some ⟨eb210, eo210 + k4 * 5, none⟩)), DetI (.agg #[.int .i64 ((p_l.getD k4 d_FeedItem).Time), .int .i64 ((p_l.getD k4 d_FeedItem).Group), .string (bs ((p_l.getD k4 d_FeedItem).Key)), .string (bs ((p_l.getD k4 d_FeedItem).Val)), .bool ((p_l.getD k4 d_FeedItem).Gone)]), DetI (.bool ((s_l23Good (p_l.getD k4 d_FeedItem)))), DetI (.bool (!(s_l23Good (p_l.getD k4 d_FeedItem)))), DetI (.bool (!(s_l23Good (p_l.getD k4 d_FeedItem)))), DetI (.int .i64 ((k4 : Int))), DetI (.bool (decide (0 < (k4 : Int)))), DetI (.bool (decide (0 < (k4 : Int)))), DetI (undef), DetI (undef), DetI (undef), DetI (undef), DetI (undef), DetI (undef), DetI (undef), DetI (undef), DetI (undef), DetI (undef), DetI (undef), DetI (.bool (false)), DetI (.bool (false))]) Try.follows rfl rfl rfl rfl rfl rfl (vgetI_stable ⟨StableI.det _, StableI.det _, StableI.det _, StableI.det _, StableI.det _, StableI.det _, StableI.det _, StableI.det _, StableI.det _, StableI.det _, StableI.det _, StableI.det _, StableI.det _, StableI.det _, StableI.det _, StableI.det _, StableI.det _, StableI.det _, StableI.det _, StableI.det _, StableI.det _, StableI.det _, StableI.det _, trivial⟩) ⟨?_, ?_, ?_, ?_, ?_, ?_, ?_, ?_, ?_, ?_, ?_, ?_, ?_, ?_, ?_, ?_, ?_, ?_, ?_, ?_, ?_, ?_, ?_, trivial⟩ ?_
      ·exact fun _ _ h => os rfl ((yl_move rfl (h.old 0 _ rfl rfl) kI))
      ·exact fun _ _ h => os rfl ((yl_move rfl (h.old 3 _ rfl rfl) kI))
      ·intro L222 w223 hi224
       have hE225 := hi224.ex
       have hE225z := Ex.size hE225
       exact os rfl ((yl_indexAddrN Try.un83 Try.ty140 rfl (hi224.dt 0 14 rfl rfl rfl) (hi224.dt 1 15 rfl rfl rfl) eA210 (by first | omega | assumption | (simp only [IntKind.wrap_i64] at *; omega)) kI))
      ·exact fun _ _ h => os rfl ((yl_loadN (cs := [.int .i64 ((p_l.getD k4 d_FeedItem).Time), .int .i64 ((p_l.getD k4 d_FeedItem).Group), .string (bs ((p_l.getD k4 d_FeedItem).Key)), .string (bs ((p_l.getD k4 d_FeedItem).Val)), .bool ((p_l.getD k4 d_FeedItem).Gone)]) Try.ty140 rfl (h.dt 2 16 rfl rfl rfl) (Cells.ex eC210 h.ex) rfl kI))
      ·intro L234 w235 hi236
       refine OpR.op' rfl (yl_call Try.en193 rfl (opvs_cons (hi236.dt 3 17 rfl rfl rfl) opvs_nil) (Cal.mono (c_s_l23Good (p_l.getD k4 d_FeedItem) (okL.getD o2 ok_d_FeedItem _)) ?_))
       rintro v240 w239 ⟨rfl, hE241⟩
       exact ⟨rfl, hE241⟩
      ·exact fun _ _ h => os rfl ((yl_not rfl (h.dt 4 18 rfl rfl rfl) kI))
      ·exact fun _ _ h => os rfl ((yl_move rfl (h.dt 5 19 rfl rfl rfl) kI))
      ·exact fun _ _ h => OpR.want rfl rfl (h.dt 6 20 rfl rfl rfl) (not_t hb23) (Yl.sameI (yl_move rfl (h.old 3 _ rfl rfl) kI))
      ·exact fun _ _ h => OpR.want rfl rfl (h.dt 6 20 rfl rfl rfl) (not_t hb23) (Yl.sameI (yl_gtr rfl (h.dt 7 21 rfl rfl rfl) rfl kI))
      ·exact fun _ _ h => OpR.want rfl rfl (h.dt 6 20 rfl rfl rfl) (not_t hb23) (Yl.sameI (yl_move rfl (h.dt 8 22 rfl rfl rfl) kI))
      ·exact fun _ _ h => OpR.skip rfl rfl (h.dt 9 23 rfl rfl rfl) hb26 ⟨rfl, Ex.refl _⟩
      ·exact fun _ _ h => OpR.skip rfl rfl (h.dt 9 23 rfl rfl rfl) hb26 ⟨rfl, Ex.refl _⟩
      ·exact fun _ _ h => OpR.skip rfl rfl (h.dt 9 23 rfl rfl rfl) hb26 ⟨rfl, Ex.refl _⟩
      ·exact fun _ _ h => OpR.skip rfl rfl (h.dt 9 23 rfl rfl rfl) hb26 ⟨rfl, Ex.refl _⟩
      ·exact fun _ _ h => OpR.skip rfl rfl (h.dt 9 23 rfl rfl rfl) hb26 ⟨rfl, Ex.refl _⟩
      ·exact fun _ _ h => OpR.skip rfl rfl (h.dt 9 23 rfl rfl rfl) hb26 ⟨rfl, Ex.refl _⟩
      ·exact fun _ _ h => OpR.skip rfl rfl (h.dt 9 23 rfl rfl rfl) hb26 ⟨rfl, Ex.refl _⟩
      ·exact fun _ _ h => OpR.skip rfl rfl (h.dt 9 23 rfl rfl rfl) hb26 ⟨rfl, Ex.refl _⟩
      ·exact fun _ _ h => OpR.skip rfl rfl (h.dt 9 23 rfl rfl rfl) hb26 ⟨rfl, Ex.refl _⟩
      ·exact fun _ _ h => OpR.skip rfl rfl (h.dt 9 23 rfl rfl rfl) hb26 ⟨rfl, Ex.refl _⟩
      ·exact fun _ _ h => OpR.skip rfl rfl (h.dt 9 23 rfl rfl rfl) hb26 ⟨rfl, Ex.refl _⟩
      ·exact fun _ _ h => OpR.want rfl rfl (h.dt 6 20 rfl rfl rfl) (not_t hb23) (Yl.sameI (yl_pick_f rfl (h.dt 9 23 rfl rfl rfl) hb26 rfl kI))
      ·exact fun _ _ h => os rfl ((yl_pick_f rfl (h.dt 6 20 rfl rfl rfl) (not_t hb23) (h.dt 21 35 rfl rfl rfl) kI))
      ·intro fl341 fh342 L338 w339 hp340
       have hE343 := hp340.ex
       have hE343z := Ex.size hE343
       refine SeqR.done (tn (CW.sub (Sub.cons (d := 0) (hp340.old 0 _ rfl rfl) (Sub.cons (d := 3) (hp340.old 3 _ rfl rfl) (Sub.cons (d := 9) (hp340.old 9 _ rfl rfl) (Sub.cons (d := 10) (hp340.old 10 _ rfl rfl) (Sub.cons (d := 21) (hp340.nt 7 21 rfl rfl rfl) (Sub.cons (d := 22) (hp340.nt 8 22 rfl rfl rfl) (Sub.cons (d := 23) (hp340.nt 9 23 rfl rfl rfl) (Sub.cons (d := 24) (hp340.nt 10 24 rfl rfl rfl) (Sub.cons (d := 25) (hp340.nt 11 25 rfl rfl rfl) (Sub.cons (d := 26) (hp340.nt 12 26 rfl rfl rfl) (Sub.cons (d := 27) (hp340.nt 13 27 rfl rfl rfl) (Sub.cons (d := 28) (hp340.nt 14 28 rfl rfl rfl) (Sub.cons (d := 29) (hp340.nt 15 29 rfl rfl rfl) (Sub.cons (d := 30) (hp340.nt 16 30 rfl rfl rfl) (Sub.cons (d := 31) (hp340.nt 17 31 rfl rfl rfl) (Sub.cons (d := 32) (hp340.nt 18 32 rfl rfl rfl) (Sub.cons (d := 33) (hp340.nt 19 33 rfl rfl rfl) (Sub.cons (d := 34) (hp340.nt 20 34 rfl rfl rfl) (Sub.cons (d := 35) (hp340.nt 21 35 rfl rfl rfl) (Sub.cons (d := 36) (hp340.nt 22 36 rfl rfl rfl) (Sub.nil _))))))))))))))))))))) (CW.cond_f rfl rfl (CW.skip (bn (tn (CW.region (sd rfl (yl_move rfl rfl ?_)))))))))
       refine sd rfl (yl_inc rfl rfl rfl (by omega) (sd rfl (yl_assign rfl rfl (SeqR.done (tn ?_)))))
       have hB364 : B_s_l23Feed_0 p_l k4 () = .cont () := by simp only [B_s_l23Feed_0, hb20, hb23, hb26, cond_true, cond_false, loopE_done, loopE_ret]
       exact ⟨p_l.length - (k4 + 1), by omega, k4 + 1, rfl, hlt19, (by omega), rfl, rfl, (RdS.ex good_FeedItem hf16 hE343), (Ex.trans hf17 hE343), (loopM.cont hlt19 hB364).symm.trans hI12⟩
    ·obtain ⟨eb367, eo367, ec367, eA367, eS367, ebl367, el367, eR367, eC367⟩ := RdS.atD hf16 d_FeedItem (i := k4) (by first | omega | assumption)
     obtain rfl := eR367
     have eC367 : Cells w10 eb367 (eo367 + k4 * 5) [.int .i64 ((p_l.getD k4 d_FeedItem).Time), .int .i64 ((p_l.getD k4 d_FeedItem).Group), .string (bs ((p_l.getD k4 d_FeedItem).Key)), .string (bs ((p_l.getD k4 d_FeedItem).Val)), .bool ((p_l.getD k4 d_FeedItem).Gone)] := eC367
     refine CW.drawsI 23 (vgetI [DetI (.slice A1 p_l.length c1), DetI (.int .i64 ((k4 : Int))), DetI (.pointer (some ⟨eb367, eo367 + k4 * 5, none⟩)), DetI (.agg #[.int .i64 ((p_l.getD k4 d_FeedItem).Time), .int .i64 ((p_l.getD k4 d_FeedItem).Group), .string (bs ((p_l.getD k4 d_FeedItem).Key)), .string (bs ((p_l.getD k4 d_FeedItem).Val)), .bool ((p_l.getD k4 d_FeedItem).Gone)]), DetI (.bool ((s_l23Good (p_l.getD k4 d_FeedItem)))), DetI (.bool (!(s_l23Good (p_l.getD k4 d_FeedItem)))), DetI (.bool (!(s_l23Good (p_l.getD k4 d_FeedItem)))), DetI (undef), DetI (undef), DetI (undef), DetI (undef), DetI (undef), DetI (undef), DetI (undef), DetI (undef), DetI (undef), DetI (undef), DetI (undef), DetI (undef), DetI (undef), DetI (undef), DetI (undef), DetI (.bool (true))]) Try.follows rfl rfl rfl rfl rfl rfl (vgetI_stable ⟨StableI.det _, StableI.det _, StableI.det _, StableI.det _, StableI.det _, StableI.det _, StableI.det _, StableI.det _, StableI.det _, StableI.det _, StableI.det _, StableI.det _, StableI.det _, StableI.det _, StableI.det _, StableI.det _, StableI.det _, StableI.det _, StableI.det _, StableI.det _, StableI.det _, StableI.det _, StableI.det _, trivial⟩) ⟨?_, ?_, ?_, ?_, ?_, ?_, ?_, ?_, ?_, ?_, ?_, ?_, ?_, ?_, ?_, ?_, ?_, ?_, ?_, ?_, ?_, ?_, ?_, trivial⟩ ?_
     ·exact fun _ _ h => os rfl ((yl_move rfl (h.old 0 _ rfl rfl) kI))
     ·exact fun _ _ h => os rfl ((yl_move rfl (h.old 3 _ rfl rfl) kI))
     ·intro L379 w380 hi381
      have hE382 := hi381.ex
      have hE382z := Ex.size hE382
      exact os rfl ((yl_indexAddrN Try.un83 Try.ty140 rfl (hi381.dt 0 14 rfl rfl rfl) (hi381.dt 1 15 rfl rfl rfl) eA367 (by first | omega | assumption | (simp only [IntKind.wrap_i64] at *; omega)) kI))
     ·exact fun _ _ h => os rfl ((yl_loadN (cs := [.int .i64 ((p_l.getD k4 d_FeedItem).Time), .int .i64 ((p_l.getD k4 d_FeedItem).Group), .string (bs ((p_l.getD k4 d_FeedItem).Key)), .string (bs ((p_l.getD k4 d_FeedItem).Val)), .bool ((p_l.getD k4 d_FeedItem).Gone)]) Try.ty140 rfl (h.dt 2 16 rfl rfl rfl) (Cells.ex eC367 h.ex) rfl kI))
     ·intro L391 w392 hi393
      refine OpR.op' rfl (yl_call Try.en193 rfl (opvs_cons (hi393.dt 3 17 rfl rfl rfl) opvs_nil) (Cal.mono (c_s_l23Good (p_l.getD k4 d_FeedItem) (okL.getD o2 ok_d_FeedItem _)) ?_))
      rintro v397 w396 ⟨rfl, hE398⟩
      exact ⟨rfl, hE398⟩
     ·exact fun _ _ h => os rfl ((yl_not rfl (h.dt 4 18 rfl rfl rfl) kI))
     ·exact fun _ _ h => os rfl ((yl_move rfl (h.dt 5 19 rfl rfl rfl) kI))
     ·exact fun _ _ h => OpR.skip rfl rfl (h.dt 6 20 rfl rfl rfl) (not_f hb23) ⟨rfl, Ex.refl _⟩
     ·exact fun _ _ h => OpR.skip rfl rfl (h.dt 6 20 rfl rfl rfl) (not_f hb23) ⟨rfl, Ex.refl _⟩
     ·exact fun _ _ h => OpR.skip rfl rfl (h.dt 6 20 rfl rfl rfl) (not_f hb23) ⟨rfl, Ex.refl _⟩
     ·exact fun _ _ h => OpR.undef rfl rfl (h.dt 9 23 rfl rfl rfl) ⟨rfl, Ex.refl _⟩
     ·exact fun _ _ h => OpR.undef rfl rfl (h.dt 9 23 rfl rfl rfl) ⟨rfl, Ex.refl _⟩
     ·exact fun _ _ h => OpR.undef rfl rfl (h.dt 9 23 rfl rfl rfl) ⟨rfl, Ex.refl _⟩
     ·exact fun _ _ h => OpR.undef rfl rfl (h.dt 9 23 rfl rfl rfl) ⟨rfl, Ex.refl _⟩
     ·exact fun _ _ h => OpR.undef rfl rfl (h.dt 9 23 rfl rfl rfl) ⟨rfl, Ex.refl _⟩
     ·exact fun _ _ h => OpR.undef rfl rfl (h.dt 9 23 rfl rfl rfl) ⟨rfl, Ex.refl _⟩
     ·exact fun _ _ h => OpR.undef rfl rfl (h.dt 9 23 rfl rfl rfl) ⟨rfl, Ex.refl _⟩
     ·exact fun _ _ h => OpR.undef rfl rfl (h.dt 9 23 rfl rfl rfl) ⟨rfl, Ex.refl _⟩
     ·exact fun _ _ h => OpR.undef rfl rfl (h.dt 9 23 rfl rfl rfl) ⟨rfl, Ex.refl _⟩
     ·exact fun _ _ h => OpR.undef rfl rfl (h.dt 9 23 rfl rfl rfl) ⟨rfl, Ex.refl _⟩
     ·exact fun _ _ h => OpR.undef rfl rfl (h.dt 9 23 rfl rfl rfl) ⟨rfl, Ex.refl _⟩
     ·exact fun _ _ h => OpR.skip rfl rfl (h.dt 6 20 rfl rfl rfl) (not_f hb23) ⟨rfl, Ex.refl _⟩
     ·exact fun _ _ h => os rfl ((yl_pick_t rfl (h.dt 6 20 rfl rfl rfl) (not_f hb23) rfl kI))
     ·intro fl493 fh494 L490 w491 hp492
      have hE495 := hp492.ex
      have hE495z := Ex.size hE495
      refine SeqR.done (tn (CW.sub (Sub.cons (d := 0) (hp492.old 0 _ rfl rfl) (Sub.cons (d := 3) (hp492.old 3 _ rfl rfl) (Sub.cons (d := 9) (hp492.old 9 _ rfl rfl) (Sub.cons (d := 10) (hp492.old 10 _ rfl rfl) (Sub.cons (d := 21) (hp492.nt 7 21 rfl rfl rfl) (Sub.cons (d := 22) (hp492.nt 8 22 rfl rfl rfl) (Sub.cons (d := 23) (hp492.nt 9 23 rfl rfl rfl) (Sub.cons (d := 24) (hp492.nt 10 24 rfl rfl rfl) (Sub.cons (d := 25) (hp492.nt 11 25 rfl rfl rfl) (Sub.cons (d := 26) (hp492.nt 12 26 rfl rfl rfl) (Sub.cons (d := 27) (hp492.nt 13 27 rfl rfl rfl) (Sub.cons (d := 28) (hp492.nt 14 28 rfl rfl rfl) (Sub.cons (d := 29) (hp492.nt 15 29 rfl rfl rfl) (Sub.cons (d := 30) (hp492.nt 16 30 rfl rfl rfl) (Sub.cons (d := 31) (hp492.nt 17 31 rfl rfl rfl) (Sub.cons (d := 32) (hp492.nt 18 32 rfl rfl rfl) (Sub.cons (d := 33) (hp492.nt 19 33 rfl rfl rfl) (Sub.cons (d := 34) (hp492.nt 20 34 rfl rfl rfl) (Sub.cons (d := 35) (hp492.nt 21 35 rfl rfl rfl) (Sub.cons (d := 36) (hp492.nt 22 36 rfl rfl rfl) (Sub.nil _))))))))))))))))))))) (CW.cond_t rfl rfl (CW.seq (CW.region (sd rfl (yl_assign rfl rfl (SeqR.done (tn ?_)))))))))
      refine CW.ret (br (tr (tr ?_)))
      have hB517 : B_s_l23Feed_0 p_l k4 () = .ret false := by simp only [B_s_l23Feed_0, hb20, hb23, cond_true, cond_false, loopE_done, loopE_ret]
      have hL516 : loopM (B_s_l23Feed_0 p_l) (p_l.length - 0) 0 () = .ret false := hI12.symm.trans (loopM.ret hlt19 hB517)
      refine br (tr (rr rfl (.cons rfl .nil) ?_))
      have hM518 : (s_l23Feed p_l) = (false) := by simp only [s_l23Feed, hb20, hb23, hL516, cond_true, cond_false, loopE_done, loopE_ret]
      rw [hM518]
      exact ⟨rfl, (Ex.trans hf17 hE495)⟩
   ·have hb20p := dec_f hb20
    refine CW.cond_f rfl hb20 (CW.exit (tx (tx ?_)))
    have hB521 : B_s_l23Feed_0 p_l k4 () = .brk () := by simp only [B_s_l23Feed_0, hb20, cond_true, cond_false, loopE_done, loopE_ret]
    have hL520 : loopM (B_s_l23Feed_0 p_l) (p_l.length - 0) 0 () = .done () := hI12.symm.trans (loopM.brk hlt19 hB521)
    refine bx (tn (CW.seq (CW.region (sd rfl (yl_move rfl rfl (sd rfl (yl_len Try.un83 rfl rfl (sd rfl (yl_leq rfl rfl rfl (sd rfl (yl_assign rfl rfl (SeqR.done ?_))))))))))))
    refine tn (CW.ret (rr rfl (.cons rfl .nil) ?_))
    have hM522 : (s_l23Feed p_l) = (decide ((p_l.length : Int) ≤ 400)) := by simp only [s_l23Feed, hb20, hL520, cond_true, cond_false, loopE_done, loopE_ret]
    rw [hM522]
    exact ⟨rfl, hf17⟩
  ·refine CW.seq (CW.seq (CW.region (sd rfl (yl_move rfl rfl (sd rfl (yl_move rfl rfl (sd rfl (yl_len Try.un83 rfl rfl (sd rfl (yl_lss rfl rfl rfl (sd rfl (yl_move rfl rfl (sz rfl rfl (lt_f hlt19) ?_)))))))))))))
   refine sz rfl rfl (lt_f hlt19) (sd rfl (yl_pick_f rfl rfl (lt_f hlt19) rfl (SeqR.done (tn (CW.cond_f rfl rfl (CW.exit (tx (tx ?_))))))))
   have hL523 : loopM (B_s_l23Feed_0 p_l) (p_l.length - 0) 0 () = .done () := hI12.symm.trans (loopM.stop hlt19)
   refine bx (tn (CW.seq (CW.region (sd rfl (yl_move rfl rfl (sd rfl (yl_len Try.un83 rfl rfl (sd rfl (yl_leq rfl rfl rfl (sd rfl (yl_assign rfl rfl (SeqR.done ?_))))))))))))
   refine tn (CW.ret (rr rfl (.cons rfl .nil) ?_))
   have hM524 : (s_l23Feed p_l) = (decide ((p_l.length : Int) ≤ 400)) := by simp only [s_l23Feed, hL523, cond_true, cond_false, loopE_done, loopE_ret]
   rw [hM524]
   exact ⟨rfl, hf17⟩
set_option maxRecDepth 100000 in
set_option maxHeartbeats 2000000 in
theorem c_s_l31Diff {A1 : Option Addr} {c1 : Nat} {w : World} (p_d : DDiff) (h1 : RdS w (Iv 0 w.heap.size) (RF e_FeedItem) 5 A1 p_d.List.length c1 p_d.List) (o2 : ok_Diff p_d) : Cal Try.prog 98 #[.agg #[.int .i64 (p_d.From), .int .i64 (p_d.To), .slice A1 p_d.List.length c1]] w fun v w' => v = .bool ((s_l31Diff p_d)) ∧ Ex w w' := by
 have hol3 := o2.1
 refine Cal.of (vs := [.agg #[.int .i64 (p_d.From), .int .i64 (p_d.To), .slice A1 p_d.List.length c1]]) Try.func98 rfl Try.ntmps98 rfl (CW.seq (CW.region (sd rfl (yl_box (cs := [.int .i64 (p_d.From), .int .i64 (p_d.To), .slice A1 p_d.List.length c1]) rfl rfl rfl ?_))))
 intro b4 w5 hs6 hz7 hB8 hE9
 refine sd rfl (yl_assign rfl rfl (SeqR.done (tn (CW.seq (CW.seq (CW.region (sd rfl (yl_assign rfl rfl (SeqR.done (tn ?_))))))))))
 refine CW.block (CW.loop (fun m11 L12 w13 => ∃ (k10 : Nat), m11 = p_d.List.length - k10 ∧ k10 ≤ p_d.List.length ∧ w5.heap.size ≤ w13.heap.size ∧ lkp L12 1 = some (.pointer (some ⟨b4, 0, none⟩)) ∧ lkp L12 3 = some (.int .i64 ((k10 : Int))) ∧ Box w13 b4 85 [.int .i64 (p_d.From), .int .i64 (p_d.To), .slice A1 p_d.List.length c1] ∧ RdS w13 (Iv 0 w.heap.size) (RF e_FeedItem) 5 A1 p_d.List.length c1 p_d.List ∧ Ex w w13 ∧ loopM (B_s_l31Diff_0 p_d) (p_d.List.length - k10) k10 () = loopM (B_s_l31Diff_0 p_d) (p_d.List.length - 0) 0 ()) (p_d.List.length - 0) ?_ ?_)
 ·exact ⟨0, rfl, (by omega), Nat.le_refl _, rfl, rfl, hB8, (RdS.ex good_FeedItem h1 hE9), (Ex.trans (Ex.refl w) hE9), rfl⟩
 ·rintro m16 L17 w18 ⟨k10, rfl, hk19, hsz21, hl22, hl23, hf24, hf25, hf26, hI20⟩
  refine CW.sub (Sub.cons hl22 (Sub.cons hl23 (Sub.nil _))) ?_
  have hf24z := Box.lt hf24
  have hf26z := Ex.size hf26
  have hbg27 := RdS.big hf25
  rcases Nat.lt_or_ge k10 p_d.List.length with hlt28 | hlt28
  ·refine CW.seq (CW.seq (CW.region (sd rfl (yl_move rfl rfl (sd rfl (yl_fieldAddr Try.fd85_2 rfl rfl (sd rfl (yl_load1 Try.ty83 rfl rfl ((hf24.cell 2).trans rfl) (sd rfl (yl_len Try.un83 rfl rfl (sd rfl (yl_lss rfl rfl rfl (SeqR.done ?_)))))))))))))
   refine tn (CW.cond_t rfl (lt_t hlt28) (CW.skip (tn (CW.seq (CW.block (CW.seq ?_))))))
   obtain ⟨eb29, eo29, ec29, eA29, eS29, ebl29, el29, eR29, eC29⟩ := RdS.atD hf25 d_FeedItem (i := k10) (by first | omega | assumption)
   obtain rfl := eR29
   have eC29 : Cells w18 eb29 (eo29 + k10 * 5) [.int .i64 ((p_d.List.getD k10 d_FeedItem).Time), .int .i64 ((p_d.List.getD k10 d_FeedItem).Group), .string (bs ((p_d.List.getD k10 d_FeedItem).Key)), .string (bs ((p_d.List.getD k10 d_FeedItem).Val)), .bool ((p_d.List.getD k10 d_FeedItem).Gone)] := eC29
   refine bcase (decide (((p_d.List.getD k10 d_FeedItem).Group) = 0)) (fun hb30 => ?_) (fun hb30 => ?_)
   ·have hb30p := dec_t hb30
    obtain ⟨eb31, eo31, ec31, eA31, eS31, ebl31, el31, eR31, eC31⟩ := RdS.atD hf25 d_FeedItem (i := k10) (by first | omega | assumption)
    obtain rfl := eR31
    have eC31 : Cells w18 eb31 (eo31 + k10 * 5) [.int .i64 ((p_d.List.getD k10 d_FeedItem).Time), .int .i64 ((p_d.List.getD k10 d_FeedItem).Group), .string (bs ((p_d.List.getD k10 d_FeedItem).Key)), .string (bs ((p_d.List.getD k10 d_FeedItem).Val)), .bool ((p_d.List.getD k10 d_FeedItem).Gone)] := eC31
    refine CW.drawsI 22 (vgetI [DetI (.pointer (some ⟨b4, 0 + 2, none⟩)), DetI (.slice A1 p_d.List.length c1), DetI (.int .i64 ((k10 : Int))), DetI (.pointer (some ⟨eb31, eo31 + k10 * 5, none⟩)), DetI (.pointer (some ⟨eb31, eo31 + k10 * 5 + 1, none⟩)), DetI (.int .i64 ((p_d.List.getD k10 d_FeedItem).Group)), DetI (.bool (!(decide (((p_d.List.getD k10 d_FeedItem).Group) = 0)))), DetI (.bool (!(decide (((p_d.List.getD k10 d_FeedItem).Group) = 0)))), DetI (.pointer (some ⟨b4, 0 + 2, none⟩)), DetI (.slice A1 p_d.List.length c1), DetI (.int .i64 ((k10 : Int))), DetI (.pointer (some ⟨eb31, eo31 + k10 * 5, none⟩)), DetI (.pointer (some ⟨eb31, eo31 + k10 * 5 + 0, none⟩)), DetI (.int .i64 ((p_d.List.getD k10 d_FeedItem).Time)), DetI (.pointer (some ⟨b4, 0 + 0, none⟩)), DetI (.int .i64 (p_d.From)), DetI (.int .i64 (IntKind.wrap .i64 (p_d.From + 1))), DetI (.pointer (some ⟨b4, 0 + 1, none⟩)), DetI (.int .i64 (p_d.To)), DetI (.bool ((s_l1In ((p_d.List.getD k10 d_FeedItem).Time) (IntKind.wrap .i64 (p_d.From + 1)) p_d.To))), DetI (.bool (!(s_l1In ((p_d.List.getD k10 d_FeedItem).Time) (IntKind.wrap .i64 (p_d.From + 1)) p_d.To))), DetI (.bool (!(s_l1In ((p_d.List.getD k10 d_FeedItem).Time) (IntKind.wrap .i64 (p_d.From + 1)) p_d.To)))]) Try.follows rfl rfl rfl rfl rfl rfl (vgetI_stable ⟨StableI.det _, StableI.det _, StableI.det _, StableI.det _, StableI.det _, StableI.det _, StableI.det _, StableI.det _, StableI.det _, StableI.det _, StableI.det _, StableI.det _, StableI.det _, StableI.det _, StableI.det _, StableI.det _, StableI.det _, StableI.det _, StableI.det _, StableI.det _, StableI.det _, StableI.det _, trivial⟩) ⟨?_, ?_, ?_, ?_, ?_, ?_, ?_, ?_, ?_, ?_, ?_, ?_, ?_, ?_, ?_, ?_, ?_, ?_, ?_, ?_, ?_, ?_, trivial⟩ ?_
    ·exact fun _ _ h => os rfl ((yl_fieldAddr Try.fd85_2 rfl (h.old 1 _ rfl rfl) kI))
    ·exact fun _ _ h => os rfl ((yl_load1 Try.ty83 rfl (h.dt 0 11 rfl rfl rfl) (((Box.ex hf24 h.ex).cell 2).trans rfl) kI))
    ·exact fun _ _ h => os rfl ((yl_move rfl (h.old 3 _ rfl rfl) kI))
    ·intro L49 w50 hi51
     have hE52 := hi51.ex
     have hE52z := Ex.size hE52
     exact os rfl ((yl_indexAddrN Try.un83 Try.ty140 rfl (hi51.dt 1 12 rfl rfl rfl) (hi51.dt 2 13 rfl rfl rfl) eA31 (by first | omega | assumption | (simp only [IntKind.wrap_i64] at *; omega)) kI))
    ·exact fun _ _ h => os rfl ((yl_fieldAddr Try.fd140_1 rfl (h.dt 3 14 rfl rfl rfl) kI))
    ·exact fun _ _ h => os rfl ((yl_load1 Try.ty3 rfl (h.dt 4 15 rfl rfl rfl) ((Cells.ex eC31 h.ex) 1 _ rfl) kI))
    ·exact fun _ _ h => os rfl ((yl_neq rfl (h.dt 5 16 rfl rfl rfl) rfl kI))
    ·exact fun _ _ h => os rfl ((yl_move rfl (h.dt 6 17 rfl rfl rfl) kI))
    ·exact fun _ _ h => OpR.want rfl rfl (h.dt 7 18 rfl rfl rfl) (not_t hb30) (Yl.sameI (yl_fieldAddr Try.fd85_2 rfl (h.old 1 _ rfl rfl) kI))
    ·exact fun _ _ h => OpR.want rfl rfl (h.dt 7 18 rfl rfl rfl) (not_t hb30) (Yl.sameI (yl_load1 Try.ty83 rfl (h.dt 8 19 rfl rfl rfl) (((Box.ex hf24 h.ex).cell 2).trans rfl) kI))
    ·exact fun _ _ h => OpR.want rfl rfl (h.dt 7 18 rfl rfl rfl) (not_t hb30) (Yl.sameI (yl_move rfl (h.old 3 _ rfl rfl) kI))
    ·intro L95 w96 hi97
     have hE98 := hi97.ex
     have hE98z := Ex.size hE98
     exact OpR.want rfl rfl (hi97.dt 7 18 rfl rfl rfl) (not_t hb30) (Yl.sameI (yl_indexAddrN Try.un83 Try.ty140 rfl (hi97.dt 9 20 rfl rfl rfl) (hi97.dt 10 21 rfl rfl rfl) eA31 (by first | omega | assumption | (simp only [IntKind.wrap_i64] at *; omega)) kI))
    ·exact fun _ _ h => OpR.want rfl rfl (h.dt 7 18 rfl rfl rfl) (not_t hb30) (Yl.sameI (yl_fieldAddr Try.fd140_0 rfl (h.dt 11 22 rfl rfl rfl) kI))
    ·exact fun _ _ h => OpR.want rfl rfl (h.dt 7 18 rfl rfl rfl) (not_t hb30) (Yl.sameI (yl_load1 Try.ty3 rfl (h.dt 12 23 rfl rfl rfl) ((Cells.ex eC31 h.ex) 0 _ rfl) kI))
    ·exact fun _ _ h => OpR.want rfl rfl (h.dt 7 18 rfl rfl rfl) (not_t hb30) (Yl.sameI (yl_fieldAddr Try.fd85_0 rfl (h.old 1 _ rfl rfl) kI))
    ·exact fun _ _ h => OpR.want rfl rfl (h.dt 7 18 rfl rfl rfl) (not_t hb30) (Yl.sameI (yl_load1 Try.ty3 rfl (h.dt 14 25 rfl rfl rfl) (((Box.ex hf24 h.ex).cell 0).trans rfl) kI))
    ·exact fun _ _ h => OpR.want rfl rfl (h.dt 7 18 rfl rfl rfl) (not_t hb30) (Yl.sameI (yl_add rfl (h.dt 15 26 rfl rfl rfl) rfl kI))
    ·exact fun _ _ h => OpR.want rfl rfl (h.dt 7 18 rfl rfl rfl) (not_t hb30) (Yl.sameI (yl_fieldAddr Try.fd85_1 rfl (h.old 1 _ rfl rfl) kI))
    ·exact fun _ _ h => OpR.want rfl rfl (h.dt 7 18 rfl rfl rfl) (not_t hb30) (Yl.sameI (yl_load1 Try.ty3 rfl (h.dt 17 28 rfl rfl rfl) (((Box.ex hf24 h.ex).cell 1).trans rfl) kI))
    ·intro L147 w148 hi149
     refine OpR.want rfl rfl (hi149.dt 7 18 rfl rfl rfl) (not_t hb30) (yl_call Try.en72 rfl (opvs_cons (hi149.dt 13 24 rfl rfl rfl) (opvs_cons (hi149.dt 16 27 rfl rfl rfl) (opvs_cons (hi149.dt 18 29 rfl rfl rfl) opvs_nil))) (Cal.mono (c_s_l1In ((p_d.List.getD k10 d_FeedItem).Time) (IntKind.wrap .i64 (p_d.From + 1)) p_d.To) ?_))
     rintro v156 w155 ⟨rfl, hE157⟩
     exact ⟨rfl, hE157⟩
    ·exact fun _ _ h => OpR.want rfl rfl (h.dt 7 18 rfl rfl rfl) (not_t hb30) (Yl.sameI (yl_not rfl (h.dt 19 30 rfl rfl rfl) kI))
    ·exact fun _ _ h => os rfl ((yl_pick_f rfl (h.dt 7 18 rfl rfl rfl) (not_t hb30) (h.dt 20 31 rfl rfl rfl) kI))
    ·intro fl173 fh174 L170 w171 hp172
     have hE175 := hp172.ex
     have hE175z := Ex.size hE175
     refine SeqR.done (tn (CW.sub (Sub.cons (d := 1) (hp172.old 1 _ rfl rfl) (Sub.cons (d := 3) (hp172.old 3 _ rfl rfl) (Sub.cons (d := 19) (hp172.nt 8 19 rfl rfl rfl) (Sub.cons (d := 20) (hp172.nt 9 20 rfl rfl rfl) (Sub.cons (d := 21) (hp172.nt 10 21 rfl rfl rfl) (Sub.cons (d := 22) (hp172.nt 11 22 rfl rfl rfl) (Sub.cons (d := 23) (hp172.nt 12 23 rfl rfl rfl) (Sub.cons (d := 24) (hp172.nt 13 24 rfl rfl rfl) (Sub.cons (d := 25) (hp172.nt 14 25 rfl rfl rfl) (Sub.cons (d := 26) (hp172.nt 15 26 rfl rfl rfl) (Sub.cons (d := 27) (hp172.nt 16 27 rfl rfl rfl) (Sub.cons (d := 28) (hp172.nt 17 28 rfl rfl rfl) (Sub.cons (d := 29) (hp172.nt 18 29 rfl rfl rfl) (Sub.cons (d := 30) (hp172.nt 19 30 rfl rfl rfl) (Sub.cons (d := 31) (hp172.nt 20 31 rfl rfl rfl) (Sub.cons (d := 32) (hp172.nt 21 32 rfl rfl rfl) (Sub.nil _))))))))))))))))) (bcase (s_l1In ((p_d.List.getD k10 d_FeedItem).Time) (IntKind.wrap .i64 (p_d.From + 1)) p_d.To) (fun hb192 => ?_) (fun hb192 => ?_))))
     ·have hb192p := f_l1In hb192
      refine CW.cond_f rfl (not_t hb192) (CW.skip (bn (tn (CW.region (sd rfl (yl_move rfl rfl (sd rfl (yl_inc rfl rfl rfl (by omega) (sd rfl (yl_assign rfl rfl (SeqR.done ?_)))))))))))
      refine tn ?_
      have hB193 : B_s_l31Diff_0 p_d k10 () = .cont () := by simp only [B_s_l31Diff_0, hb30, hb192, cond_true, cond_false, loopE_done, loopE_ret]
      exact ⟨p_d.List.length - (k10 + 1), by omega, k10 + 1, rfl, hlt28, (by omega), rfl, rfl, (Box.ex hf24 hE175), (RdS.ex good_FeedItem hf25 hE175), (Ex.trans hf26 hE175), (loopM.cont hlt28 hB193).symm.trans hI20⟩
     ·refine CW.cond_t rfl (not_f hb192) (CW.seq (CW.region (sd rfl (yl_assign rfl rfl (SeqR.done (tn (CW.ret (br (tr ?_)))))))))
      refine tr ?_
      have hB198 : B_s_l31Diff_0 p_d k10 () = .ret false := by simp only [B_s_l31Diff_0, hb30, hb192, cond_true, cond_false, loopE_done, loopE_ret]
      have hL197 : loopM (B_s_l31Diff_0 p_d) (p_d.List.length - 0) 0 () = .ret false := hI20.symm.trans (loopM.ret hlt28 hB198)
      refine br (tr (rr rfl (.cons rfl .nil) ?_))
      have hM199 : (s_l31Diff p_d) = (false) := by simp only [s_l31Diff, hb30, hb192, hL197, cond_true, cond_false, loopE_done, loopE_ret]
      rw [hM199]
      exact ⟨rfl, (Ex.trans hf26 hE175)⟩
   ·have hb30p := dec_f hb30
    obtain ⟨eb201, eo201, ec201, eA201, eS201, ebl201, el201, eR201, eC201⟩ := RdS.atD hf25 d_FeedItem (i := k10) (by first | omega | assumption)
    obtain rfl := eR201
    have eC201 : Cells w18 eb201 (eo201 + k10 * 5) [.int .i64 ((p_d.List.getD k10 d_FeedItem).Time), .int .i64 ((p_d.List.getD k10 d_FeedItem).Group), .string (bs ((p_d.List.getD k10 d_FeedItem).Key)), .string (bs ((p_d.List.getD k10 d_FeedItem).Val)), .bool ((p_d.List.getD k10 d_FeedItem).Gone)] := eC201
    refine CW.drawsI 22 (vgetI [DetI (.pointer (some ⟨b4, 0 + 2, none⟩)), DetI (.slice A1 p_d.List.length c1), DetI (.int .i64 ((k10 : Int))), DetI (.pointer (some ⟨eb201, eo201 + k10 * 5, none⟩)), DetI (.pointer (some ⟨eb201, eo201 + k10 * 5 + 1, none⟩)), DetI (.int .i64 ((p_d.List.getD k10 d_FeedItem).Group)), DetI (.bool (!(decide (((p_d.List.getD k10 d_FeedItem).Group) = 0)))), DetI (.bool (!(decide (((p_d.List.getD k10 d_FeedItem).Group) = 0)))), DetI (undef), DetI (undef), DetI (undef), DetI (undef), DetI (undef), DetI (undef), DetI (undef), DetI (undef), DetI (undef), DetI (undef), DetI (undef), DetI (undef), DetI (undef), DetI (.bool (true))]) Try.follows rfl rfl rfl rfl rfl rfl (vgetI_stable ⟨StableI.det _, StableI.det _, StableI.det _, StableI.det _, StableI.det _, StableI.det _, StableI.det _, StableI.det _, StableI.det _, StableI.det _, StableI.det _, StableI.det _, StableI.det _, StableI.det _, StableI.det _, StableI.det _, StableI.det _, StableI.det _, StableI.det _, StableI.det _, StableI.det _, StableI.det _, trivial⟩) ⟨?_, ?_, ?_, ?_, ?_, ?_, ?_, ?_, ?_, ?_, ?_, ?_, ?_, ?_, ?_, ?_, ?_, ?_, ?_, ?_, ?_, ?_, trivial⟩ ?_
    ·exact fun _ _ h => os rfl ((yl_fieldAddr Try.fd85_2 rfl (h.old 1 _ rfl rfl) kI))
    ·exact fun _ _ h => os rfl ((yl_load1 Try.ty83 rfl (h.dt 0 11 rfl rfl rfl) (((Box.ex hf24 h.ex).cell 2).trans rfl) kI))
    ·exact fun _ _ h => os rfl ((yl_move rfl (h.old 3 _ rfl rfl) kI))
    ·intro L218 w219 hi220
     have hE221 := hi220.ex
     have hE221z := Ex.size hE221
     exact os rfl ((yl_indexAddrN Try.un83 Try.ty140 rfl (hi220.dt 1 12 rfl rfl rfl) (hi220.dt 2 13 rfl rfl rfl) eA201 (by first | omega | assumption | (simp only [IntKind.wrap_i64] at *; omega)) kI))
    ·exact fun _ _ h => os rfl ((yl_fieldAddr Try.fd140_1 rfl (h.dt 3 14 rfl rfl rfl) kI))
    ·exact fun _ _ h => os rfl ((yl_load1 Try.ty3 rfl (h.dt 4 15 rfl rfl rfl) ((Cells.ex eC201 h.ex) 1 _ rfl) kI))
    ·exact fun _ _ h => os rfl ((yl_neq rfl (h.dt 5 16 rfl rfl rfl) rfl kI))
    ·exact fun _ _ h => os rfl ((yl_move rfl (h.dt 6 17 rfl rfl rfl) kI))
    ·exact fun _ _ h => OpR.skip rfl rfl (h.dt 7 18 rfl rfl rfl) (not_f hb30) ⟨rfl, Ex.refl _⟩
    ·exact fun _ _ h => OpR.skip rfl rfl (h.dt 7 18 rfl rfl rfl) (not_f hb30) ⟨rfl, Ex.refl _⟩
    ·exact fun _ _ h => OpR.skip rfl rfl (h.dt 7 18 rfl rfl rfl) (not_f hb30) ⟨rfl, Ex.refl _⟩
    ·exact fun _ _ h => OpR.skip rfl rfl (h.dt 7 18 rfl rfl rfl) (not_f hb30) ⟨rfl, Ex.refl _⟩
    ·exact fun _ _ h => OpR.skip rfl rfl (h.dt 7 18 rfl rfl rfl) (not_f hb30) ⟨rfl, Ex.refl _⟩
    ·exact fun _ _ h => OpR.skip rfl rfl (h.dt 7 18 rfl rfl rfl) (not_f hb30) ⟨rfl, Ex.refl _⟩
    ·exact fun _ _ h => OpR.skip rfl rfl (h.dt 7 18 rfl rfl rfl) (not_f hb30) ⟨rfl, Ex.refl _⟩
    ·exact fun _ _ h => OpR.skip rfl rfl (h.dt 7 18 rfl rfl rfl) (not_f hb30) ⟨rfl, Ex.refl _⟩
    ·exact fun _ _ h => OpR.skip rfl rfl (h.dt 7 18 rfl rfl rfl) (not_f hb30) ⟨rfl, Ex.refl _⟩
    ·exact fun _ _ h => OpR.skip rfl rfl (h.dt 7 18 rfl rfl rfl) (not_f hb30) ⟨rfl, Ex.refl _⟩
    ·exact fun _ _ h => OpR.skip rfl rfl (h.dt 7 18 rfl rfl rfl) (not_f hb30) ⟨rfl, Ex.refl _⟩
    ·exact fun _ _ h => OpR.skip rfl rfl (h.dt 7 18 rfl rfl rfl) (not_f hb30) ⟨rfl, Ex.refl _⟩
    ·exact fun _ _ h => OpR.skip rfl rfl (h.dt 7 18 rfl rfl rfl) (not_f hb30) ⟨rfl, Ex.refl _⟩
    ·exact fun _ _ h => os rfl ((yl_pick_t rfl (h.dt 7 18 rfl rfl rfl) (not_f hb30) rfl kI))
    ·intro fl319 fh320 L316 w317 hp318
     have hE321 := hp318.ex
     have hE321z := Ex.size hE321
     refine SeqR.done (tn (CW.sub (Sub.cons (d := 1) (hp318.old 1 _ rfl rfl) (Sub.cons (d := 3) (hp318.old 3 _ rfl rfl) (Sub.cons (d := 19) (hp318.nt 8 19 rfl rfl rfl) (Sub.cons (d := 20) (hp318.nt 9 20 rfl rfl rfl) (Sub.cons (d := 21) (hp318.nt 10 21 rfl rfl rfl) (Sub.cons (d := 22) (hp318.nt 11 22 rfl rfl rfl) (Sub.cons (d := 23) (hp318.nt 12 23 rfl rfl rfl) (Sub.cons (d := 24) (hp318.nt 13 24 rfl rfl rfl) (Sub.cons (d := 25) (hp318.nt 14 25 rfl rfl rfl) (Sub.cons (d := 26) (hp318.nt 15 26 rfl rfl rfl) (Sub.cons (d := 27) (hp318.nt 16 27 rfl rfl rfl) (Sub.cons (d := 28) (hp318.nt 17 28 rfl rfl rfl) (Sub.cons (d := 29) (hp318.nt 18 29 rfl rfl rfl) (Sub.cons (d := 30) (hp318.nt 19 30 rfl rfl rfl) (Sub.cons (d := 31) (hp318.nt 20 31 rfl rfl rfl) (Sub.cons (d := 32) (hp318.nt 21 32 rfl rfl rfl) (Sub.nil _))))))))))))))))) (CW.cond_t rfl rfl (CW.seq (CW.region (sd rfl (yl_assign rfl rfl (SeqR.done (tn ?_)))))))))
     refine CW.ret (br (tr (tr ?_)))
     have hB339 : B_s_l31Diff_0 p_d k10 () = .ret false := by simp only [B_s_l31Diff_0, hb30, cond_true, cond_false, loopE_done, loopE_ret]
     have hL338 : loopM (B_s_l31Diff_0 p_d) (p_d.List.length - 0) 0 () = .ret false := hI20.symm.trans (loopM.ret hlt28 hB339)
     refine br (tr (rr rfl (.cons rfl .nil) ?_))
     have hM340 : (s_l31Diff p_d) = (false) := by simp only [s_l31Diff, hb30, hL338, cond_true, cond_false, loopE_done, loopE_ret]
     rw [hM340]
     exact ⟨rfl, (Ex.trans hf26 hE321)⟩
  ·refine CW.seq (CW.seq (CW.region (sd rfl (yl_move rfl rfl (sd rfl (yl_fieldAddr Try.fd85_2 rfl rfl (sd rfl (yl_load1 Try.ty83 rfl rfl ((hf24.cell 2).trans rfl) (sd rfl (yl_len Try.un83 rfl rfl (sd rfl (yl_lss rfl rfl rfl (SeqR.done ?_)))))))))))))
   refine tn (CW.cond_f rfl (lt_f hlt28) (CW.exit (tx (tx ?_))))
   have hL342 : loopM (B_s_l31Diff_0 p_d) (p_d.List.length - 0) 0 () = .done () := hI20.symm.trans (loopM.stop hlt28)
   refine bx (tn (CW.seq (CW.region (sd rfl (yl_fieldAddr Try.fd85_0 rfl rfl (sd rfl (yl_load1 Try.ty3 rfl rfl ((hf24.cell 0).trans rfl) (sd rfl (yl_fieldAddr Try.fd85_1 rfl rfl (sd rfl (yl_load1 Try.ty3 rfl rfl ((hf24.cell 1).trans rfl) (sd rfl (yl_call Try.en72 rfl (opvs_cons rfl (opvs_cons rfl (opvs_cons rfl opvs_nil))) (Cal.mono (c_s_l1In p_d.From 0 p_d.To) ?_))))))))))))))
   rintro v344 w343 ⟨rfl, hE345⟩
   have hE345z := Ex.size hE345
   refine sd rfl (yl_move rfl rfl (bcase (s_l1In p_d.From 0 p_d.To) (fun hb346 => ?_) (fun hb346 => ?_)))
   ·have hb346p := f_l1In hb346
    refine sy rfl rfl hb346 (yl_fieldAddr Try.fd85_1 rfl rfl ?_)
    have q347 := Box.ex hf24 hE345
    refine sy rfl rfl hb346 (yl_load1 Try.ty3 rfl rfl ((q347.cell 1).trans rfl) (sy rfl rfl hb346 (yl_leq rfl rfl rfl (sd rfl (yl_pick_t rfl rfl hb346 rfl (sd rfl (yl_move rfl rfl (bcase (decide (p_d.To ≤ 100000)) (fun hb348 => ?_) (fun hb348 => ?_)))))))))
    ·have hb348p := dec_t hb348
     refine sy rfl rfl hb348 (yl_fieldAddr Try.fd85_2 rfl rfl (sy rfl rfl hb348 (yl_load1 Try.ty83 rfl rfl ((q347.cell 2).trans rfl) (sy rfl rfl hb348 (yl_len Try.un83 rfl rfl (sy rfl rfl hb348 (yl_leq rfl rfl rfl (sd rfl (yl_pick_t rfl rfl hb348 rfl (sd rfl (yl_move rfl rfl (bcase (decide ((p_d.List.length : Int) ≤ 60)) (fun hb349 => ?_) (fun hb349 => ?_)))))))))))))
     ·have hb349p := dec_t hb349
      refine sy rfl rfl hb349 (yl_fieldAddr Try.fd85_2 rfl rfl (sy rfl rfl hb349 (yl_load1 Try.ty83 rfl rfl ((q347.cell 2).trans rfl) (sy rfl rfl hb349 (yl_call Try.en148 rfl (opvs_cons rfl opvs_nil) (Cal.mono (c_s_l23Feed p_d.List (RdS.up (RdS.ex good_FeedItem hf25 hE345) good_FeedItem) o2) ?_))))))
      rintro v352 w351 ⟨rfl, hE353⟩
      have hE353z := Ex.size hE353
      refine sd rfl (yl_pick_t rfl rfl hb349 rfl (sd rfl (yl_assign rfl rfl (SeqR.done (tn (CW.ret (rr rfl (.cons rfl .nil) ?_)))))))
      have hM354 : (s_l31Diff p_d) = ((s_l23Feed p_d.List)) := by simp only [s_l31Diff, hb346, hb348, hb349, hL342, cond_true, cond_false, loopE_done, loopE_ret]
      rw [hM354]
      exact ⟨rfl, (Ex.trans (Ex.trans hf26 hE345) hE353)⟩
     ·have hb349p := dec_f hb349
      refine sz rfl rfl hb349 (sz rfl rfl hb349 (sz rfl rfl hb349 (sd rfl (yl_pick_f rfl rfl hb349 rfl (sd rfl (yl_assign rfl rfl (SeqR.done (tn (CW.ret (rr rfl (.cons rfl .nil) ?_))))))))))
      have hM357 : (s_l31Diff p_d) = (false) := by simp only [s_l31Diff, hb346, hb348, hb349, hL342, cond_true, cond_false, loopE_done, loopE_ret]
      rw [hM357]
      exact ⟨rfl, (Ex.trans hf26 hE345)⟩
    ·have hb348p := dec_f hb348
     refine sz rfl rfl hb348 (sz rfl rfl hb348 (sz rfl rfl hb348 (sz rfl rfl hb348 (sd rfl (yl_pick_f rfl rfl hb348 rfl (sd rfl (yl_move rfl rfl (sz rfl rfl rfl (sz rfl rfl rfl (sz rfl rfl rfl ?_))))))))))
     refine sd rfl (yl_pick_f rfl rfl rfl rfl (sd rfl (yl_assign rfl rfl (SeqR.done (tn (CW.ret (rr rfl (.cons rfl .nil) ?_)))))))
     have hM359 : (s_l31Diff p_d) = (false) := by simp only [s_l31Diff, hb346, hb348, hL342, cond_true, cond_false, loopE_done, loopE_ret]
     rw [hM359]
     exact ⟨rfl, (Ex.trans hf26 hE345)⟩
   ·refine sz rfl rfl hb346 (sz rfl rfl hb346 (sz rfl rfl hb346 (sd rfl (yl_pick_f rfl rfl hb346 rfl (sd rfl (yl_move rfl rfl (sz rfl rfl rfl (sz rfl rfl rfl (sz rfl rfl rfl (sz rfl rfl rfl ?_))))))))))
    refine sd rfl (yl_pick_f rfl rfl rfl rfl (sd rfl (yl_move rfl rfl (sz rfl rfl rfl (sz rfl rfl rfl (sz rfl rfl rfl (sd rfl (yl_pick_f rfl rfl rfl rfl (sd rfl (yl_assign rfl rfl (SeqR.done (tn ?_))))))))))))
    refine CW.ret (rr rfl (.cons rfl .nil) ?_)
    have hM361 : (s_l31Diff p_d) = (false) := by simp only [s_l31Diff, hb346, hL342, cond_true, cond_false, loopE_done, loopE_ret]
    rw [hM361]
    exact ⟨rfl, (Ex.trans hf26 hE345)⟩
set_option maxRecDepth 100000 in
set_option maxHeartbeats 2000000 in
theorem c_s_l31If {A1 : Option Addr} {c1 : Nat} {lo1 hi1 : Nat} {w : World} (p_d : DDiff) (h1 : OwnL w lo1 hi1 140 5 (RF e_FeedItem) A1 p_d.List.length c1 p_d.List) (hrn3 : (0 ≤ lo1 ∧ lo1 ≤ hi1 ∧ hi1 ≤ w.heap.size)) (o2 : ok_Diff p_d) : Cal Try.prog 99 #[.agg #[.int .i64 (p_d.From), .int .i64 (p_d.To), .slice A1 p_d.List.length c1]] w fun v w' => ∃ A_1 c_1, v = .tuple #[.agg #[.int .i64 ((s_l31If p_d).1.From), .int .i64 ((s_l31If p_d).1.To), .slice A_1 (((s_l31If p_d).1.List).length) c_1], .bool ((s_l31If p_d).2)] ∧ OwnL w' lo1 hi1 140 5 (RF e_FeedItem) A_1 (((s_l31If p_d).1.List).length) c_1 ((s_l31If p_d).1.List) ∧ ok_Diff ((s_l31If p_d).1) ∧ Ex w w' := by
 have hol4 := o2.1
 refine Cal.of (vs := [.agg #[.int .i64 (p_d.From), .int .i64 (p_d.To), .slice A1 p_d.List.length c1]]) Try.func99 rfl Try.ntmps99 rfl (CW.seq (CW.region (sd rfl (yl_box (cs := [.int .i64 (p_d.From), .int .i64 (p_d.To), .slice A1 p_d.List.length c1]) rfl rfl rfl ?_))))
 intro b5 w6 hs7 hz8 hB9 hE10
 refine sd rfl (yl_alloc Try.ty85 (cs := [.int .i64 (0), .int .i64 (0), .slice none 0 0]) rfl rfl ?_)
 intro b11 w12 hs13 hz14 hB15 hE16
 refine sd rfl (yl_assign rfl rfl (SeqR.done (tn (CW.seq (CW.seq (CW.region ?_))))))
 have q17 := Box.ex hB9 hE16
 refine sd rfl (yl_loadN (cs := [.int .i64 (p_d.From), .int .i64 (p_d.To), .slice A1 p_d.List.length c1]) Try.ty85 rfl rfl (q17.cells (n := 3) rfl) rfl ?_)
 have q20 := OwnL.ex good_FeedItem (OwnL.ex good_FeedItem h1 hE10) hE16
 refine sd rfl (yl_call Try.en98 rfl (opvs_cons rfl opvs_nil) (Cal.mono (c_s_l31Diff p_d (RdS.up (OwnL.rd good_FeedItem q20) good_FeedItem) o2) ?_))
 rintro v22 w21 ⟨rfl, hE23⟩
 have hE23z := Ex.size hE23
 refine sd rfl (yl_not rfl rfl (SeqR.done (tn (bcase (s_l31Diff p_d) (fun hb24 => ?_) (fun hb24 => ?_)))))
 ·obtain ⟨hb24p0, hb24p1⟩ := f_s_l31Diff hb24
  refine CW.cond_f rfl (not_t hb24) (CW.skip (tn (CW.seq (CW.region (sd rfl (yl_loadN (cs := [.int .i64 (p_d.From), .int .i64 (p_d.To), .slice A1 p_d.List.length c1]) Try.ty85 rfl rfl ((Box.ex q17 hE23).cells (n := 3) rfl) rfl (SeqR.u rfl rfl (yl_store (vs := [.int .i64 (p_d.From), .int .i64 (p_d.To), .slice A1 p_d.List.length c1]) Try.ty85 rfl rfl rfl rfl rfl rfl (Box.ex hB15 hE23) (Nat.le_of_ble_eq_true rfl) ?_))))))))
  intro w27 hB28 hO29
  have hB28 : Box w27 b11 85 [.int .i64 (p_d.From), .int .i64 (p_d.To), .slice A1 p_d.List.length c1] := hB28
  have hO29z := hO29.size
  refine sd rfl (yl_assign rfl rfl (SeqR.done (tn (CW.ret (rr rfl (.cons ⟨_, rfl, run_loadN Try.ty85 (cs := [.int .i64 (p_d.From), .int .i64 (p_d.To), .slice A1 p_d.List.length c1]) rfl (hB28.cells (n := 3) rfl)⟩ (.cons rfl .nil)) ?_)))))
  have hM30 : (s_l31If p_d) = ((p_d, true)) := by simp only [s_l31If, hb24, cond_true, cond_false, loopE_done, loopE_ret]
  rw [hM30]
  exact ⟨A1, c1, rfl, (OwnL.more (lo' := lo1) (hi' := hi1) (OwnL.only good_FeedItem (OwnL.ex good_FeedItem q20 hE23) hO29 (by omega)) (by omega) (by omega)), o2, (Below.only (Ex.trans (Ex.trans (Ex.trans (Ex.refl w) hE10) hE16) hE23) hO29 (by omega))⟩
 ·refine CW.cond_t rfl (not_f hb24) (CW.seq (CW.region (sd rfl (yl_build (cs := [.int .i64 (0), .int .i64 (0), .slice none 0 0]) rfl opvs_nil (by kernel_rfl) (SeqR.u rfl rfl (yl_store (vs := [.int .i64 (0), .int .i64 (0), .slice none 0 0]) Try.ty85 rfl rfl rfl rfl rfl rfl (Box.ex hB15 hE23) (Nat.le_of_ble_eq_true rfl) ?_))))))
  intro w38 hB39 hO40
  have hB39 : Box w38 b11 85 [.int .i64 (0), .int .i64 (0), .slice none 0 0] := hB39
  have hO40z := hO40.size
  refine sd rfl (yl_assign rfl rfl (SeqR.done (tn (CW.ret (tr (rr rfl (.cons ⟨_, rfl, run_loadN Try.ty85 (cs := [.int .i64 (0), .int .i64 (0), .slice none 0 0]) rfl (hB39.cells (n := 3) rfl)⟩ (.cons rfl .nil)) ?_))))))
  have hM41 : (s_l31If p_d) = (((⟨0, 0, []⟩ : DDiff), false)) := by simp only [s_l31If, hb24, cond_true, cond_false, loopE_done, loopE_ret]
  rw [hM41]
  exact ⟨none, 0, rfl, (OwnL.nil _ _ _ _ _ _), (okL.nil _), (Below.only (Ex.trans (Ex.trans (Ex.trans (Ex.refl w) hE10) hE16) hE23) hO40 (by omega))⟩
set_option maxRecDepth 100000 in
set_option maxHeartbeats 2000000 in
theorem c_s_JoinDiffs {A1 : Option Addr} {c1 : Nat} {A3 : Option Addr} {c3 : Nat} {w : World} (p_a : DDiff) (p_b : DDiff) (h1 : RdS w (Iv 0 w.heap.size) (RF e_FeedItem) 5 A1 p_a.List.length c1 p_a.List) (h3 : RdS w (Iv 0 w.heap.size) (RF e_FeedItem) 5 A3 p_b.List.length c3 p_b.List) (o2 : ok_Diff p_a) (o4 : ok_Diff p_b) : Cal Try.prog 45 #[.agg #[.int .i64 (p_a.From), .int .i64 (p_a.To), .slice A1 p_a.List.length c1], .agg #[.int .i64 (p_b.From), .int .i64 (p_b.To), .slice A3 p_b.List.length c3]] w fun v w' => ∃ A_1 c_1 lo_1 hi_1, v = .tuple #[.agg #[.int .i64 ((s_JoinDiffs p_a p_b).1.From), .int .i64 ((s_JoinDiffs p_a p_b).1.To), .slice A_1 (((s_JoinDiffs p_a p_b).1.List).length) c_1], .bool ((s_JoinDiffs p_a p_b).2)] ∧ OwnL w' lo_1 hi_1 140 5 (RF e_FeedItem) A_1 (((s_JoinDiffs p_a p_b).1.List).length) c_1 ((s_JoinDiffs p_a p_b).1.List) ∧ ok_Diff ((s_JoinDiffs p_a p_b).1) ∧ (w.heap.size ≤ lo_1 ∧ lo_1 ≤ hi_1 ∧ hi_1 ≤ w'.heap.size) ∧ Ex w w' := by
 have hol5 := o2.1
 have hol6 := o4.1
 refine Cal.of (vs := [.agg #[.int .i64 (p_a.From), .int .i64 (p_a.To), .slice A1 p_a.List.length c1], .agg #[.int .i64 (p_b.From), .int .i64 (p_b.To), .slice A3 p_b.List.length c3]]) Try.func45 rfl Try.ntmps45 rfl (CW.seq (CW.region (sd rfl (yl_box (cs := [.int .i64 (p_a.From), .int .i64 (p_a.To), .slice A1 p_a.List.length c1]) rfl rfl rfl ?_))))
 intro b7 w8 hs9 hz10 hB11 hE12
 refine sd rfl (yl_box (cs := [.int .i64 (p_b.From), .int .i64 (p_b.To), .slice A3 p_b.List.length c3]) rfl rfl rfl ?_)
 intro b13 w14 hs15 hz16 hB17 hE18
 refine sd rfl (yl_alloc Try.ty85 (cs := [.int .i64 (0), .int .i64 (0), .slice none 0 0]) rfl rfl ?_)
 intro b19 w20 hs21 hz22 hB23 hE24
 refine sd rfl (yl_assign rfl rfl (SeqR.done (tn (CW.seq (CW.seq (CW.region ?_))))))
 have q26 := Box.ex (Box.ex hB11 hE18) hE24
 refine sd rfl (yl_loadN (cs := [.int .i64 (p_a.From), .int .i64 (p_a.To), .slice A1 p_a.List.length c1]) Try.ty85 rfl rfl (q26.cells (n := 3) rfl) rfl ?_)
 have q29 := RdS.ex good_FeedItem (RdS.ex good_FeedItem (RdS.ex good_FeedItem h1 hE12) hE18) hE24
 refine sd rfl (yl_call Try.en98 rfl (opvs_cons rfl opvs_nil) (Cal.mono (c_s_l31Diff p_a (RdS.up q29 good_FeedItem) o2) ?_))
 rintro v31 w30 ⟨rfl, hE32⟩
 have hE32z := Ex.size hE32
 refine sd rfl (yl_not rfl rfl (sd rfl (yl_move rfl rfl (bcase (s_l31Diff p_a) (fun hb33 => ?_) (fun hb33 => ?_)))))
 ·obtain ⟨hb33p0, hb33p1⟩ := f_s_l31Diff hb33
  have q35 := Box.ex (Box.ex hB17 hE24) hE32
  refine sy rfl rfl (not_t hb33) (yl_loadN (cs := [.int .i64 (p_b.From), .int .i64 (p_b.To), .slice A3 p_b.List.length c3]) Try.ty85 rfl rfl (q35.cells (n := 3) rfl) rfl ?_)
  have q39 := RdS.ex good_FeedItem (RdS.ex good_FeedItem (RdS.ex good_FeedItem (RdS.ex good_FeedItem h3 hE12) hE18) hE24) hE32
  refine sy rfl rfl (not_t hb33) (yl_call Try.en98 rfl (opvs_cons rfl opvs_nil) (Cal.mono (c_s_l31Diff p_b (RdS.up q39 good_FeedItem) o4) ?_))
  rintro v41 w40 ⟨rfl, hE42⟩
  have hE42z := Ex.size hE42
  refine sy rfl rfl (not_t hb33) (yl_not rfl rfl (sd rfl (yl_pick_f rfl rfl (not_t hb33) rfl (sd rfl (yl_move rfl rfl (bcase (s_l31Diff p_b) (fun hb43 => ?_) (fun hb43 => ?_)))))))
  ·obtain ⟨hb43p0, hb43p1⟩ := f_s_l31Diff hb43
   refine sy rfl rfl (not_t hb43) (yl_fieldAddr Try.fd85_1 rfl rfl ?_)
   have q45 := Box.ex (Box.ex q26 hE32) hE42
   refine sy rfl rfl (not_t hb43) (yl_load1 Try.ty3 rfl rfl ((q45.cell 1).trans rfl) (sy rfl rfl (not_t hb43) (yl_fieldAddr Try.fd85_0 rfl rfl ?_)))
   have q46 := Box.ex q35 hE42
   refine sy rfl rfl (not_t hb43) (yl_load1 Try.ty3 rfl rfl ((q46.cell 0).trans rfl) (sy rfl rfl (not_t hb43) (yl_neq rfl rfl rfl (sd rfl (yl_pick_f rfl rfl (not_t hb43) rfl (SeqR.done (tn (bcase (decide (p_a.To = p_b.From)) (fun hb47 => ?_) (fun hb47 => ?_)))))))))
   ·have hb47p := dec_t hb47
    refine CW.cond_f rfl (not_t hb47) (CW.skip (tn (CW.seq ?_)))
    have hol58 : p_a.List.length ≤ 2147483648 := o2.1
    have hol59 : p_b.List.length ≤ 2147483648 := o4.1
    refine CW.drawsG 15 (fun _ _ => False) (fun i G b => (i = 10 ∧ (G.fl 7) ≤ b ∧ b < (G.fh 7))) (vgetG [DetG (.pointer (some ⟨b7, 0 + 0, none⟩)), DetG (.int .i64 (p_a.From)), DetG (.pointer (some ⟨b13, 0 + 1, none⟩)), DetG (.int .i64 (p_b.To)), fun G v wq => ∃ A48, v = .slice A48 0 0 ∧ OwnL wq w40.heap.size w40.heap.size 140 5 (RF e_FeedItem) A48 0 0 ([] : List DFeedItem), DetG (.pointer (some ⟨b7, 0 + 2, none⟩)), DetG (.slice A1 p_a.List.length c1), fun G v wq => ∃ A51 c52, v = .slice A51 ((([] : List DFeedItem) ++ p_a.List).length) c52 ∧ (G.dn 10 = false → OwnL wq (G.fl 7) (G.fh 7) 140 5 (RF e_FeedItem) A51 ((([] : List DFeedItem) ++ p_a.List).length) c52 (([] : List DFeedItem) ++ p_a.List)), DetG (.pointer (some ⟨b13, 0 + 2, none⟩)), DetG (.slice A3 p_b.List.length c3), fun G v wq => ∃ A54 c55, v = .slice A54 (((([] : List DFeedItem) ++ p_a.List) ++ p_b.List).length) c55 ∧ OwnL wq (G.fl 7) (G.fh 10) 140 5 (RF e_FeedItem) A54 (((([] : List DFeedItem) ++ p_a.List) ++ p_b.List).length) c55 ((([] : List DFeedItem) ++ p_a.List) ++ p_b.List), fun G v wq => ∃ A54 c55, v = .agg #[.int .i64 (p_a.From), .int .i64 (p_b.To), .slice A54 (((([] : List DFeedItem) ++ p_a.List) ++ p_b.List).length) c55] ∧ OwnL wq (G.fl 7) (G.fh 10) 140 5 (RF e_FeedItem) A54 (((([] : List DFeedItem) ++ p_a.List) ++ p_b.List).length) c55 ((([] : List DFeedItem) ++ p_a.List) ++ p_b.List), fun G v wq => ∃ A61 c61, v = .tuple #[.agg #[.int .i64 ((s_l31If (⟨p_a.From, p_b.To, ((([] : List DFeedItem) ++ p_a.List) ++ p_b.List)⟩ : DDiff)).1.From), .int .i64 ((s_l31If (⟨p_a.From, p_b.To, ((([] : List DFeedItem) ++ p_a.List) ++ p_b.List)⟩ : DDiff)).1.To), .slice A61 (((s_l31If (⟨p_a.From, p_b.To, ((([] : List DFeedItem) ++ p_a.List) ++ p_b.List)⟩ : DDiff)).1.List).length) c61], .bool ((s_l31If (⟨p_a.From, p_b.To, ((([] : List DFeedItem) ++ p_a.List) ++ p_b.List)⟩ : DDiff)).2)] ∧ OwnL wq (G.fl 7) (G.fh 10) 140 5 (RF e_FeedItem) A61 (((s_l31If (⟨p_a.From, p_b.To, ((([] : List DFeedItem) ++ p_a.List) ++ p_b.List)⟩ : DDiff)).1.List).length) c61 ((s_l31If (⟨p_a.From, p_b.To, ((([] : List DFeedItem) ++ p_a.List) ++ p_b.List)⟩ : DDiff)).1.List) ∧ ok_Diff ((s_l31If (⟨p_a.From, p_b.To, ((([] : List DFeedItem) ++ p_a.List) ++ p_b.List)⟩ : DDiff)).1), fun G v wq => ∃ A61 c61, v = .agg #[.int .i64 ((s_l31If (⟨p_a.From, p_b.To, ((([] : List DFeedItem) ++ p_a.List) ++ p_b.List)⟩ : DDiff)).1.From), .int .i64 ((s_l31If (⟨p_a.From, p_b.To, ((([] : List DFeedItem) ++ p_a.List) ++ p_b.List)⟩ : DDiff)).1.To), .slice A61 (((s_l31If (⟨p_a.From, p_b.To, ((([] : List DFeedItem) ++ p_a.List) ++ p_b.List)⟩ : DDiff)).1.List).length) c61] ∧ OwnL wq (G.fl 7) (G.fh 10) 140 5 (RF e_FeedItem) A61 (((s_l31If (⟨p_a.From, p_b.To, ((([] : List DFeedItem) ++ p_a.List) ++ p_b.List)⟩ : DDiff)).1.List).length) c61 ((s_l31If (⟨p_a.From, p_b.To, ((([] : List DFeedItem) ++ p_a.List) ++ p_b.List)⟩ : DDiff)).1.List), DetG (.bool ((s_l31If (⟨p_a.From, p_b.To, ((([] : List DFeedItem) ++ p_a.List) ++ p_b.List)⟩ : DDiff)).2))]) Try.follows rfl rfl rfl rfl rfl rfl (fun _ _ _ _ _ h => h) (fun i G w lo hi b K hn hh hp => by exact (match hp with | ⟨e, q1, q2⟩ => by subst e; exact .inr (by have := K.rng 7 (hh 7 rfl); omega))) (vgetG_kept ⟨(KeptG.det _), (KeptG.det _), (KeptG.det _), (KeptG.det _), (by rintro i G v w w' K hn hh hj ⟨A48, hv, h0⟩ e; exact ⟨A48, hv, (by exact OwnL.chg good_FeedItem h0 e (fun b hb hp => by obtain ⟨rfl, q1, q2⟩ := hp; have := K.rng 7 (hh 7 rfl); skip; omega))⟩), (KeptG.det _), (KeptG.det _), (by rintro i G v w w' K hn hh hj ⟨A51, c52, hv, h0⟩ e; have d7 : G.dn 7 = true := hj; have u7 := Gh.ufl (lo := w.heap.size) (hi := w'.heap.size) d7 hn; have t7 := Gh.ufh (lo := w.heap.size) (hi := w'.heap.size) d7 hn; exact ⟨A51, c52, hv, (by intro hd; simp only [u7, t7]; exact OwnL.chg good_FeedItem (h0 (Gh.off hd).2) e (fun b hb hp => by obtain ⟨rfl, q1, q2⟩ := hp; exact absurd rfl (Gh.off hd).1))⟩), (KeptG.det _), (KeptG.det _), (by rintro i G v w w' K hn hh hj ⟨A54, c55, hv, h0⟩ e; have d7 : G.dn 7 = true := K.cl 10 7 hj rfl; have u7 := Gh.ufl (lo := w.heap.size) (hi := w'.heap.size) d7 hn; have t7 := Gh.ufh (lo := w.heap.size) (hi := w'.heap.size) d7 hn; have d10 : G.dn 10 = true := hj; have u10 := Gh.ufl (lo := w.heap.size) (hi := w'.heap.size) d10 hn; have t10 := Gh.ufh (lo := w.heap.size) (hi := w'.heap.size) d10 hn; exact ⟨A54, c55, hv, (by simp only [u7, t7, u10, t10]; exact OwnL.chg good_FeedItem h0 e (fun b hb hp => by obtain ⟨rfl, q1, q2⟩ := hp; rw [hj] at hn; cases hn))⟩), (by rintro i G v w w' K hn hh hj ⟨A54, c55, hv, h0⟩ e; have d7 : G.dn 7 = true := K.cl 11 7 hj rfl; have u7 := Gh.ufl (lo := w.heap.size) (hi := w'.heap.size) d7 hn; have t7 := Gh.ufh (lo := w.heap.size) (hi := w'.heap.size) d7 hn; have d10 : G.dn 10 = true := K.cl 11 10 hj rfl; have u10 := Gh.ufl (lo := w.heap.size) (hi := w'.heap.size) d10 hn; have t10 := Gh.ufh (lo := w.heap.size) (hi := w'.heap.size) d10 hn; exact ⟨A54, c55, hv, (by simp only [u7, t7, u10, t10]; exact OwnL.chg good_FeedItem h0 e (fun b hb hp => by obtain ⟨rfl, q1, q2⟩ := hp; rw [K.cl 11 10 hj rfl] at hn; cases hn))⟩), (by rintro i G v w w' K hn hh hj ⟨A61, c61, hv, h0, h1⟩ e; have d7 : G.dn 7 = true := K.cl 12 7 hj rfl; have u7 := Gh.ufl (lo := w.heap.size) (hi := w'.heap.size) d7 hn; have t7 := Gh.ufh (lo := w.heap.size) (hi := w'.heap.size) d7 hn; have d10 : G.dn 10 = true := K.cl 12 10 hj rfl; have u10 := Gh.ufl (lo := w.heap.size) (hi := w'.heap.size) d10 hn; have t10 := Gh.ufh (lo := w.heap.size) (hi := w'.heap.size) d10 hn; exact ⟨A61, c61, hv, (by simp only [u7, t7, u10, t10]; exact OwnL.chg good_FeedItem h0 e (fun b hb hp => by obtain ⟨rfl, q1, q2⟩ := hp; rw [K.cl 12 10 hj rfl] at hn; cases hn)), h1⟩), (by rintro i G v w w' K hn hh hj ⟨A61, c61, hv, h0⟩ e; have d7 : G.dn 7 = true := K.cl 13 7 hj rfl; have u7 := Gh.ufl (lo := w.heap.size) (hi := w'.heap.size) d7 hn; have t7 := Gh.ufh (lo := w.heap.size) (hi := w'.heap.size) d7 hn; have d10 : G.dn 10 = true := K.cl 13 10 hj rfl; have u10 := Gh.ufl (lo := w.heap.size) (hi := w'.heap.size) d10 hn; have t10 := Gh.ufh (lo := w.heap.size) (hi := w'.heap.size) d10 hn; exact ⟨A61, c61, hv, (by simp only [u7, t7, u10, t10]; exact OwnL.chg good_FeedItem h0 e (fun b hb hp => by obtain ⟨rfl, q1, q2⟩ := hp; rw [K.cl 13 10 hj rfl] at hn; cases hn))⟩), (KeptG.det _), trivial⟩) ⟨?_, ?_, ?_, ?_, ?_, ?_, ?_, ?_, ?_, ?_, ?_, ?_, ?_, ?_, ?_, trivial⟩ ?_
    ·intro L65 w66 G64 hgk67
     have hE68 := hgk67.st.ex.ex (fun b h => h.elim (fun h => h.elim) (fun h => h))
     have hE68z := Ex.size hE68
     exact OpR.op' rfl (Yl.sameG (yl_fieldAddr Try.fd85_0 rfl (hgk67.old 2 _ rfl rfl) kI))
    ·intro L71 w72 G70 hgk73
     have hE74 := hgk73.st.ex.ex (fun b h => h.elim (fun h => h.elim) (fun h => h))
     have hE74z := Ex.size hE74
     obtain ⟨_, hx75, rfl⟩ := hgk73.val 0 22 rfl rfl
     exact OpR.op' rfl (Yl.sameG (yl_load1 Try.ty3 rfl hx75 (((Box.ex q45 hE74).cell 0).trans rfl) kI))
    ·intro L78 w79 G77 hgk80
     have hE81 := hgk80.st.ex.ex (fun b h => h.elim (fun h => h.elim) (fun h => h))
     have hE81z := Ex.size hE81
     exact OpR.op' rfl (Yl.sameG (yl_fieldAddr Try.fd85_1 rfl (hgk80.old 3 _ rfl rfl) kI))
    ·intro L84 w85 G83 hgk86
     have hE87 := hgk86.st.ex.ex (fun b h => h.elim (fun h => h.elim) (fun h => h))
     have hE87z := Ex.size hE87
     obtain ⟨_, hx88, rfl⟩ := hgk86.val 2 24 rfl rfl
     exact OpR.op' rfl (Yl.sameG (yl_load1 Try.ty3 rfl hx88 (((Box.ex q46 hE87).cell 1).trans rfl) kI))
    ·intro L91 w92 G90 hgk93
     have hE94 := hgk93.st.ex.ex (fun b h => h.elim (fun h => h.elim) (fun h => h))
     have hE94z := Ex.size hE94
     refine OpR.op' rfl (yl_buildSlice (cs := []) Try.un83 Try.ty140 (by decide) rfl opvs_nil (by kernel_rfl) ?_)
     intro b95 w96 hs97 hz98 hB99 hE100
     have hO101 : OwnL w96 b95 (b95 + 1) 140 5 (RF e_FeedItem) (some ⟨b95, 0, none⟩) 0 0 ([] : List DFeedItem) := OwnL.of_box (S := fun _ => False) hB99 (Nat.le_refl _) (Nat.lt_succ_self _) EncL.nil (Nat.le_of_ble_eq_true rfl) (fun h => h) (fun _ h => False.elim h)
     exact ⟨Chg.of_ex hE100, _, rfl, OwnL.empty _ _ _ _ _ _ _⟩
    ·intro L103 w104 G102 hgk105
     have hE106 := hgk105.st.ex.ex (fun b h => h.elim (fun h => h.elim) (fun h => h))
     have hE106z := Ex.size hE106
     exact OpR.op' rfl (Yl.sameG (yl_fieldAddr Try.fd85_2 rfl (hgk105.old 2 _ rfl rfl) kI))
    ·intro L109 w110 G108 hgk111
     have hE112 := hgk111.st.ex.ex (fun b h => h.elim (fun h => h.elim) (fun h => h))
     have hE112z := Ex.size hE112
     obtain ⟨_, hx113, rfl⟩ := hgk111.val 5 27 rfl rfl
     exact OpR.op' rfl (Yl.sameG (yl_load1 Try.ty83 rfl hx113 (((Box.ex q45 hE112).cell 2).trans rfl) kI))
    ·intro L116 w117 G115 hgk118
     have hE119 := hgk118.st.ex.ex (fun b h => h.elim (fun h => h.elim) (fun h => h))
     have hE119z := Ex.size hE119
     obtain ⟨_, hx120, A48_121, rfl, h122⟩ := hgk118.val 4 26 rfl rfl
     obtain ⟨_, hx123, rfl⟩ := hgk118.val 6 28 rfl rfl
     have hr124 := hgk118.st.rng 4 (hgk118.has 4 rfl)
     obtain ⟨nw128, he129, hs130⟩ := RdS.src (RdS.ex good_FeedItem (RdS.ex good_FeedItem (RdS.ex good_FeedItem q29 hE32) hE42) hE119)
     have hol131 : p_a.List.length ≤ 2147483648 := o2.1
     refine OpR.op' rfl (yl_appendL (S := (fun _ => False)) (lo := w117.heap.size) (hi := w117.heap.size) (xs := ([] : List DFeedItem)) (ys := p_a.List) good_FeedItem Try.un83 Try.ty140 rfl (Nat.le_of_ble_eq_true rfl) rfl hx120 hx123 (OwnL.empty w117 w117.heap.size w117.heap.size 140 5 (RF e_FeedItem) A48_121) he129 hs130 rfl (by first | omega | (simp only [List.length_append, List.length_cons, List.length_nil, List.length_take, List.length_drop, List.length_replicate, List.length_set, toS_length]; omega)) (by first | omega | (simp only [List.length_append, List.length_cons, List.length_nil, List.length_take, List.length_drop, List.length_replicate, List.length_set, toS_length]; omega)) (by omega) (by omega) (fun _ h _ => False.elim h) (by omega) ?_)
     intro A132 c133 w134 row135 hO136 hG137 hrg138
     have hG137z := hG137.size
     exact ⟨Chg.of_grown hG137 (fun k hk => by have hq := hrg138 k hk; exact absurd hq (by omega)), A132, c133, rfl, fun _ => OwnL.more (lo' := w117.heap.size) (hi' := w134.heap.size) hO136 (by omega) (by omega)⟩
    ·intro L140 w141 G139 hgk142
     have hE143 := hgk142.st.ex.ex (fun b h => h.elim (fun h => h.elim) (fun h => h))
     have hE143z := Ex.size hE143
     exact OpR.op' rfl (Yl.sameG (yl_fieldAddr Try.fd85_2 rfl (hgk142.old 3 _ rfl rfl) kI))
    ·intro L146 w147 G145 hgk148
     have hE149 := hgk148.st.ex.ex (fun b h => h.elim (fun h => h.elim) (fun h => h))
     have hE149z := Ex.size hE149
     obtain ⟨_, hx150, rfl⟩ := hgk148.val 8 30 rfl rfl
     exact OpR.op' rfl (Yl.sameG (yl_load1 Try.ty83 rfl hx150 (((Box.ex q46 hE149).cell 2).trans rfl) kI))
    ·intro L153 w154 G152 hgk155
     have hE156 := hgk155.st.ex.ex (fun b h => h.elim (fun h => h.elim) (fun h => h))
     have hE156z := Ex.size hE156
     obtain ⟨_, hx157, A51_158, c52_159, rfl, h160⟩ := hgk155.val 7 29 rfl rfl
     have h160 := h160 hgk155.new
     obtain ⟨_, hx161, rfl⟩ := hgk155.val 9 31 rfl rfl
     have hr162 := hgk155.st.rng 7 (hgk155.has 7 rfl)
     obtain ⟨nw165, he166, hs167⟩ := RdS.src (RdS.ex good_FeedItem (RdS.ex good_FeedItem q39 hE42) hE156)
     have hol168 : p_a.List.length ≤ 2147483648 := o2.1
     have hol169 : p_b.List.length ≤ 2147483648 := o4.1
     refine OpR.op' rfl (yl_appendL (S := (fun _ => False)) (lo := (G152.fl 7)) (hi := (G152.fh 7)) (xs := (([] : List DFeedItem) ++ p_a.List)) (ys := p_b.List) good_FeedItem Try.un83 Try.ty140 rfl (Nat.le_of_ble_eq_true rfl) rfl hx157 hx161 h160 he166 hs167 rfl (by first | omega | (simp only [List.length_append, List.length_cons, List.length_nil, List.length_take, List.length_drop, List.length_replicate, List.length_set, toS_length]; omega)) (by first | omega | (simp only [List.length_append, List.length_cons, List.length_nil, List.length_take, List.length_drop, List.length_replicate, List.length_set, toS_length]; omega)) (by omega) (by omega) (fun _ h _ => False.elim h) (by omega) ?_)
     intro A170 c171 w172 row173 hO174 hG175 hrg176
     have hG175z := hG175.size
     exact ⟨Chg.of_grown hG175 (fun k hk => by have hq := hrg176 k hk; exact (⟨rfl, by omega, by omega⟩)), A170, c171, rfl, OwnL.more (lo' := (G152.fl 7)) (hi' := w172.heap.size) hO174 (by omega) (by omega)⟩
    ·intro L178 w179 G177 hgk180
     have hE181 := hgk180.st.ex.ex (fun b h => h.elim (fun h => h.elim) (fun h => h))
     have hE181z := Ex.size hE181
     obtain ⟨_, hx182, rfl⟩ := hgk180.val 1 23 rfl rfl
     obtain ⟨_, hx183, rfl⟩ := hgk180.val 3 25 rfl rfl
     obtain ⟨_, hx184, A54_185, c55_186, rfl, h187⟩ := hgk180.val 10 32 rfl rfl
     have hr188 := hgk180.st.rng 7 (hgk180.has 7 rfl)
     have hr189 := hgk180.st.rng 10 (hgk180.has 10 rfl)
     have hsp190 := hgk180.st.ord 10 7 (hgk180.has 10 rfl) rfl
     exact OpR.op' rfl (Yl.sameG (yl_build (cs := [.int .i64 (p_a.From), .int .i64 (p_b.To), .slice A54_185 (((([] : List DFeedItem) ++ p_a.List) ++ p_b.List).length) c55_186]) rfl (opvs_cons hx182 (opvs_cons hx183 (opvs_cons hx184 opvs_nil))) (by kernel_rfl) ⟨fun _ _ => ⟨A54_185, c55_186, rfl, (OwnL.more (lo' := (G177.fl 7)) (hi' := (G177.fh 10)) h187 (by omega) (by omega))⟩, rfl⟩))
    ·intro L192 w193 G191 hgk194
     have hE195 := hgk194.st.ex.ex (fun b h => h.elim (fun h => h.elim) (fun h => h))
     have hE195z := Ex.size hE195
     obtain ⟨_, hx196, A54_197, c55_198, rfl, h199⟩ := hgk194.val 11 33 rfl rfl
     have hr200 := hgk194.st.rng 7 (hgk194.has 7 rfl)
     have hr201 := hgk194.st.rng 10 (hgk194.has 10 rfl)
     have hr202 := hgk194.st.rng 11 (hgk194.has 11 rfl)
     have hsp203 := hgk194.st.ord 10 7 (hgk194.has 10 rfl) rfl
     have hsp204 := hgk194.st.ord 11 7 (hgk194.has 11 rfl) rfl
     have hsp205 := hgk194.st.ord 11 10 (hgk194.has 11 rfl) rfl
     have hol206 : p_a.List.length ≤ 2147483648 := o2.1
     have hol207 : p_b.List.length ≤ 2147483648 := o4.1
     refine OpR.op' rfl (yl_call Try.en99 rfl (opvs_cons hx196 opvs_nil) (Cal.mono (c_s_l31If (⟨p_a.From, p_b.To, ((([] : List DFeedItem) ++ p_a.List) ++ p_b.List)⟩ : DDiff) h199 (by omega) (okL.mk (xs := ((([] : List DFeedItem) ++ p_a.List) ++ p_b.List)) (by first | omega | (simp only [List.length_append, List.length_cons, List.length_nil, List.length_take, List.length_drop, List.length_replicate, List.length_set, toS_length]; omega)) (okE.append (okE.append okE.nil (o2).2) (o4).2))) ?_))
     rintro v211 w208 ⟨A209, c209, rfl, h209, ho210, hE212⟩
     exact ⟨Chg.of_ex hE212, A209, c209, rfl, (OwnL.more (lo' := (G191.fl 7)) (hi' := (G191.fh 10)) h209 (by omega) (by omega)), ho210⟩
    ·intro L214 w215 G213 hgk216
     have hE217 := hgk216.st.ex.ex (fun b h => h.elim (fun h => h.elim) (fun h => h))
     have hE217z := Ex.size hE217
     obtain ⟨_, hx218, A61_219, c61_220, rfl, h221, h222⟩ := hgk216.val 12 34 rfl rfl
     have hr223 := hgk216.st.rng 7 (hgk216.has 7 rfl)
     have hr224 := hgk216.st.rng 10 (hgk216.has 10 rfl)
     have hr225 := hgk216.st.rng 12 (hgk216.has 12 rfl)
     have hsp226 := hgk216.st.ord 10 7 (hgk216.has 10 rfl) rfl
     have hsp227 := hgk216.st.ord 12 7 (hgk216.has 12 rfl) rfl
     have hsp228 := hgk216.st.ord 12 10 (hgk216.has 12 rfl) rfl
     exact OpR.op' rfl (Yl.sameG (yl_extract rfl hx218 rfl ⟨fun _ _ => ⟨A61_219, c61_220, rfl, (OwnL.more (lo' := (G213.fl 7)) (hi' := (G213.fh 10)) h221 (by omega) (by omega))⟩, rfl⟩))
    ·intro L230 w231 G229 hgk232
     have hE233 := hgk232.st.ex.ex (fun b h => h.elim (fun h => h.elim) (fun h => h))
     have hE233z := Ex.size hE233
     obtain ⟨_, hx234, A61_235, c61_236, rfl, h237, h238⟩ := hgk232.val 12 34 rfl rfl
     have hr239 := hgk232.st.rng 7 (hgk232.has 7 rfl)
     have hr240 := hgk232.st.rng 10 (hgk232.has 10 rfl)
     have hr241 := hgk232.st.rng 12 (hgk232.has 12 rfl)
     have hsp242 := hgk232.st.ord 10 7 (hgk232.has 10 rfl) rfl
     have hsp243 := hgk232.st.ord 12 7 (hgk232.has 12 rfl) rfl
     have hsp244 := hgk232.st.ord 12 10 (hgk232.has 12 rfl) rfl
     exact OpR.op' rfl (Yl.sameG (yl_extract rfl hx234 rfl kI))
    ·intro G245 L246 w247 hgp248
     have hE249 := hgp248.st.ex.ex (fun b h => h.elim (fun h => h.elim) (fun h => h))
     have hE249z := Ex.size hE249
     have hx250 := hgp248.old 4 _ rfl rfl
     obtain ⟨_, hx251, A48_252, rfl, h253⟩ := hgp248.val 4 26 rfl rfl
     obtain ⟨_, hx254, A54_255, c55_256, rfl, h257⟩ := hgp248.val 10 32 rfl rfl
     obtain ⟨_, hx258, A54_259, c55_260, rfl, h261⟩ := hgp248.val 11 33 rfl rfl
     obtain ⟨_, hx262, A61_263, c61_264, rfl, h265, h266⟩ := hgp248.val 12 34 rfl rfl
     obtain ⟨_, hx267, A61_268, c61_269, rfl, h270⟩ := hgp248.val 13 35 rfl rfl
     obtain ⟨_, hx271, rfl⟩ := hgp248.val 14 36 rfl rfl
     have hr272 := hgp248.st.rng 4 (hgp248.has 4 rfl)
     have hr273 := hgp248.st.rng 7 (hgp248.has 7 rfl)
     have hr274 := hgp248.st.rng 10 (hgp248.has 10 rfl)
     have hr275 := hgp248.st.rng 11 (hgp248.has 11 rfl)
     have hr276 := hgp248.st.rng 12 (hgp248.has 12 rfl)
     have hr277 := hgp248.st.rng 13 (hgp248.has 13 rfl)
     have hsp278 := hgp248.st.ord 7 4 (hgp248.has 7 rfl) rfl
     have hsp279 := hgp248.st.ord 10 4 (hgp248.has 10 rfl) rfl
     have hsp280 := hgp248.st.ord 11 4 (hgp248.has 11 rfl) rfl
     have hsp281 := hgp248.st.ord 12 4 (hgp248.has 12 rfl) rfl
     have hsp282 := hgp248.st.ord 13 4 (hgp248.has 13 rfl) rfl
     have hsp283 := hgp248.st.ord 10 7 (hgp248.has 10 rfl) rfl
     have hsp284 := hgp248.st.ord 11 7 (hgp248.has 11 rfl) rfl
     have hsp285 := hgp248.st.ord 12 7 (hgp248.has 12 rfl) rfl
     have hsp286 := hgp248.st.ord 13 7 (hgp248.has 13 rfl) rfl
     have hsp287 := hgp248.st.ord 11 10 (hgp248.has 11 rfl) rfl
     have hsp288 := hgp248.st.ord 12 10 (hgp248.has 12 rfl) rfl
     have hsp289 := hgp248.st.ord 13 10 (hgp248.has 13 rfl) rfl
     have hsp290 := hgp248.st.ord 12 11 (hgp248.has 12 rfl) rfl
     have hsp291 := hgp248.st.ord 13 11 (hgp248.has 13 rfl) rfl
     have hsp292 := hgp248.st.ord 13 12 (hgp248.has 13 rfl) rfl
     refine SeqR.u rfl rfl (yl_store (vs := [.int .i64 ((s_l31If (⟨p_a.From, p_b.To, ((([] : List DFeedItem) ++ p_a.List) ++ p_b.List)⟩ : DDiff)).1.From), .int .i64 ((s_l31If (⟨p_a.From, p_b.To, ((([] : List DFeedItem) ++ p_a.List) ++ p_b.List)⟩ : DDiff)).1.To), .slice A61_268 (((s_l31If (⟨p_a.From, p_b.To, ((([] : List DFeedItem) ++ p_a.List) ++ p_b.List)⟩ : DDiff)).1.List).length) c61_269]) Try.ty85 rfl hx250 hx267 rfl rfl rfl (Box.ex (Box.ex (Box.ex hB23 hE32) hE42) hE249) (Nat.le_of_ble_eq_true rfl) ?_)
     intro w296 hB297 hO298
     have hB297 : Box w296 b19 85 [.int .i64 ((s_l31If (⟨p_a.From, p_b.To, ((([] : List DFeedItem) ++ p_a.List) ++ p_b.List)⟩ : DDiff)).1.From), .int .i64 ((s_l31If (⟨p_a.From, p_b.To, ((([] : List DFeedItem) ++ p_a.List) ++ p_b.List)⟩ : DDiff)).1.To), .slice A61_268 (((s_l31If (⟨p_a.From, p_b.To, ((([] : List DFeedItem) ++ p_a.List) ++ p_b.List)⟩ : DDiff)).1.List).length) c61_269] := hB297
     have hO298z := hO298.size
     refine sd rfl (yl_assign rfl hx271 (SeqR.done (tn (CW.sub (Sub.cons (d := 4) hx250 (Sub.cons (d := 5) rfl (Sub.nil _))) (CW.ret (rr rfl (.cons ⟨_, rfl, run_loadN Try.ty85 (cs := [.int .i64 ((s_l31If (⟨p_a.From, p_b.To, ((([] : List DFeedItem) ++ p_a.List) ++ p_b.List)⟩ : DDiff)).1.From), .int .i64 ((s_l31If (⟨p_a.From, p_b.To, ((([] : List DFeedItem) ++ p_a.List) ++ p_b.List)⟩ : DDiff)).1.To), .slice A61_268 (((s_l31If (⟨p_a.From, p_b.To, ((([] : List DFeedItem) ++ p_a.List) ++ p_b.List)⟩ : DDiff)).1.List).length) c61_269]) rfl (hB297.cells (n := 3) rfl)⟩ (.cons rfl .nil)) ?_))))))
     have hM299 : (s_JoinDiffs p_a p_b) = (((s_l31If (⟨p_a.From, p_b.To, ((([] : List DFeedItem) ++ p_a.List) ++ p_b.List)⟩ : DDiff)).1, (s_l31If (⟨p_a.From, p_b.To, ((([] : List DFeedItem) ++ p_a.List) ++ p_b.List)⟩ : DDiff)).2)) := by simp only [s_JoinDiffs, hb33, hb43, hb47, cond_true, cond_false, loopE_done, loopE_ret]
     rw [hM299]
     exact ⟨A61_268, c61_269, (G245.fl 7), (G245.fh 10), rfl, (OwnL.only good_FeedItem h270 hO298 (by omega)), h266, (by omega), (Below.only (Ex.trans (Ex.trans (Ex.trans (Ex.trans (Ex.trans (Ex.trans (Ex.refl w) hE12) hE18) hE24) hE32) hE42) hE249) hO298 (by omega))⟩
   ·have hb47p := dec_f hb47
    refine CW.cond_t rfl (not_f hb47) (CW.seq (CW.region (sd rfl (yl_build (cs := [.int .i64 (0), .int .i64 (0), .slice none 0 0]) rfl opvs_nil (by kernel_rfl) (SeqR.u rfl rfl (yl_store (vs := [.int .i64 (0), .int .i64 (0), .slice none 0 0]) Try.ty85 rfl rfl rfl rfl rfl rfl (Box.ex (Box.ex hB23 hE32) hE42) (Nat.le_of_ble_eq_true rfl) ?_))))))
    intro w310 hB311 hO312
    have hB311 : Box w310 b19 85 [.int .i64 (0), .int .i64 (0), .slice none 0 0] := hB311
    have hO312z := hO312.size
    refine sd rfl (yl_assign rfl rfl (SeqR.done (tn (CW.ret (tr (rr rfl (.cons ⟨_, rfl, run_loadN Try.ty85 (cs := [.int .i64 (0), .int .i64 (0), .slice none 0 0]) rfl (hB311.cells (n := 3) rfl)⟩ (.cons rfl .nil)) ?_))))))
    have hM313 : (s_JoinDiffs p_a p_b) = (((⟨0, 0, []⟩ : DDiff), false)) := by simp only [s_JoinDiffs, hb33, hb43, hb47, cond_true, cond_false, loopE_done, loopE_ret]
    rw [hM313]
    exact ⟨none, 0, w310.heap.size, w310.heap.size, rfl, (OwnL.nil _ _ _ _ _ _), (okL.nil _), (by omega), (Below.only (Ex.trans (Ex.trans (Ex.trans (Ex.trans (Ex.trans (Ex.refl w) hE12) hE18) hE24) hE32) hE42) hO312 (by omega))⟩
  ·refine sz rfl rfl (not_f hb43) (sz rfl rfl (not_f hb43) (sz rfl rfl (not_f hb43) (sz rfl rfl (not_f hb43) (sz rfl rfl (not_f hb43) (sd rfl (yl_pick_t rfl rfl (not_f hb43) rfl (SeqR.done (tn (CW.cond_t rfl rfl ?_)))))))))
   refine CW.seq (CW.region (sd rfl (yl_build (cs := [.int .i64 (0), .int .i64 (0), .slice none 0 0]) rfl opvs_nil (by kernel_rfl) (SeqR.u rfl rfl (yl_store (vs := [.int .i64 (0), .int .i64 (0), .slice none 0 0]) Try.ty85 rfl rfl rfl rfl rfl rfl (Box.ex (Box.ex hB23 hE32) hE42) (Nat.le_of_ble_eq_true rfl) ?_)))))
   intro w322 hB323 hO324
   have hB323 : Box w322 b19 85 [.int .i64 (0), .int .i64 (0), .slice none 0 0] := hB323
   have hO324z := hO324.size
   refine sd rfl (yl_assign rfl rfl (SeqR.done (tn (CW.ret (tr (rr rfl (.cons ⟨_, rfl, run_loadN Try.ty85 (cs := [.int .i64 (0), .int .i64 (0), .slice none 0 0]) rfl (hB323.cells (n := 3) rfl)⟩ (.cons rfl .nil)) ?_))))))
   have hM325 : (s_JoinDiffs p_a p_b) = (((⟨0, 0, []⟩ : DDiff), false)) := by simp only [s_JoinDiffs, hb33, hb43, cond_true, cond_false, loopE_done, loopE_ret]
   rw [hM325]
   exact ⟨none, 0, w322.heap.size, w322.heap.size, rfl, (OwnL.nil _ _ _ _ _ _), (okL.nil _), (by omega), (Below.only (Ex.trans (Ex.trans (Ex.trans (Ex.trans (Ex.trans (Ex.refl w) hE12) hE18) hE24) hE32) hE42) hO324 (by omega))⟩
 ·refine sz rfl rfl (not_f hb33) (sz rfl rfl (not_f hb33) (sz rfl rfl (not_f hb33) (sd rfl (yl_pick_t rfl rfl (not_f hb33) rfl (sd rfl (yl_move rfl rfl (sz rfl rfl rfl (sz rfl rfl rfl (sz rfl rfl rfl (sz rfl rfl rfl ?_))))))))))
  refine sz rfl rfl rfl (sd rfl (yl_pick_t rfl rfl rfl rfl (SeqR.done (tn (CW.cond_t rfl rfl (CW.seq (CW.region (sd rfl (yl_build (cs := [.int .i64 (0), .int .i64 (0), .slice none 0 0]) rfl opvs_nil (by kernel_rfl) (SeqR.u rfl rfl (yl_store (vs := [.int .i64 (0), .int .i64 (0), .slice none 0 0]) Try.ty85 rfl rfl rfl rfl rfl rfl (Box.ex hB23 hE32) (Nat.le_of_ble_eq_true rfl) ?_)))))))))))
  intro w333 hB334 hO335
  have hB334 : Box w333 b19 85 [.int .i64 (0), .int .i64 (0), .slice none 0 0] := hB334
  have hO335z := hO335.size
  refine sd rfl (yl_assign rfl rfl (SeqR.done (tn (CW.ret (tr (rr rfl (.cons ⟨_, rfl, run_loadN Try.ty85 (cs := [.int .i64 (0), .int .i64 (0), .slice none 0 0]) rfl (hB334.cells (n := 3) rfl)⟩ (.cons rfl .nil)) ?_))))))
  have hM336 : (s_JoinDiffs p_a p_b) = (((⟨0, 0, []⟩ : DDiff), false)) := by simp only [s_JoinDiffs, hb33, cond_true, cond_false, loopE_done, loopE_ret]
  rw [hM336]
  exact ⟨none, 0, w333.heap.size, w333.heap.size, rfl, (OwnL.nil _ _ _ _ _ _), (okL.nil _), (by omega), (Below.only (Ex.trans (Ex.trans (Ex.trans (Ex.trans (Ex.refl w) hE12) hE18) hE24) hE32) hO335 (by omega))⟩
set_option maxRecDepth 100000 in
set_option maxHeartbeats 2000000 in
theorem c_l_toFeedItem {w : World} (p_a : DFeedItem) (o1 : ok_FeedItem p_a) : Cal Try.prog 149 #[.agg #[.int .i64 (p_a.Time), .int .i64 (p_a.Group), .string (bs (p_a.Key)), .string (bs (p_a.Val)), .bool (p_a.Gone)]] w fun v w' => v = .agg #[.int .i64 (p_a.Time), .int .i64 (p_a.Group), .string (bs (p_a.Key)), .string (bs (p_a.Val)), .bool (p_a.Gone)] ∧ Ex w w' := by
 have hol2 : p_a.Key.length ≤ 1073741824 := o1.1
 have hol3 : p_a.Val.length ≤ 1073741824 := o1.2
 refine Cal.of (vs := [.agg #[.int .i64 (p_a.Time), .int .i64 (p_a.Group), .string (bs (p_a.Key)), .string (bs (p_a.Val)), .bool (p_a.Gone)]]) Try.func149 rfl Try.ntmps149 rfl (CW.seq (CW.region (sd rfl (yl_box (cs := [.int .i64 (p_a.Time), .int .i64 (p_a.Group), .string (bs (p_a.Key)), .string (bs (p_a.Val)), .bool (p_a.Gone)]) rfl rfl rfl ?_))))
 intro b4 w5 hs6 hz7 hB8 hE9
 refine sd rfl (yl_alloc Try.ty140 (cs := [.int .i64 (0), .int .i64 (0), .string (bs (([] : Str))), .string (bs (([] : Str))), .bool (false)]) rfl rfl ?_)
 intro b10 w11 hs12 hz13 hB14 hE15
 refine SeqR.done (tn (CW.seq (CW.region (sd rfl (yl_alloc Try.ty140 (cs := [.int .i64 (0), .int .i64 (0), .string (bs (([] : Str))), .string (bs (([] : Str))), .bool (false)]) rfl rfl ?_)))))
 intro b16 w17 hs18 hz19 hB20 hE21
 refine SeqR.done (tn (CW.seq (CW.region (sd rfl (yl_fieldAddr Try.fd187_0 rfl rfl ?_)))))
 have q23 := Box.ex (Box.ex hB8 hE15) hE21
 refine sd rfl (yl_load1 Try.ty3 rfl rfl ((q23.cell 0).trans rfl) (sd rfl (yl_fieldAddr Try.fd140_0 rfl rfl (SeqR.u rfl rfl (yl_store (vs := [.int .i64 (p_a.Time)]) Try.ty3 rfl rfl rfl rfl rfl rfl hB20 (Nat.le_of_ble_eq_true rfl) ?_)))))
 intro w24 hB25 hO26
 have hB25 : Box w24 b16 140 [.int .i64 (p_a.Time), .int .i64 (0), .string (bs (([] : Str))), .string (bs (([] : Str))), .bool (false)] := hB25
 have hO26z := hO26.size
 refine SeqR.done (tn (CW.seq (CW.region (sd rfl (yl_fieldAddr Try.fd187_1 rfl rfl ?_)))))
 have q27 := Box.only q23 hO26 (by omega)
 refine sd rfl (yl_load1 Try.ty3 rfl rfl ((q27.cell 1).trans rfl) (sd rfl (yl_fieldAddr Try.fd140_1 rfl rfl (SeqR.u rfl rfl (yl_store (vs := [.int .i64 (p_a.Group)]) Try.ty3 rfl rfl rfl rfl rfl rfl hB25 (Nat.le_of_ble_eq_true rfl) ?_)))))
 intro w28 hB29 hO30
 have hB29 : Box w28 b16 140 [.int .i64 (p_a.Time), .int .i64 (p_a.Group), .string (bs (([] : Str))), .string (bs (([] : Str))), .bool (false)] := hB29
 have hO30z := hO30.size
 refine SeqR.done (tn (CW.seq (CW.region (sd rfl (yl_fieldAddr Try.fd187_2 rfl rfl ?_)))))
 have q31 := Box.only q27 hO30 (by omega)
 refine sd rfl (yl_load1 Try.ty9 rfl rfl ((q31.cell 2).trans rfl) (sd rfl (yl_fieldAddr Try.fd140_2 rfl rfl (SeqR.u rfl rfl (yl_store (vs := [.string (bs (p_a.Key))]) Try.ty9 rfl rfl rfl rfl rfl rfl hB29 (Nat.le_of_ble_eq_true rfl) ?_)))))
 intro w32 hB33 hO34
 have hB33 : Box w32 b16 140 [.int .i64 (p_a.Time), .int .i64 (p_a.Group), .string (bs (p_a.Key)), .string (bs (([] : Str))), .bool (false)] := hB33
 have hO34z := hO34.size
 refine SeqR.done (tn (CW.seq (CW.region (sd rfl (yl_fieldAddr Try.fd187_3 rfl rfl ?_)))))
 have q35 := Box.only q31 hO34 (by omega)
 refine sd rfl (yl_load1 Try.ty9 rfl rfl ((q35.cell 3).trans rfl) (sd rfl (yl_fieldAddr Try.fd140_3 rfl rfl (SeqR.u rfl rfl (yl_store (vs := [.string (bs (p_a.Val))]) Try.ty9 rfl rfl rfl rfl rfl rfl hB33 (Nat.le_of_ble_eq_true rfl) ?_)))))
 intro w36 hB37 hO38
 have hB37 : Box w36 b16 140 [.int .i64 (p_a.Time), .int .i64 (p_a.Group), .string (bs (p_a.Key)), .string (bs (p_a.Val)), .bool (false)] := hB37
 have hO38z := hO38.size
 refine SeqR.done (tn (CW.seq (CW.region (sd rfl (yl_fieldAddr Try.fd187_4 rfl rfl (sd rfl (yl_load1 Try.ty4 rfl rfl (((Box.only q35 hO38 (by omega)).cell 4).trans rfl) (sd rfl (yl_fieldAddr Try.fd140_4 rfl rfl (SeqR.u rfl rfl (yl_store (vs := [.bool (p_a.Gone)]) Try.ty4 rfl rfl rfl rfl rfl rfl hB37 (Nat.le_of_ble_eq_true rfl) ?_)))))))))))
 intro w40 hB41 hO42
 have hB41 : Box w40 b16 140 [.int .i64 (p_a.Time), .int .i64 (p_a.Group), .string (bs (p_a.Key)), .string (bs (p_a.Val)), .bool (p_a.Gone)] := hB41
 have hO42z := hO42.size
 refine SeqR.done (tn (CW.seq (CW.region (sd rfl (yl_loadN (cs := [.int .i64 (p_a.Time), .int .i64 (p_a.Group), .string (bs (p_a.Key)), .string (bs (p_a.Val)), .bool (p_a.Gone)]) Try.ty140 rfl rfl (hB41.cells (n := 5) rfl) rfl (SeqR.u rfl rfl (yl_store (vs := [.int .i64 (p_a.Time), .int .i64 (p_a.Group), .string (bs (p_a.Key)), .string (bs (p_a.Val)), .bool (p_a.Gone)]) Try.ty140 rfl rfl rfl rfl rfl rfl (Box.only (Box.only (Box.only (Box.only (Box.only (Box.ex hB14 hE21) hO26 (by omega)) hO30 (by omega)) hO34 (by omega)) hO38 (by omega)) hO42 (by omega)) (Nat.le_of_ble_eq_true rfl) ?_)))))))
 intro w49 hB50 hO51
 have hB50 : Box w49 b10 140 [.int .i64 (p_a.Time), .int .i64 (p_a.Group), .string (bs (p_a.Key)), .string (bs (p_a.Val)), .bool (p_a.Gone)] := hB50
 have hO51z := hO51.size
 refine SeqR.done (tn (CW.ret (rr rfl (.cons ⟨_, rfl, run_loadN Try.ty140 (cs := [.int .i64 (p_a.Time), .int .i64 (p_a.Group), .string (bs (p_a.Key)), .string (bs (p_a.Val)), .bool (p_a.Gone)]) rfl (hB50.cells (n := 5) rfl)⟩ .nil) ?_)))
 have hM52 : p_a = (p_a) := (to_FeedItem _).symm.trans <| by simp only [l_toFeedItem, cond_true, cond_false, loopE_done, loopE_ret]
 rw [hM52]
 exact ⟨rfl, (Below.only (Below.only (Below.only (Below.only (Below.only (Below.only (Ex.trans (Ex.trans (Ex.trans (Ex.refl w) hE9) hE15) hE21) hO26 (by omega)) hO30 (by omega)) hO34 (by omega)) hO38 (by omega)) hO42 (by omega)) hO51 (by omega))⟩
set_option maxRecDepth 100000 in
set_option maxHeartbeats 2000000 in
theorem c_l_toFeedItemS {A1 : Option Addr} {c1 : Nat} {w : World} (p_a : List DFeedItem) (h1 : RdS w (Iv 0 w.heap.size) (RF e_FeedItem) 5 A1 p_a.length c1 p_a) (o2 : (okL ok_FeedItem) p_a) : Cal Try.prog 100 #[.slice A1 p_a.length c1] w fun v w' => ∃ A_1 c_1 lo_1 hi_1, v = .slice A_1 p_a.length c_1 ∧ OwnL w' lo_1 hi_1 140 5 (RF e_FeedItem) A_1 p_a.length c_1 p_a ∧ (w.heap.size ≤ lo_1 ∧ lo_1 ≤ hi_1 ∧ hi_1 ≤ w'.heap.size) ∧ Ex w w' := by
 have hol3 := o2.1
 refine Cal.of (vs := [.slice A1 p_a.length c1]) Try.func100 rfl Try.ntmps100 rfl (CW.seq (CW.region (sd rfl (yl_assign rfl rfl (SeqR.done (tn (CW.seq (CW.region (sd rfl (yl_move rfl rfl ?_))))))))))
 refine sd rfl (yl_len Try.un79 rfl rfl (sd rfl (yl_make (zs := [.int .i64 (0), .int .i64 (0), .string (bs (([] : Str))), .string (bs (([] : Str))), .bool (false)]) (n := p_a.length) Try.un83 Try.ty140 rfl rfl (Nat.le_of_ble_eq_true rfl) rfl rfl rfl (by first | omega | assumption | (simp only [IntKind.wrap_i64] at *; omega)) (by first | omega | assumption | (simp only [IntKind.wrap_i64] at *; omega)) ?_)))
 intro b4 w5 hs6 hz7 hB8 hE9
 have hO10 : OwnL w5 b4 (b4 + 1) 140 5 (RF e_FeedItem) (some ⟨b4, 0, none⟩) p_a.length p_a.length (List.replicate p_a.length d_FeedItem) := by have := OwnL.of_boxF (lo := b4) (hi := b4 + 1) (xs := (List.replicate p_a.length d_FeedItem)) hB8 (Nat.le_refl _) (Nat.lt_succ_self _) (EncL.zerosF (enc := e_FeedItem) (d := d_FeedItem) rfl p_a.length) (by rw [List.length_replicate]; omega); rwa [List.length_replicate] at this
 refine sd rfl (yl_assign rfl rfl (SeqR.done (tn (CW.seq (CW.seq (CW.region (sd rfl (yl_assign rfl rfl (SeqR.done (tn ?_))))))))))
 refine CW.block (CW.loop (fun m23 L24 w25 => ∃ (k11 : Nat) (x22 : List DFeedItem), m23 = p_a.length - k11 ∧ k11 ≤ p_a.length ∧ w5.heap.size ≤ w25.heap.size ∧ lkp L24 0 = some (.slice A1 p_a.length c1) ∧ lkp L24 3 = some (.slice (some ⟨b4, 0, none⟩) p_a.length p_a.length) ∧ lkp L24 4 = some (.int .i64 ((k11 : Int))) ∧ RdS w25 (Iv 0 w.heap.size) (RF e_FeedItem) 5 A1 p_a.length c1 p_a ∧ OwnL w25 b4 (b4 + 1) 140 5 (RF e_FeedItem) (some ⟨b4, 0, none⟩) p_a.length p_a.length x22 ∧ Ex w w25 ∧ loopM (B_l_toFeedItemS_0 p_a) (p_a.length - k11) k11 (x22) = loopM (B_l_toFeedItemS_0 p_a) (p_a.length - 0) 0 ((List.replicate p_a.length d_FeedItem))) (p_a.length - 0) ?_ ?_)
 ·exact ⟨0, (List.replicate p_a.length d_FeedItem), rfl, (by omega), Nat.le_refl _, rfl, rfl, rfl, (RdS.ex good_FeedItem h1 hE9), hO10, (Ex.trans (Ex.refl w) hE9), rfl⟩
 ·rintro m28 L29 w30 ⟨k11, x22, rfl, hk31, hsz33, hl34, hl35, hl36, hf37, hf38, hf39, hI32⟩
  refine CW.sub (Sub.cons hl34 (Sub.cons hl35 (Sub.cons hl36 (Sub.nil _)))) ?_
  have hf39z := Ex.size hf39
  have hbg40 := RdS.big hf37
  rcases Nat.lt_or_ge k11 p_a.length with hlt41 | hlt41
  ·refine CW.seq (CW.seq (CW.region (sd rfl (yl_move rfl rfl (sd rfl (yl_move rfl rfl (sd rfl (yl_len Try.un79 rfl rfl (sd rfl (yl_lss rfl rfl rfl (SeqR.done (tn ?_))))))))))))
   refine CW.cond_t rfl (lt_t hlt41) (CW.skip (tn (CW.seq (CW.block (CW.region (sd rfl (yl_move rfl rfl (sd rfl (yl_move rfl rfl (sd rfl (yl_move rfl rfl ?_)))))))))))
   refine sd rfl (yl_move rfl rfl ?_)
   obtain ⟨eb42, eo42, ec42, eA42, eS42, ebl42, el42, eR42, eC42⟩ := RdS.atD hf37 d_FeedItem (i := k11) (by first | omega | assumption)
   obtain rfl := eR42
   have eC42 : Cells w30 eb42 (eo42 + k11 * 5) [.int .i64 ((p_a.getD k11 d_FeedItem).Time), .int .i64 ((p_a.getD k11 d_FeedItem).Group), .string (bs ((p_a.getD k11 d_FeedItem).Key)), .string (bs ((p_a.getD k11 d_FeedItem).Val)), .bool ((p_a.getD k11 d_FeedItem).Gone)] := eC42
   refine sd rfl (yl_indexAddrN Try.un79 Try.ty187 rfl rfl rfl eA42 (by first | omega | assumption | (simp only [IntKind.wrap_i64] at *; omega)) (sd rfl (yl_loadN (cs := [.int .i64 ((p_a.getD k11 d_FeedItem).Time), .int .i64 ((p_a.getD k11 d_FeedItem).Group), .string (bs ((p_a.getD k11 d_FeedItem).Key)), .string (bs ((p_a.getD k11 d_FeedItem).Val)), .bool ((p_a.getD k11 d_FeedItem).Gone)]) Try.ty187 rfl rfl eC42 rfl (sd rfl (yl_call Try.en149 rfl (opvs_cons rfl opvs_nil) (Cal.mono (c_l_toFeedItem (p_a.getD k11 d_FeedItem) (okL.getD o2 ok_d_FeedItem _)) ?_))))))
   rintro v44 w43 ⟨rfl, hE45⟩
   have hE45z := Ex.size hE45
   have q47 := OwnL.ex good_FeedItem hf38 hE45
   obtain ⟨eb48, eo48, ec48, eA48, eS48, ebl48, el48, eR48, eC48⟩ := RdS.atD (OwnL.rd good_FeedItem q47) d_FeedItem (i := k11) (by first | omega | assumption)
   obtain rfl := eR48
   have eC48 : Cells w43 eb48 (eo48 + k11 * 5) [.int .i64 ((x22.getD k11 d_FeedItem).Time), .int .i64 ((x22.getD k11 d_FeedItem).Group), .string (bs ((x22.getD k11 d_FeedItem).Key)), .string (bs ((x22.getD k11 d_FeedItem).Val)), .bool ((x22.getD k11 d_FeedItem).Gone)] := eC48
   refine sd rfl (yl_indexAddrN Try.un83 Try.ty140 rfl rfl rfl eA48 (by first | omega | assumption | (simp only [IntKind.wrap_i64] at *; omega)) ?_)
   have hrg49 := OwnL.rng q47 (i := k11) (by first | omega | assumption | (simp only [IntKind.wrap_i64] at *; omega)) eb48 (by rw [eA48]; rfl)
   refine SeqR.u rfl rfl (yl_storeF (off := eo48) (i := k11) (d := 0) (dx := d_FeedItem) (x' := (p_a.getD k11 d_FeedItem)) (vs := [.int .i64 ((p_a.getD k11 d_FeedItem).Time), .int .i64 ((p_a.getD k11 d_FeedItem).Group), .string (bs ((p_a.getD k11 d_FeedItem).Key)), .string (bs ((p_a.getD k11 d_FeedItem).Val)), .bool ((p_a.getD k11 d_FeedItem).Gone)]) Try.ty140 rfl q47 eA48 rfl rfl rfl rfl rfl (by first | omega | assumption | (simp only [IntKind.wrap_i64] at *; omega)) (Nat.le_of_ble_eq_true rfl) rfl rfl ?_)
   intro w50 hB51 hO52
   have hO52z := hO52.size
   refine SeqR.done (bn (tn (CW.region (sd rfl (yl_move rfl rfl (sd rfl (yl_inc rfl rfl rfl (by omega) (sd rfl (yl_assign rfl rfl (SeqR.done (tn ?_)))))))))))
   have hB53 : B_l_toFeedItemS_0 p_a k11 (x22) = .cont ((x22.set k11 (p_a.getD k11 d_FeedItem))) := by simp only [B_l_toFeedItemS_0, cond_true, cond_false, loopE_done, loopE_ret]
   exact ⟨p_a.length - (k11 + 1), by omega, k11 + 1, (x22.set k11 (p_a.getD k11 d_FeedItem)), rfl, hlt41, (by omega), rfl, rfl, rfl, (RdS.only good_FeedItem (RdS.ex good_FeedItem hf37 hE45) hO52 (by simp only [Iv]; omega)), hB51, (Below.only (Ex.trans hf39 hE45) hO52 (by omega)), (loopM.cont hlt41 hB53).symm.trans hI32⟩
  ·refine CW.seq (CW.seq (CW.region (sd rfl (yl_move rfl rfl (sd rfl (yl_move rfl rfl (sd rfl (yl_len Try.un79 rfl rfl (sd rfl (yl_lss rfl rfl rfl (SeqR.done (tn ?_))))))))))))
   refine CW.cond_f rfl (lt_f hlt41) (CW.exit (tx (tx ?_)))
   have hL58 : loopM (B_l_toFeedItemS_0 p_a) (p_a.length - 0) 0 ((List.replicate p_a.length d_FeedItem)) = .done (x22) := hI32.symm.trans (loopM.stop hlt41)
   refine bx (tn (CW.seq (CW.region (sd rfl (yl_move rfl rfl (sd rfl (yl_assign rfl rfl (SeqR.done (tn (CW.ret ?_))))))))))
   refine rr rfl (.cons rfl .nil) ?_
   have hM59 : p_a = (x22) := (to_FeedItemS _).symm.trans <| by simp only [l_toFeedItemS, hL58, cond_true, cond_false, loopE_done, loopE_ret]
   subst hM59
   exact ⟨(some ⟨b4, 0, none⟩), p_a.length, b4, (b4 + 1), rfl, hf38, (by omega), hf39⟩
set_option maxRecDepth 100000 in
set_option maxHeartbeats 2000000 in
theorem c_l_toDiff {A1 : Option Addr} {c1 : Nat} {w : World} (p_a : DDiff) (h1 : RdS w (Iv 0 w.heap.size) (RF e_FeedItem) 5 A1 p_a.List.length c1 p_a.List) (o2 : ok_Diff p_a) : Cal Try.prog 46 #[.agg #[.int .i64 (p_a.From), .int .i64 (p_a.To), .slice A1 p_a.List.length c1]] w fun v w' => ∃ A_1 c_1 lo_1 hi_1, v = .agg #[.int .i64 (p_a.From), .int .i64 (p_a.To), .slice A_1 p_a.List.length c_1] ∧ OwnL w' lo_1 hi_1 140 5 (RF e_FeedItem) A_1 p_a.List.length c_1 p_a.List ∧ (w.heap.size ≤ lo_1 ∧ lo_1 ≤ hi_1 ∧ hi_1 ≤ w'.heap.size) ∧ Ex w w' := by
 have hol3 := o2.1
 refine Cal.of (vs := [.agg #[.int .i64 (p_a.From), .int .i64 (p_a.To), .slice A1 p_a.List.length c1]]) Try.func46 rfl Try.ntmps46 rfl (CW.seq (CW.region (sd rfl (yl_box (cs := [.int .i64 (p_a.From), .int .i64 (p_a.To), .slice A1 p_a.List.length c1]) rfl rfl rfl ?_))))
 intro b4 w5 hs6 hz7 hB8 hE9
 refine sd rfl (yl_alloc Try.ty85 (cs := [.int .i64 (0), .int .i64 (0), .slice none 0 0]) rfl rfl ?_)
 intro b10 w11 hs12 hz13 hB14 hE15
 refine SeqR.done (tn (CW.seq (CW.region (sd rfl (yl_alloc Try.ty85 (cs := [.int .i64 (0), .int .i64 (0), .slice none 0 0]) rfl rfl ?_)))))
 intro b16 w17 hs18 hz19 hB20 hE21
 refine SeqR.done (tn (CW.seq (CW.region (sd rfl (yl_fieldAddr Try.fd81_0 rfl rfl ?_)))))
 have q23 := Box.ex (Box.ex hB8 hE15) hE21
 refine sd rfl (yl_load1 Try.ty3 rfl rfl ((q23.cell 0).trans rfl) (sd rfl (yl_fieldAddr Try.fd85_0 rfl rfl (SeqR.u rfl rfl (yl_store (vs := [.int .i64 (p_a.From)]) Try.ty3 rfl rfl rfl rfl rfl rfl hB20 (Nat.le_of_ble_eq_true rfl) ?_)))))
 intro w24 hB25 hO26
 have hB25 : Box w24 b16 85 [.int .i64 (p_a.From), .int .i64 (0), .slice none 0 0] := hB25
 have hO26z := hO26.size
 refine SeqR.done (tn (CW.seq (CW.region (sd rfl (yl_fieldAddr Try.fd81_1 rfl rfl ?_)))))
 have q27 := Box.only q23 hO26 (by omega)
 refine sd rfl (yl_load1 Try.ty3 rfl rfl ((q27.cell 1).trans rfl) (sd rfl (yl_fieldAddr Try.fd85_1 rfl rfl (SeqR.u rfl rfl (yl_store (vs := [.int .i64 (p_a.To)]) Try.ty3 rfl rfl rfl rfl rfl rfl hB25 (Nat.le_of_ble_eq_true rfl) ?_)))))
 intro w28 hB29 hO30
 have hB29 : Box w28 b16 85 [.int .i64 (p_a.From), .int .i64 (p_a.To), .slice none 0 0] := hB29
 have hO30z := hO30.size
 refine SeqR.done (tn (CW.seq (CW.region (sd rfl (yl_fieldAddr Try.fd81_2 rfl rfl (sd rfl (yl_load1 Try.ty79 rfl rfl (((Box.only q27 hO30 (by omega)).cell 2).trans rfl) (sd rfl (yl_call Try.en100 rfl (opvs_cons rfl opvs_nil) (Cal.mono (c_l_toFeedItemS p_a.List (RdS.up (RdS.only good_FeedItem (RdS.only good_FeedItem (RdS.ex good_FeedItem (RdS.ex good_FeedItem (RdS.ex good_FeedItem h1 hE9) hE15) hE21) hO26 (by simp only [Iv]; omega)) hO30 (by simp only [Iv]; omega)) good_FeedItem) o2) ?_))))))))))
 rintro v39 w37 ⟨A38, c38, lo38, hi38, rfl, h38, hrn41, hE40⟩
 have hE40z := Ex.size hE40
 refine sd rfl (yl_fieldAddr Try.fd85_2 rfl rfl (SeqR.u rfl rfl (yl_store (vs := [.slice A38 p_a.List.length c38]) Try.ty83 rfl rfl rfl rfl rfl rfl (Box.ex hB29 hE40) (Nat.le_of_ble_eq_true rfl) ?_)))
 intro w43 hB44 hO45
 have hB44 : Box w43 b16 85 [.int .i64 (p_a.From), .int .i64 (p_a.To), .slice A38 p_a.List.length c38] := hB44
 have hO45z := hO45.size
 refine SeqR.done (tn (CW.seq (CW.region (sd rfl (yl_loadN (cs := [.int .i64 (p_a.From), .int .i64 (p_a.To), .slice A38 p_a.List.length c38]) Try.ty85 rfl rfl (hB44.cells (n := 3) rfl) rfl (SeqR.u rfl rfl (yl_store (vs := [.int .i64 (p_a.From), .int .i64 (p_a.To), .slice A38 p_a.List.length c38]) Try.ty85 rfl rfl rfl rfl rfl rfl (Box.only (Box.ex (Box.only (Box.only (Box.ex hB14 hE21) hO26 (by omega)) hO30 (by omega)) hE40) hO45 (by omega)) (Nat.le_of_ble_eq_true rfl) ?_)))))))
 intro w51 hB52 hO53
 have hB52 : Box w51 b10 85 [.int .i64 (p_a.From), .int .i64 (p_a.To), .slice A38 p_a.List.length c38] := hB52
 have hO53z := hO53.size
 refine SeqR.done (tn (CW.ret (rr rfl (.cons ⟨_, rfl, run_loadN Try.ty85 (cs := [.int .i64 (p_a.From), .int .i64 (p_a.To), .slice A38 p_a.List.length c38]) rfl (hB52.cells (n := 3) rfl)⟩ .nil) ?_)))
 have hM54 : p_a = (p_a) := (to_Diff _).symm.trans <| by simp only [l_toDiff, cond_true, cond_false, loopE_done, loopE_ret]
 rw [hM54]
 exact ⟨A38, c38, lo38, hi38, rfl, (OwnL.only good_FeedItem (OwnL.only good_FeedItem h38 hO45 (by omega)) hO53 (by omega)), (by omega), (Below.only (Below.only (Ex.trans (Below.only (Below.only (Ex.trans (Ex.trans (Ex.trans (Ex.refl w) hE9) hE15) hE21) hO26 (by omega)) hO30 (by omega)) hE40) hO45 (by omega)) hO53 (by omega))⟩
set_option maxRecDepth 100000 in
set_option maxHeartbeats 2000000 in
theorem c_i_within {w : World} (p_n : Int) (p_low : Int) (p_high : Int) : Cal Try.prog 77 #[.int .i64 (p_n), .int .i64 (p_low), .int .i64 (p_high)] w fun v w' => v = .bool ((i_within p_n p_low p_high)) ∧ Ex w w' := by
 refine Cal.of (vs := [.int .i64 (p_n), .int .i64 (p_low), .int .i64 (p_high)]) Try.func77 rfl Try.ntmps77 rfl (CW.seq (CW.region (sd rfl (yl_assign rfl rfl (SeqR.done (tn (CW.seq (CW.region (sd rfl (yl_move rfl rfl ?_))))))))))
 refine sd rfl (yl_move rfl rfl (sd rfl (yl_geq rfl rfl rfl (sd rfl (yl_move rfl rfl (bcase (decide (p_low ≤ p_n)) (fun hb1 => ?_) (fun hb1 => ?_)))))))
 ·have hb1p := dec_t hb1
  refine sy rfl rfl hb1 (yl_move rfl rfl (sy rfl rfl hb1 (yl_move rfl rfl (sy rfl rfl hb1 (yl_leq rfl rfl rfl (sd rfl (yl_pick_t rfl rfl hb1 rfl (sd rfl (yl_assign rfl rfl (SeqR.done (tn (CW.ret (rr rfl (.cons rfl .nil) ?_)))))))))))))
  have hM2 : (i_within p_n p_low p_high) = (decide (p_n ≤ p_high)) := by simp only [i_within, hb1, cond_true, cond_false, loopE_done, loopE_ret]
  rw [hM2]
  exact ⟨rfl, (Ex.refl w)⟩
 ·have hb1p := dec_f hb1
  refine sz rfl rfl hb1 (sz rfl rfl hb1 (sz rfl rfl hb1 (sd rfl (yl_pick_f rfl rfl hb1 rfl (sd rfl (yl_assign rfl rfl (SeqR.done (tn (CW.ret (rr rfl (.cons rfl .nil) ?_))))))))))
  have hM3 : (i_within p_n p_low p_high) = (false) := by simp only [i_within, hb1, cond_true, cond_false, loopE_done, loopE_ret]
  rw [hM3]
  exact ⟨rfl, (Ex.refl w)⟩
set_option maxRecDepth 100000 in
set_option maxHeartbeats 2000000 in
theorem c_i_isTrue {w : World} (p_now : Int) : Cal Try.prog 119 #[.int .i64 (p_now)] w fun v w' => v = .bool ((i_isTrue p_now)) ∧ Ex w w' := by
 refine Cal.of (vs := [.int .i64 (p_now)]) Try.func119 rfl Try.ntmps119 rfl (CW.seq (CW.region (sd rfl (yl_assign rfl rfl (SeqR.done (tn (CW.seq (CW.region (sd rfl (yl_move rfl rfl ?_))))))))))
 refine sd rfl (yl_call Try.en77 rfl (opvs_cons rfl (opvs_cons rfl (opvs_cons rfl opvs_nil))) (Cal.mono (c_i_within p_now 0 100000) ?_))
 rintro v2 w1 ⟨rfl, hE3⟩
 have hE3z := Ex.size hE3
 refine sd rfl (yl_assign rfl rfl (SeqR.done (tn (CW.ret (rr rfl (.cons rfl .nil) ?_)))))
 have hM4 : (i_isTrue p_now) = ((i_within p_now 0 100000)) := by simp only [i_isTrue, cond_true, cond_false, loopE_done, loopE_ret]
 rw [hM4]
 exact ⟨rfl, (Ex.trans (Ex.refl w) hE3)⟩
set_option maxRecDepth 100000 in
set_option maxHeartbeats 2000000 in
theorem c_g_slices_IndexFunc_FeedItem {A1 : Option Addr} {c1 : Nat} {g3 : Nat} {cp4 : List Value} {w : World} (p_s : List DFeedItem) (p_f : DFeedItem → Bool) (h1 : RdS w (Iv 0 w.heap.size) (RF e_FeedItem) 5 A1 p_s.length c1 p_s) (hen5 : Go.X.Enters Try.prog g3) (hfn6 : ∀ (w1 : World) (y0 : DFeedItem), Ex w w1 → y0 ∈ p_s → ok_FeedItem y0 → Cal Try.prog g3 (([.agg #[.int .i64 (y0.Time), .int .i64 (y0.Group), .string (bs (y0.Key)), .string (bs (y0.Val)), .bool (y0.Gone)]] : List Value) ++ cp4).toArray w1 fun v w2 => v = .bool (p_f y0) ∧ Ex w1 w2) (o2 : (okL ok_FeedItem) p_s) : Cal Try.prog 198 #[.slice A1 p_s.length c1, .func (.func g3) #[] cp4.toArray] w fun v w' => v = .int .i64 ((g_slices_IndexFunc_FeedItem p_s p_f)) ∧ Ex w w' := by
 have hol7 := o2.1
 refine Cal.of (vs := [.slice A1 p_s.length c1, .func (.func g3) #[] cp4.toArray]) Try.func198 rfl Try.ntmps198 rfl (CW.seq (CW.region (sd rfl (yl_assign rfl rfl (SeqR.done (tn (CW.seq (CW.seq (CW.region ?_)))))))))
 refine sd rfl (yl_move rfl rfl (sd rfl (yl_len Try.un83 rfl rfl (sd rfl (yl_move rfl rfl (SeqR.done (tn (CW.block (CW.loop (fun m9 L10 w11 => ∃ (k8 : Nat), m9 = p_s.length - k8 ∧ k8 ≤ p_s.length ∧ w.heap.size ≤ w11.heap.size ∧ lkp L10 0 = some (.slice A1 p_s.length c1) ∧ lkp L10 1 = some (.func (.func g3) #[] cp4.toArray) ∧ lkp L10 7 = some (.int .i64 ((p_s.length : Int))) ∧ lkp L10 8 = some (.int .i64 ((k8 : Int))) ∧ RdS w11 (Iv 0 w.heap.size) (RF e_FeedItem) 5 A1 p_s.length c1 p_s ∧ Ex w w11 ∧ loopM (B_g_slices_IndexFunc_FeedItem_0 p_s p_f) (p_s.length - k8) k8 () = loopM (B_g_slices_IndexFunc_FeedItem_0 p_s p_f) (p_s.length - 0) 0 ()) (p_s.length - 0) ?_ ?_)))))))))
 ·exact ⟨0, rfl, (by omega), Nat.le_refl _, rfl, rfl, rfl, rfl, h1, (Ex.refl w), rfl⟩
 ·rintro m12 L13 w14 ⟨k8, rfl, hk15, hsz17, hl18, hl19, hl20, hl21, hf22, hf23, hI16⟩
  refine CW.sub (Sub.cons hl18 (Sub.cons hl19 (Sub.cons hl20 (Sub.cons hl21 (Sub.nil _))))) ?_
  have hf23z := Ex.size hf23
  have hbg24 := RdS.big hf22
  rcases Nat.lt_or_ge k8 p_s.length with hlt25 | hlt25
  ·refine CW.seq (CW.region (sd rfl (yl_lss rfl rfl rfl (SeqR.done (tn (CW.seq (CW.cond_t rfl (lt_t hlt25) (CW.skip (tn ?_)))))))))
   refine CW.seq (CW.block (CW.seq (CW.region (sd rfl (yl_move rfl rfl (sd rfl (yl_assign rfl rfl (SeqR.done (tn (CW.seq ?_))))))))))
   refine CW.region (sd rfl (yl_move rfl rfl (sd rfl (yl_move rfl rfl (sd rfl (yl_move rfl rfl ?_))))))
   obtain ⟨eb26, eo26, ec26, eA26, eS26, ebl26, el26, eR26, eC26⟩ := RdS.atD hf22 d_FeedItem (i := k8) (by first | omega | assumption)
   obtain rfl := eR26
   have eC26 : Cells w14 eb26 (eo26 + k8 * 5) [.int .i64 ((p_s.getD k8 d_FeedItem).Time), .int .i64 ((p_s.getD k8 d_FeedItem).Group), .string (bs ((p_s.getD k8 d_FeedItem).Key)), .string (bs ((p_s.getD k8 d_FeedItem).Val)), .bool ((p_s.getD k8 d_FeedItem).Gone)] := eC26
   refine sd rfl (yl_indexAddrN Try.un83 Try.ty140 rfl rfl rfl eA26 (by first | omega | assumption | (simp only [IntKind.wrap_i64] at *; omega)) (sd rfl (yl_loadN (cs := [.int .i64 ((p_s.getD k8 d_FeedItem).Time), .int .i64 ((p_s.getD k8 d_FeedItem).Group), .string (bs ((p_s.getD k8 d_FeedItem).Key)), .string (bs ((p_s.getD k8 d_FeedItem).Val)), .bool ((p_s.getD k8 d_FeedItem).Gone)]) Try.ty140 rfl rfl eC26 rfl (sd rfl (yl_callv hen5 rfl rfl (opvs_cons rfl opvs_nil) (Cal.mono (hfn6 w14 (p_s.getD k8 d_FeedItem) hf23 (getD_mem (by omega)) (okL.getD o2 ok_d_FeedItem _)) ?_))))))
   rintro v28 w27 ⟨rfl, hE29⟩
   have hE29z := Ex.size hE29
   refine SeqR.done (tn (bcase (p_f (p_s.getD k8 d_FeedItem)) (fun hb30 => ?_) (fun hb30 => ?_)))
   ·refine CW.cond_t rfl hb30 (CW.seq (CW.region (sd rfl (yl_move rfl rfl (sd rfl (yl_assign rfl rfl (SeqR.done (tn (CW.ret (br ?_))))))))))
    refine tr (tr ?_)
    have hB32 : B_g_slices_IndexFunc_FeedItem_0 p_s p_f k8 () = .ret (k8 : Int) := by simp only [B_g_slices_IndexFunc_FeedItem_0, hb30, cond_true, cond_false, loopE_done, loopE_ret]
    have hL31 : loopM (B_g_slices_IndexFunc_FeedItem_0 p_s p_f) (p_s.length - 0) 0 () = .ret (k8 : Int) := hI16.symm.trans (loopM.ret hlt25 hB32)
    refine br (tr (rr rfl (.cons rfl .nil) ?_))
    have hM33 : (g_slices_IndexFunc_FeedItem p_s p_f) = ((k8 : Int)) := by simp only [g_slices_IndexFunc_FeedItem, hb30, hL31, cond_true, cond_false, loopE_done, loopE_ret]
    rw [hM33]
    exact ⟨rfl, (Ex.trans hf23 hE29)⟩
   ·refine CW.cond_f rfl hb30 (CW.skip (bn (tn (CW.region (sd rfl (yl_inc rfl rfl rfl (by omega) (sd rfl (yl_move rfl rfl (SeqR.done (tn ?_))))))))))
    have hB35 : B_g_slices_IndexFunc_FeedItem_0 p_s p_f k8 () = .cont () := by simp only [B_g_slices_IndexFunc_FeedItem_0, hb30, cond_true, cond_false, loopE_done, loopE_ret]
    exact ⟨p_s.length - (k8 + 1), by omega, k8 + 1, rfl, hlt25, (by omega), rfl, rfl, rfl, rfl, (RdS.ex good_FeedItem hf22 hE29), (Ex.trans hf23 hE29), (loopM.cont hlt25 hB35).symm.trans hI16⟩
  ·refine CW.seq (CW.region (sd rfl (yl_lss rfl rfl rfl (SeqR.done (tn (CW.seq (CW.cond_f rfl (lt_f hlt25) (CW.exit (tx ?_)))))))))
   refine tx ?_
   have hL38 : loopM (B_g_slices_IndexFunc_FeedItem_0 p_s p_f) (p_s.length - 0) 0 () = .done () := hI16.symm.trans (loopM.stop hlt25)
   refine bx (tn (CW.seq (CW.region (sd rfl (yl_assign rfl rfl (SeqR.done (tn (CW.ret (rr rfl (.cons rfl .nil) ?_)))))))))
   have hM39 : (g_slices_IndexFunc_FeedItem p_s p_f) = (-1) := by simp only [g_slices_IndexFunc_FeedItem, hL38, cond_true, cond_false, loopE_done, loopE_ret]
   rw [hM39]
   exact ⟨rfl, hf23⟩
set_option maxRecDepth 100000 in
set_option maxHeartbeats 2000000 in
theorem c_g_slices_ContainsFunc_FeedItem {A1 : Option Addr} {c1 : Nat} {g3 : Nat} {cp4 : List Value} {w : World} (p_s : List DFeedItem) (p_f : DFeedItem → Bool) (h1 : RdS w (Iv 0 w.heap.size) (RF e_FeedItem) 5 A1 p_s.length c1 p_s) (hen5 : Go.X.Enters Try.prog g3) (hfn6 : ∀ (w1 : World) (y0 : DFeedItem), Ex w w1 → y0 ∈ p_s → ok_FeedItem y0 → Cal Try.prog g3 (([.agg #[.int .i64 (y0.Time), .int .i64 (y0.Group), .string (bs (y0.Key)), .string (bs (y0.Val)), .bool (y0.Gone)]] : List Value) ++ cp4).toArray w1 fun v w2 => v = .bool (p_f y0) ∧ Ex w1 w2) (o2 : (okL ok_FeedItem) p_s) : Cal Try.prog 151 #[.slice A1 p_s.length c1, .func (.func g3) #[] cp4.toArray] w fun v w' => v = .bool ((g_slices_ContainsFunc_FeedItem p_s p_f)) ∧ Ex w w' := by
 have hol7 := o2.1
 refine Cal.of (vs := [.slice A1 p_s.length c1, .func (.func g3) #[] cp4.toArray]) Try.func151 rfl Try.ntmps151 rfl (CW.seq (CW.region (sd rfl (yl_assign rfl rfl (SeqR.done (tn (CW.seq (CW.region (sd rfl (yl_move rfl rfl ?_))))))))))
 refine sd rfl (yl_move rfl rfl (sd rfl (yl_call Try.en198 rfl (opvs_cons rfl (opvs_cons rfl opvs_nil)) (Cal.mono (c_g_slices_IndexFunc_FeedItem p_s p_f (RdS.up h1 good_FeedItem) hen5 (fun w1 y0 => fun hE => hfn6 w1 y0 (Ex.trans (Ex.refl w) hE)) o2) ?_))))
 rintro v9 w8 ⟨rfl, hE10⟩
 have hE10z := Ex.size hE10
 refine sd rfl (yl_geq rfl rfl rfl (sd rfl (yl_assign rfl rfl (SeqR.done (tn (CW.ret (rr rfl (.cons rfl .nil) ?_)))))))
 have hM11 : (g_slices_ContainsFunc_FeedItem p_s p_f) = (decide (0 ≤ (g_slices_IndexFunc_FeedItem p_s p_f))) := by simp only [g_slices_ContainsFunc_FeedItem, cond_true, cond_false, loopE_done, loopE_ret]
 rw [hM11]
 exact ⟨rfl, (Ex.trans (Ex.refl w) hE10)⟩
set_option maxRecDepth 100000 in
set_option maxHeartbeats 2000000 in
theorem c_g_cmp_Or_int {A1 : Option Addr} {c1 : Nat} {w : World} (p_vals : List Int) (h1 : RdS w (Iv 0 w.heap.size) (RF e_Int) 1 A1 p_vals.length c1 p_vals) (o2 : (okL okT) p_vals) : Cal Try.prog 227 #[.slice A1 p_vals.length c1] w fun v w' => v = .int .i64 ((g_cmp_Or_int p_vals)) ∧ Ex w w' := by
 have hol3 := o2.1
 refine Cal.of (vs := [.slice A1 p_vals.length c1]) Try.func227 rfl Try.ntmps227 rfl (CW.seq (CW.region (sd rfl (yl_assign rfl rfl (SeqR.done (tn (CW.seq (CW.region (sd rfl (yl_assign rfl rfl ?_))))))))))
 refine SeqR.done (tn (CW.seq (CW.seq (CW.region (sd rfl (yl_move rfl rfl (sd rfl (yl_len Try.un47 rfl rfl (sd rfl (yl_move rfl rfl (SeqR.done ?_)))))))))))
 refine tn (CW.block (CW.loop (fun m5 L6 w7 => ∃ (k4 : Nat), m5 = p_vals.length - k4 ∧ k4 ≤ p_vals.length ∧ w.heap.size ≤ w7.heap.size ∧ lkp L6 3 = some (.int .i64 (0)) ∧ lkp L6 6 = some (.slice A1 p_vals.length c1) ∧ lkp L6 7 = some (.int .i64 ((p_vals.length : Int))) ∧ lkp L6 8 = some (.int .i64 ((k4 : Int))) ∧ RdS w7 (Iv 0 w.heap.size) (RF e_Int) 1 A1 p_vals.length c1 p_vals ∧ Ex w w7 ∧ loopM (B_g_cmp_Or_int_0 p_vals) (p_vals.length - k4) k4 () = loopM (B_g_cmp_Or_int_0 p_vals) (p_vals.length - 0) 0 ()) (p_vals.length - 0) ?_ ?_))
 ·exact ⟨0, rfl, (by omega), Nat.le_refl _, rfl, rfl, rfl, rfl, h1, (Ex.refl w), rfl⟩
 ·rintro m8 L9 w10 ⟨k4, rfl, hk11, hsz13, hl14, hl15, hl16, hl17, hf18, hf19, hI12⟩
  refine CW.sub (Sub.cons hl14 (Sub.cons hl15 (Sub.cons hl16 (Sub.cons hl17 (Sub.nil _))))) ?_
  have hf19z := Ex.size hf19
  have hbg20 := RdS.big hf18
  rcases Nat.lt_or_ge k4 p_vals.length with hlt21 | hlt21
  ·refine CW.seq (CW.region (sd rfl (yl_lss rfl rfl rfl (SeqR.done (tn (CW.seq (CW.cond_t rfl (lt_t hlt21) (CW.skip (tn ?_)))))))))
   refine CW.seq (CW.block (CW.seq (CW.region ?_)))
   obtain ⟨eb22, eo22, ec22, eA22, eS22, ebl22, el22, eR22, eC22⟩ := RdS.atD hf18 d_Int (i := k4) (by first | omega | assumption)
   obtain rfl := eR22
   have eC22 : Cells w10 eb22 (eo22 + k4 * 1) [.int .i64 ((p_vals.getD k4 d_Int))] := eC22
   refine sd rfl (yl_indexAddrN Try.un47 Try.ty3 rfl rfl rfl eA22 (by first | omega | assumption | (simp only [IntKind.wrap_i64] at *; omega)) (sd rfl (yl_load1 Try.ty3 rfl rfl (eC22 0 _ rfl) (sd rfl (yl_assign rfl rfl (SeqR.done (tn (CW.seq (CW.region (sd rfl (yl_move rfl rfl (sd rfl (yl_move rfl rfl ?_)))))))))))))
   refine sd rfl (yl_neq rfl rfl rfl (SeqR.done (tn (bcase (decide ((p_vals.getD k4 d_Int) = 0)) (fun hb23 => ?_) (fun hb23 => ?_)))))
   ·have hb23p := dec_t hb23
    refine CW.cond_f rfl (not_t hb23) (CW.skip (bn (tn (CW.region (sd rfl (yl_inc rfl rfl rfl (by omega) (sd rfl (yl_move rfl rfl (SeqR.done (tn ?_))))))))))
    have hB24 : B_g_cmp_Or_int_0 p_vals k4 () = .cont () := by simp only [B_g_cmp_Or_int_0, hb23, cond_true, cond_false, loopE_done, loopE_ret]
    exact ⟨p_vals.length - (k4 + 1), by omega, k4 + 1, rfl, hlt21, (by omega), rfl, rfl, rfl, rfl, hf18, hf19, (loopM.cont hlt21 hB24).symm.trans hI12⟩
   ·have hb23p := dec_f hb23
    refine CW.cond_t rfl (not_f hb23) (CW.seq (CW.region (sd rfl (yl_move rfl rfl (sd rfl (yl_assign rfl rfl (SeqR.done (tn (CW.ret (br ?_))))))))))
    refine tr (tr ?_)
    have hB26 : B_g_cmp_Or_int_0 p_vals k4 () = .ret (p_vals.getD k4 d_Int) := by simp only [B_g_cmp_Or_int_0, hb23, cond_true, cond_false, loopE_done, loopE_ret]
    have hL25 : loopM (B_g_cmp_Or_int_0 p_vals) (p_vals.length - 0) 0 () = .ret (p_vals.getD k4 d_Int) := hI12.symm.trans (loopM.ret hlt21 hB26)
    refine br (tr (rr rfl (.cons rfl .nil) ?_))
    have hM27 : (g_cmp_Or_int p_vals) = ((p_vals.getD k4 d_Int)) := by simp only [g_cmp_Or_int, hb23, hL25, cond_true, cond_false, loopE_done, loopE_ret]
    rw [hM27]
    exact ⟨rfl, hf19⟩
  ·refine CW.seq (CW.region (sd rfl (yl_lss rfl rfl rfl (SeqR.done (tn (CW.seq (CW.cond_f rfl (lt_f hlt21) (CW.exit (tx ?_)))))))))
   refine tx ?_
   have hL28 : loopM (B_g_cmp_Or_int_0 p_vals) (p_vals.length - 0) 0 () = .done () := hI12.symm.trans (loopM.stop hlt21)
   refine bx (tn (CW.seq (CW.region (sd rfl (yl_move rfl rfl (sd rfl (yl_assign rfl rfl (SeqR.done (tn (CW.ret ?_))))))))))
   refine rr rfl (.cons rfl .nil) ?_
   have hM29 : (g_cmp_Or_int p_vals) = (0) := by simp only [g_cmp_Or_int, hL28, cond_true, cond_false, loopE_done, loopE_ret]
   rw [hM29]
   exact ⟨rfl, hf19⟩
set_option maxRecDepth 100000 in
set_option maxHeartbeats 2000000 in
theorem c_g_cmp_isNaN_int {w : World} (p_x : Int) : Cal Try.prog 231 #[.int .i64 (p_x)] w fun v w' => v = .bool ((g_cmp_isNaN_int p_x)) ∧ Ex w w' := by
 refine Cal.of (vs := [.int .i64 (p_x)]) Try.func231 rfl Try.ntmps231 rfl (CW.seq (CW.region (sd rfl (yl_assign rfl rfl (SeqR.done (tn (CW.seq (CW.region (sd rfl (yl_move rfl rfl ?_))))))))))
 refine sd rfl (yl_move rfl rfl (sd rfl (yl_neq rfl rfl rfl (sd rfl (yl_assign rfl rfl (SeqR.done (tn (CW.ret (rr rfl (.cons rfl .nil) ?_)))))))))
 have hM1 : (g_cmp_isNaN_int p_x) = (!(decide (p_x = p_x))) := by simp only [g_cmp_isNaN_int, cond_true, cond_false, loopE_done, loopE_ret]
 rw [hM1]
 exact ⟨rfl, (Ex.refl w)⟩
set_option maxRecDepth 100000 in
set_option maxHeartbeats 2000000 in
theorem c_g_cmp_Compare_int {w : World} (p_x : Int) (p_y : Int) : Cal Try.prog 228 #[.int .i64 (p_x), .int .i64 (p_y)] w fun v w' => v = .int .i64 ((g_cmp_Compare_int p_x p_y)) ∧ Ex w w' := by
 refine Cal.of (vs := [.int .i64 (p_x), .int .i64 (p_y)]) Try.func228 rfl Try.ntmps228 rfl (CW.seq (CW.region (sd rfl (yl_assign rfl rfl (SeqR.done (tn (CW.seq (CW.region (sd rfl (yl_move rfl rfl ?_))))))))))
 refine sd rfl (yl_call Try.en231 rfl (opvs_cons rfl opvs_nil) (Cal.mono (c_g_cmp_isNaN_int p_x) ?_))
 rintro v2 w1 ⟨rfl, hE3⟩
 have hE3z := Ex.size hE3
 refine sd rfl (yl_assign rfl rfl (SeqR.done (tn (CW.seq (CW.region (sd rfl (yl_move rfl rfl (sd rfl (yl_call Try.en231 rfl (opvs_cons rfl opvs_nil) (Cal.mono (c_g_cmp_isNaN_int p_y) ?_))))))))))
 rintro v5 w4 ⟨rfl, hE6⟩
 have hE6z := Ex.size hE6
 refine sd rfl (yl_assign rfl rfl (SeqR.done (tn (CW.seq (CW.seq (CW.region (sd rfl (yl_move rfl rfl (SeqR.done (tn ?_))))))))))
 refine bcase (g_cmp_isNaN_int p_x) (fun hb7 => ?_) (fun hb7 => ?_)
 ·refine CW.cond_t rfl hb7 (CW.seq (CW.seq (CW.region (sd rfl (yl_move rfl rfl (SeqR.done (tn (bcase (g_cmp_isNaN_int p_y) (fun hb8 => ?_) (fun hb8 => ?_)))))))))
  ·refine CW.cond_t rfl hb8 (CW.seq (CW.region (sd rfl (yl_assign rfl rfl (SeqR.done (tn (CW.ret (tr (tr ?_)))))))))
   refine rr rfl (.cons rfl .nil) ?_
   have hM9 : (g_cmp_Compare_int p_x p_y) = (0) := by simp only [g_cmp_Compare_int, hb7, hb8, cond_true, cond_false, loopE_done, loopE_ret]
   rw [hM9]
   exact ⟨rfl, (Ex.trans (Ex.trans (Ex.refl w) hE3) hE6)⟩
  ·refine CW.cond_f rfl hb8 (CW.skip (tn (CW.seq (CW.region (sd rfl (yl_assign rfl rfl (SeqR.done (tn (CW.ret ?_)))))))))
   refine tr (rr rfl (.cons rfl .nil) ?_)
   have hM12 : (g_cmp_Compare_int p_x p_y) = (-1) := by simp only [g_cmp_Compare_int, hb7, hb8, cond_true, cond_false, loopE_done, loopE_ret]
   rw [hM12]
   exact ⟨rfl, (Ex.trans (Ex.trans (Ex.refl w) hE3) hE6)⟩
 ·refine CW.cond_f rfl hb7 (CW.skip (tn (CW.seq (CW.seq (CW.region (sd rfl (yl_move rfl rfl (SeqR.done (tn ?_)))))))))
  refine bcase (g_cmp_isNaN_int p_y) (fun hb15 => ?_) (fun hb15 => ?_)
  ·refine CW.cond_t rfl hb15 (CW.seq (CW.region (sd rfl (yl_assign rfl rfl (SeqR.done (tn (CW.ret (tr (rr rfl (.cons rfl .nil) ?_)))))))))
   have hM16 : (g_cmp_Compare_int p_x p_y) = (1) := by simp only [g_cmp_Compare_int, hb7, hb15, cond_true, cond_false, loopE_done, loopE_ret]
   rw [hM16]
   exact ⟨rfl, (Ex.trans (Ex.trans (Ex.refl w) hE3) hE6)⟩
  ·refine CW.cond_f rfl hb15 (CW.skip (tn (CW.seq (CW.seq (CW.region (sd rfl (yl_move rfl rfl (sd rfl (yl_move rfl rfl (sd rfl (yl_lss rfl rfl rfl ?_)))))))))))
   refine SeqR.done (tn (bcase (decide (p_x < p_y)) (fun hb19 => ?_) (fun hb19 => ?_)))
   ·have hb19p := dec_t hb19
    refine CW.cond_t rfl hb19 (CW.seq (CW.region (sd rfl (yl_assign rfl rfl (SeqR.done (tn (CW.ret (tr (rr rfl (.cons rfl .nil) ?_)))))))))
    have hM20 : (g_cmp_Compare_int p_x p_y) = (-1) := by simp only [g_cmp_Compare_int, hb7, hb15, hb19, cond_true, cond_false, loopE_done, loopE_ret]
    rw [hM20]
    exact ⟨rfl, (Ex.trans (Ex.trans (Ex.refl w) hE3) hE6)⟩
   ·have hb19p := dec_f hb19
    refine CW.cond_f rfl hb19 (CW.skip (tn (CW.seq (CW.seq (CW.region (sd rfl (yl_move rfl rfl (sd rfl (yl_move rfl rfl (sd rfl (yl_gtr rfl rfl rfl ?_)))))))))))
    refine SeqR.done (tn (bcase (decide (p_y < p_x)) (fun hb23 => ?_) (fun hb23 => ?_)))
    ·have hb23p := dec_t hb23
     refine CW.cond_t rfl hb23 (CW.seq (CW.region (sd rfl (yl_assign rfl rfl (SeqR.done (tn (CW.ret (tr (rr rfl (.cons rfl .nil) ?_)))))))))
     have hM24 : (g_cmp_Compare_int p_x p_y) = (1) := by simp only [g_cmp_Compare_int, hb7, hb15, hb19, hb23, cond_true, cond_false, loopE_done, loopE_ret]
     rw [hM24]
     exact ⟨rfl, (Ex.trans (Ex.trans (Ex.refl w) hE3) hE6)⟩
    ·have hb23p := dec_f hb23
     refine CW.cond_f rfl hb23 (CW.skip (tn (CW.seq (CW.region (sd rfl (yl_assign rfl rfl (SeqR.done (tn (CW.ret ?_)))))))))
     refine rr rfl (.cons rfl .nil) ?_
     have hM27 : (g_cmp_Compare_int p_x p_y) = (0) := by simp only [g_cmp_Compare_int, hb7, hb15, hb19, hb23, cond_true, cond_false, loopE_done, loopE_ret]
     rw [hM27]
     exact ⟨rfl, (Ex.trans (Ex.trans (Ex.refl w) hE3) hE6)⟩
set_option maxRecDepth 100000 in
set_option maxHeartbeats 2000000 in
theorem c_g_cmp_isNaN_string {w : World} (p_x : Str) (o1 : okS p_x) : Cal Try.prog 232 #[.string (bs (p_x))] w fun v w' => v = .bool ((g_cmp_isNaN_string p_x)) ∧ Ex w w' := by
 have hol2 : p_x.length ≤ 1073741824 := o1
 refine Cal.of (vs := [.string (bs (p_x))]) Try.func232 rfl Try.ntmps232 rfl (CW.seq (CW.region (sd rfl (yl_assign rfl rfl (SeqR.done (tn (CW.seq (CW.region (sd rfl (yl_move rfl rfl ?_))))))))))
 refine sd rfl (yl_move rfl rfl (sd rfl (yl_sneq (a := p_x) (b := p_x) rfl rfl rfl (sd rfl (yl_assign rfl rfl (SeqR.done (tn (CW.ret (rr rfl (.cons rfl .nil) ?_)))))))))
 have hM3 : (g_cmp_isNaN_string p_x) = (!(p_x == p_x)) := by simp only [g_cmp_isNaN_string, cond_true, cond_false, loopE_done, loopE_ret]
 rw [hM3]
 exact ⟨rfl, (Ex.refl w)⟩
set_option maxRecDepth 100000 in
set_option maxHeartbeats 2000000 in
theorem c_g_cmp_Compare_string {w : World} (p_x : Str) (p_y : Str) (o1 : okS p_x) (o2 : okS p_y) : Cal Try.prog 229 #[.string (bs (p_x)), .string (bs (p_y))] w fun v w' => v = .int .i64 ((g_cmp_Compare_string p_x p_y)) ∧ Ex w w' := by
 have hol3 : p_x.length ≤ 1073741824 := o1
 have hol4 : p_y.length ≤ 1073741824 := o2
 refine Cal.of (vs := [.string (bs (p_x)), .string (bs (p_y))]) Try.func229 rfl Try.ntmps229 rfl (CW.seq (CW.region (sd rfl (yl_assign rfl rfl (SeqR.done (tn (CW.seq (CW.region (sd rfl (yl_move rfl rfl ?_))))))))))
 refine sd rfl (yl_call Try.en232 rfl (opvs_cons rfl opvs_nil) (Cal.mono (c_g_cmp_isNaN_string p_x o1) ?_))
 rintro v6 w5 ⟨rfl, hE7⟩
 have hE7z := Ex.size hE7
 refine sd rfl (yl_assign rfl rfl (SeqR.done (tn (CW.seq (CW.region (sd rfl (yl_move rfl rfl (sd rfl (yl_call Try.en232 rfl (opvs_cons rfl opvs_nil) (Cal.mono (c_g_cmp_isNaN_string p_y o2) ?_))))))))))
 rintro v9 w8 ⟨rfl, hE10⟩
 have hE10z := Ex.size hE10
 refine sd rfl (yl_assign rfl rfl (SeqR.done (tn (CW.seq (CW.seq (CW.region (sd rfl (yl_move rfl rfl (SeqR.done (tn ?_))))))))))
 refine bcase (g_cmp_isNaN_string p_x) (fun hb11 => ?_) (fun hb11 => ?_)
 ·refine CW.cond_t rfl hb11 (CW.seq (CW.seq (CW.region (sd rfl (yl_move rfl rfl (SeqR.done (tn (bcase (g_cmp_isNaN_string p_y) (fun hb12 => ?_) (fun hb12 => ?_)))))))))
  ·refine CW.cond_t rfl hb12 (CW.seq (CW.region (sd rfl (yl_assign rfl rfl (SeqR.done (tn (CW.ret (tr (tr ?_)))))))))
   refine rr rfl (.cons rfl .nil) ?_
   have hM13 : (g_cmp_Compare_string p_x p_y) = (0) := by simp only [g_cmp_Compare_string, hb11, hb12, cond_true, cond_false, loopE_done, loopE_ret]
   rw [hM13]
   exact ⟨rfl, (Ex.trans (Ex.trans (Ex.refl w) hE7) hE10)⟩
  ·refine CW.cond_f rfl hb12 (CW.skip (tn (CW.seq (CW.region (sd rfl (yl_assign rfl rfl (SeqR.done (tn (CW.ret ?_)))))))))
   refine tr (rr rfl (.cons rfl .nil) ?_)
   have hM16 : (g_cmp_Compare_string p_x p_y) = (-1) := by simp only [g_cmp_Compare_string, hb11, hb12, cond_true, cond_false, loopE_done, loopE_ret]
   rw [hM16]
   exact ⟨rfl, (Ex.trans (Ex.trans (Ex.refl w) hE7) hE10)⟩
 ·refine CW.cond_f rfl hb11 (CW.skip (tn (CW.seq (CW.seq (CW.region (sd rfl (yl_move rfl rfl (SeqR.done (tn ?_)))))))))
  refine bcase (g_cmp_isNaN_string p_y) (fun hb19 => ?_) (fun hb19 => ?_)
  ·refine CW.cond_t rfl hb19 (CW.seq (CW.region (sd rfl (yl_assign rfl rfl (SeqR.done (tn (CW.ret (tr (rr rfl (.cons rfl .nil) ?_)))))))))
   have hM20 : (g_cmp_Compare_string p_x p_y) = (1) := by simp only [g_cmp_Compare_string, hb11, hb19, cond_true, cond_false, loopE_done, loopE_ret]
   rw [hM20]
   exact ⟨rfl, (Ex.trans (Ex.trans (Ex.refl w) hE7) hE10)⟩
  ·refine CW.cond_f rfl hb19 (CW.skip (tn (CW.seq (CW.seq (CW.region (sd rfl (yl_move rfl rfl (sd rfl (yl_move rfl rfl (sd rfl (yl_slss (a := p_x) (b := p_y) rfl rfl rfl ?_)))))))))))
   refine SeqR.done (tn (bcase (sLt p_x p_y) (fun hb23 => ?_) (fun hb23 => ?_)))
   ·refine CW.cond_t rfl hb23 (CW.seq (CW.region (sd rfl (yl_assign rfl rfl (SeqR.done (tn (CW.ret (tr (rr rfl (.cons rfl .nil) ?_)))))))))
    have hM24 : (g_cmp_Compare_string p_x p_y) = (-1) := by simp only [g_cmp_Compare_string, hb11, hb19, hb23, cond_true, cond_false, loopE_done, loopE_ret]
    rw [hM24]
    exact ⟨rfl, (Ex.trans (Ex.trans (Ex.refl w) hE7) hE10)⟩
   ·refine CW.cond_f rfl hb23 (CW.skip (tn (CW.seq (CW.seq (CW.region (sd rfl (yl_move rfl rfl (sd rfl (yl_move rfl rfl (sd rfl (yl_sgtr (a := p_x) (b := p_y) rfl rfl rfl ?_)))))))))))
    refine SeqR.done (tn (bcase (sLe p_x p_y) (fun hb27 => ?_) (fun hb27 => ?_)))
    ·refine CW.cond_f rfl (not_t hb27) (CW.skip (tn (CW.seq (CW.region (sd rfl (yl_assign rfl rfl (SeqR.done (tn (CW.ret ?_)))))))))
     refine rr rfl (.cons rfl .nil) ?_
     have hM28 : (g_cmp_Compare_string p_x p_y) = (0) := by simp only [g_cmp_Compare_string, hb11, hb19, hb23, hb27, cond_true, cond_false, loopE_done, loopE_ret]
     rw [hM28]
     exact ⟨rfl, (Ex.trans (Ex.trans (Ex.refl w) hE7) hE10)⟩
    ·refine CW.cond_t rfl (not_f hb27) (CW.seq (CW.region (sd rfl (yl_assign rfl rfl (SeqR.done (tn (CW.ret (tr (rr rfl (.cons rfl .nil) ?_)))))))))
     have hM31 : (g_cmp_Compare_string p_x p_y) = (1) := by simp only [g_cmp_Compare_string, hb11, hb19, hb23, hb27, cond_true, cond_false, loopE_done, loopE_ret]
     rw [hM31]
     exact ⟨rfl, (Ex.trans (Ex.trans (Ex.refl w) hE7) hE10)⟩
set_option maxRecDepth 100000 in
set_option maxHeartbeats 2000000 in
theorem c_i_compareItems {w : World} (p_a : DFeedItem) (p_b : DFeedItem) (o1 : ok_FeedItem p_a) (o2 : ok_FeedItem p_b) : Cal Try.prog 219 #[.agg #[.int .i64 (p_a.Time), .int .i64 (p_a.Group), .string (bs (p_a.Key)), .string (bs (p_a.Val)), .bool (p_a.Gone)], .agg #[.int .i64 (p_b.Time), .int .i64 (p_b.Group), .string (bs (p_b.Key)), .string (bs (p_b.Val)), .bool (p_b.Gone)]] w fun v w' => v = .int .i64 ((i_compareItems p_a p_b)) ∧ Ex w w' := by
 have hol3 : p_a.Key.length ≤ 1073741824 := o1.1
 have hol4 : p_a.Val.length ≤ 1073741824 := o1.2
 have hol5 : p_b.Key.length ≤ 1073741824 := o2.1
 have hol6 : p_b.Val.length ≤ 1073741824 := o2.2
 refine Cal.of (vs := [.agg #[.int .i64 (p_a.Time), .int .i64 (p_a.Group), .string (bs (p_a.Key)), .string (bs (p_a.Val)), .bool (p_a.Gone)], .agg #[.int .i64 (p_b.Time), .int .i64 (p_b.Group), .string (bs (p_b.Key)), .string (bs (p_b.Val)), .bool (p_b.Gone)]]) Try.func219 rfl Try.ntmps219 rfl (CW.seq (CW.region (sd rfl (yl_box (cs := [.int .i64 (p_a.Time), .int .i64 (p_a.Group), .string (bs (p_a.Key)), .string (bs (p_a.Val)), .bool (p_a.Gone)]) rfl rfl rfl ?_))))
 intro b7 w8 hs9 hz10 hB11 hE12
 refine sd rfl (yl_box (cs := [.int .i64 (p_b.Time), .int .i64 (p_b.Group), .string (bs (p_b.Key)), .string (bs (p_b.Val)), .bool (p_b.Gone)]) rfl rfl rfl ?_)
 intro b13 w14 hs15 hz16 hB17 hE18
 refine sd rfl (yl_assign rfl rfl (SeqR.done (tn (CW.seq ?_))))
 have q19 := Box.ex hB11 hE18
 refine CW.drawsI 14 (vgetI [DetI (.pointer (some ⟨b7, 0 + 0, none⟩)), DetI (.int .i64 (p_a.Time)), DetI (.pointer (some ⟨b13, 0 + 0, none⟩)), DetI (.int .i64 (p_b.Time)), DetI (.int .i64 ((g_cmp_Compare_int p_a.Time p_b.Time))), DetI (.pointer (some ⟨b7, 0 + 1, none⟩)), DetI (.int .i64 (p_a.Group)), DetI (.pointer (some ⟨b13, 0 + 1, none⟩)), DetI (.int .i64 (p_b.Group)), DetI (.int .i64 ((g_cmp_Compare_int p_a.Group p_b.Group))), DetI (.pointer (some ⟨b7, 0 + 2, none⟩)), DetI (.string (bs (p_a.Key))), DetI (.pointer (some ⟨b13, 0 + 2, none⟩)), DetI (.string (bs (p_b.Key)))]) Try.follows rfl rfl rfl rfl rfl rfl (vgetI_stable ⟨StableI.det _, StableI.det _, StableI.det _, StableI.det _, StableI.det _, StableI.det _, StableI.det _, StableI.det _, StableI.det _, StableI.det _, StableI.det _, StableI.det _, StableI.det _, StableI.det _, trivial⟩) ⟨?_, ?_, ?_, ?_, ?_, ?_, ?_, ?_, ?_, ?_, ?_, ?_, ?_, ?_, trivial⟩ ?_
 ·exact fun _ _ h => os rfl ((yl_fieldAddr Try.fd140_0 rfl (h.old 2 _ rfl rfl) kI))
 ·exact fun _ _ h => os rfl ((yl_load1 Try.ty3 rfl (h.dt 0 5 rfl rfl rfl) (((Box.ex q19 h.ex).cell 0).trans rfl) kI))
 ·exact fun _ _ h => os rfl ((yl_fieldAddr Try.fd140_0 rfl (h.old 3 _ rfl rfl) kI))
 ·exact fun _ _ h => os rfl ((yl_load1 Try.ty3 rfl (h.dt 2 7 rfl rfl rfl) (((Box.ex hB17 h.ex).cell 0).trans rfl) kI))
 ·intro L44 w45 hi46
  refine OpR.op' rfl (yl_call Try.en228 rfl (opvs_cons (hi46.dt 1 6 rfl rfl rfl) (opvs_cons (hi46.dt 3 8 rfl rfl rfl) opvs_nil)) (Cal.mono (c_g_cmp_Compare_int p_a.Time p_b.Time) ?_))
  rintro v51 w50 ⟨rfl, hE52⟩
  exact ⟨rfl, hE52⟩
 ·exact fun _ _ h => os rfl ((yl_fieldAddr Try.fd140_1 rfl (h.old 2 _ rfl rfl) kI))
 ·exact fun _ _ h => os rfl ((yl_load1 Try.ty3 rfl (h.dt 5 10 rfl rfl rfl) (((Box.ex q19 h.ex).cell 1).trans rfl) kI))
 ·exact fun _ _ h => os rfl ((yl_fieldAddr Try.fd140_1 rfl (h.old 3 _ rfl rfl) kI))
 ·exact fun _ _ h => os rfl ((yl_load1 Try.ty3 rfl (h.dt 7 12 rfl rfl rfl) (((Box.ex hB17 h.ex).cell 1).trans rfl) kI))
 ·intro L75 w76 hi77
  refine OpR.op' rfl (yl_call Try.en228 rfl (opvs_cons (hi77.dt 6 11 rfl rfl rfl) (opvs_cons (hi77.dt 8 13 rfl rfl rfl) opvs_nil)) (Cal.mono (c_g_cmp_Compare_int p_a.Group p_b.Group) ?_))
  rintro v82 w81 ⟨rfl, hE83⟩
  exact ⟨rfl, hE83⟩
 ·exact fun _ _ h => os rfl ((yl_fieldAddr Try.fd140_2 rfl (h.old 2 _ rfl rfl) kI))
 ·exact fun _ _ h => os rfl ((yl_load1 Try.ty9 rfl (h.dt 10 15 rfl rfl rfl) (((Box.ex q19 h.ex).cell 2).trans rfl) kI))
 ·exact fun _ _ h => os rfl ((yl_fieldAddr Try.fd140_2 rfl (h.old 3 _ rfl rfl) kI))
 ·exact fun _ _ h => os rfl ((yl_load1 Try.ty9 rfl (h.dt 12 17 rfl rfl rfl) (((Box.ex hB17 h.ex).cell 2).trans rfl) kI))
 ·intro fl109 fh110 L106 w107 hp108
  have hE111 := hp108.ex
  have hE111z := Ex.size hE111
  refine sd rfl (yl_call Try.en229 rfl (opvs_cons (hp108.nt 11 16 rfl rfl rfl) (opvs_cons (hp108.nt 13 18 rfl rfl rfl) opvs_nil)) (Cal.mono (c_g_cmp_Compare_string p_a.Key p_b.Key o1.1 o2.1) ?_))
  rintro v117 w116 ⟨rfl, hE118⟩
  have hE118z := Ex.size hE118
  refine sd rfl (yl_buildSlice (cs := [.int .i64 ((g_cmp_Compare_int p_a.Time p_b.Time)), .int .i64 ((g_cmp_Compare_int p_a.Group p_b.Group)), .int .i64 ((g_cmp_Compare_string p_a.Key p_b.Key))]) Try.un47 Try.ty3 (by decide) rfl (opvs_cons (hp108.nt 4 9 rfl rfl rfl) (opvs_cons (hp108.nt 9 14 rfl rfl rfl) (opvs_cons rfl opvs_nil))) (by kernel_rfl) ?_)
  intro b119 w120 hs121 hz122 hB123 hE124
  have hO125 : OwnL w120 b119 (b119 + 1) 3 1 (RF e_Int) (some ⟨b119, 0, none⟩) 3 3 ([(g_cmp_Compare_int p_a.Time p_b.Time), (g_cmp_Compare_int p_a.Group p_b.Group), (g_cmp_Compare_string p_a.Key p_b.Key)] : List Int) := OwnL.of_box (S := fun _ => False) hB123 (Nat.le_refl _) (Nat.lt_succ_self _) (EncL.cons (c := [.int .i64 ((g_cmp_Compare_int p_a.Time p_b.Time))]) rfl rfl (EncL.cons (c := [.int .i64 ((g_cmp_Compare_int p_a.Group p_b.Group))]) rfl rfl (EncL.cons (c := [.int .i64 ((g_cmp_Compare_string p_a.Key p_b.Key))]) rfl rfl EncL.nil))) (Nat.le_of_ble_eq_true rfl) (fun h => h) (fun _ h => False.elim h)
  have hle126 := OwnL.len hO125
  refine sd rfl (yl_call Try.en227 rfl (opvs_cons rfl opvs_nil) (Cal.mono (Cal.args (by rw [← hle126] <;> rfl) (c_g_cmp_Or_int ([(g_cmp_Compare_int p_a.Time p_b.Time), (g_cmp_Compare_int p_a.Group p_b.Group), (g_cmp_Compare_string p_a.Key p_b.Key)] : List Int) (RdS.fix (RdS.up (OwnL.rd good_Int hO125) good_Int)) (okL.mk (xs := ([(g_cmp_Compare_int p_a.Time p_b.Time), (g_cmp_Compare_int p_a.Group p_b.Group), (g_cmp_Compare_string p_a.Key p_b.Key)] : List Int)) (by first | omega | (simp only [List.length_append, List.length_cons, List.length_nil, List.length_take, List.length_drop, List.length_replicate, List.length_set]; omega)) fun _ _ => trivial))) ?_))
  rintro v129 w128 ⟨rfl, hE130⟩
  have hE130z := Ex.size hE130
  refine sd rfl (yl_assign rfl rfl (SeqR.done (tn (CW.sub (Sub.cons (d := 4) rfl (Sub.nil _)) (CW.ret (rr rfl (.cons rfl .nil) ?_))))))
  have hM131 : (i_compareItems p_a p_b) = ((g_cmp_Or_int ([(g_cmp_Compare_int p_a.Time p_b.Time), (g_cmp_Compare_int p_a.Group p_b.Group), (g_cmp_Compare_string p_a.Key p_b.Key)] : List Int))) := by simp only [i_compareItems, cond_true, cond_false, loopE_done, loopE_ret]
  rw [hM131]
  exact ⟨rfl, (Ex.trans (Ex.trans (Ex.trans (Ex.trans (Ex.trans (Ex.trans (Ex.refl w) hE12) hE18) hE111) hE118) hE124) hE130)⟩
set_option maxRecDepth 100000 in
set_option maxHeartbeats 2000000 in
theorem c_i_isFeed {A1 : Option Addr} {c1 : Nat} {w : World} (p_l : List DFeedItem) (h1 : RdS w (Iv 0 w.heap.size) (RF e_FeedItem) 5 A1 p_l.length c1 p_l) (o2 : (okL ok_FeedItem) p_l) : Cal Try.prog 195 #[.slice A1 p_l.length c1] w fun v w' => v = .bool ((i_isFeed p_l)) ∧ Ex w w' := by
 have hol3 := o2.1
 refine Cal.of (vs := [.slice A1 p_l.length c1]) Try.func195 rfl Try.ntmps195 rfl (CW.seq (CW.region (sd rfl (yl_assign rfl rfl (SeqR.done (tn (CW.seq (CW.seq (CW.region ?_)))))))))
 refine sd rfl (yl_move rfl rfl (sd rfl (yl_len Try.un83 rfl rfl (sd rfl (yl_move rfl rfl (SeqR.done (tn (CW.block (CW.loop (fun m5 L6 w7 => ∃ (k4 : Nat), m5 = p_l.length - k4 ∧ k4 ≤ p_l.length ∧ w.heap.size ≤ w7.heap.size ∧ lkp L6 0 = some (.slice A1 p_l.length c1) ∧ lkp L6 5 = some (.int .i64 ((p_l.length : Int))) ∧ lkp L6 6 = some (.int .i64 ((k4 : Int))) ∧ RdS w7 (Iv 0 w.heap.size) (RF e_FeedItem) 5 A1 p_l.length c1 p_l ∧ Ex w w7 ∧ loopM (B_i_isFeed_0 p_l) (p_l.length - k4) k4 () = loopM (B_i_isFeed_0 p_l) (p_l.length - 0) 0 ()) (p_l.length - 0) ?_ ?_)))))))))
 ·exact ⟨0, rfl, (by omega), Nat.le_refl _, rfl, rfl, rfl, h1, (Ex.refl w), rfl⟩
 ·rintro m8 L9 w10 ⟨k4, rfl, hk11, hsz13, hl14, hl15, hl16, hf17, hf18, hI12⟩
  refine CW.sub (Sub.cons hl14 (Sub.cons hl15 (Sub.cons hl16 (Sub.nil _)))) ?_
  have hf18z := Ex.size hf18
  have hbg19 := RdS.big hf17
  rcases Nat.lt_or_ge k4 p_l.length with hlt20 | hlt20
  ·refine CW.seq (CW.region (sd rfl (yl_lss rfl rfl rfl (SeqR.done (tn (CW.seq (CW.cond_t rfl (lt_t hlt20) (CW.skip (tn ?_)))))))))
   refine CW.seq (CW.block (CW.seq (CW.region (sd rfl (yl_move rfl rfl (sd rfl (yl_assign rfl rfl (SeqR.done (tn (CW.seq ?_))))))))))
   refine bcase (decide (0 < (k4 : Int))) (fun hb21 => ?_) (fun hb21 => ?_)
   ·have hb21p := dec_t hb21
    obtain ⟨eb22, eo22, ec22, eA22, eS22, ebl22, el22, eR22, eC22⟩ := RdS.atD hf17 d_FeedItem (i := (IntKind.wrap .i64 ((k4 : Int) - 1)).toNat) (by first | omega | assumption | (simp only [IntKind.wrap_i64] at *; omega))
    obtain rfl := eR22
    have eC22 : Cells w10 eb22 (eo22 + ((IntKind.wrap .i64 ((k4 : Int) - 1)).toNat) * 5) [.int .i64 ((p_l.getD ((IntKind.wrap .i64 ((k4 : Int) - 1)).toNat) d_FeedItem).Time), .int .i64 ((p_l.getD ((IntKind.wrap .i64 ((k4 : Int) - 1)).toNat) d_FeedItem).Group), .string (bs ((p_l.getD ((IntKind.wrap .i64 ((k4 : Int) - 1)).toNat) d_FeedItem).Key)), .string (bs ((p_l.getD ((IntKind.wrap .i64 ((k4 : Int) - 1)).toNat) d_FeedItem).Val)), .bool ((p_l.getD ((IntKind.wrap .i64 ((k4 : Int) - 1)).toNat) d_FeedItem).Gone)] := eC22
    obtain ⟨eb23, eo23, ec23, eA23, eS23, ebl23, el23, eR23, eC23⟩ := RdS.atD hf17 d_FeedItem (i := k4) (by first | omega | assumption)
    obtain rfl := eR23
    have eC23 : Cells w10 eb23 (eo23 + k4 * 5) [.int .i64 ((p_l.getD k4 d_FeedItem).Time), .int .i64 ((p_l.getD k4 d_FeedItem).Group), .string (bs ((p_l.getD k4 d_FeedItem).Key)), .string (bs ((p_l.getD k4 d_FeedItem).Val)), .bool ((p_l.getD k4 d_FeedItem).Gone)] := eC23
    refine CW.drawsI 15 (vgetI [DetI (.int .i64 ((k4 : Int))), DetI (.bool (decide (0 < (k4 : Int)))), DetI (.bool (decide (0 < (k4 : Int)))), DetI (.slice A1 p_l.length c1), DetI (.int .i64 ((k4 : Int))), DetI (.int .i64 (IntKind.wrap .i64 ((k4 : Int) - 1))), DetI (.pointer (some ⟨eb22, eo22 + ((IntKind.wrap .i64 ((k4 : Int) - 1)).toNat) * 5, none⟩)), DetI (.agg #[.int .i64 ((p_l.getD ((IntKind.wrap .i64 ((k4 : Int) - 1)).toNat) d_FeedItem).Time), .int .i64 ((p_l.getD ((IntKind.wrap .i64 ((k4 : Int) - 1)).toNat) d_FeedItem).Group), .string (bs ((p_l.getD ((IntKind.wrap .i64 ((k4 : Int) - 1)).toNat) d_FeedItem).Key)), .string (bs ((p_l.getD ((IntKind.wrap .i64 ((k4 : Int) - 1)).toNat) d_FeedItem).Val)), .bool ((p_l.getD ((IntKind.wrap .i64 ((k4 : Int) - 1)).toNat) d_FeedItem).Gone)]), DetI (.slice A1 p_l.length c1), DetI (.int .i64 ((k4 : Int))), DetI (.pointer (some ⟨eb23, eo23 + k4 * 5, none⟩)), DetI (.agg #[.int .i64 ((p_l.getD k4 d_FeedItem).Time), .int .i64 ((p_l.getD k4 d_FeedItem).Group), .string (bs ((p_l.getD k4 d_FeedItem).Key)), .string (bs ((p_l.getD k4 d_FeedItem).Val)), .bool ((p_l.getD k4 d_FeedItem).Gone)]), DetI (.int .i64 ((i_compareItems (p_l.getD ((IntKind.wrap .i64 ((k4 : Int) - 1)).toNat) d_FeedItem) (p_l.getD k4 d_FeedItem)))), DetI (.bool (decide (0 ≤ (i_compareItems (p_l.getD ((IntKind.wrap .i64 ((k4 : Int) - 1)).toNat) d_FeedItem) (p_l.getD k4 d_FeedItem))))), DetI (.bool (decide (0 ≤ (i_compareItems (p_l.getD ((IntKind.wrap .i64 ((k4 : Int) - 1)).toNat) d_FeedItem) (p_l.getD k4 d_FeedItem)))))]) Try.follows rfl rfl rfl rfl rfl rfl (vgetI_stable ⟨StableI.det _, StableI.det _, StableI.det _, StableI.det _, StableI.det _, StableI.det _, StableI.det _, StableI.det _, StableI.det _, StableI.det _, StableI.det _, StableI.det _, StableI.det _, StableI.det _, StableI.det _, trivial⟩) ⟨?_, ?_, ?_, ?_, ?_, ?_, ?_, ?_, ?_, ?_, ?_, ?_, ?_, ?_, ?_, trivial⟩ ?_
    ·exact fun _ _ h => os rfl ((yl_move rfl (h.old 3 _ rfl rfl) kI))
    ·exact fun _ _ h => os rfl ((yl_gtr rfl (h.dt 0 9 rfl rfl rfl) rfl kI))
    ·exact fun _ _ h => os rfl ((yl_move rfl (h.dt 1 10 rfl rfl rfl) kI))
    ·exact fun _ _ h => OpR.want rfl rfl (h.dt 2 11 rfl rfl rfl) hb21 (Yl.sameI (yl_move rfl (h.old 0 _ rfl rfl) kI))
    ·exact fun _ _ h => OpR.want rfl rfl (h.dt 2 11 rfl rfl rfl) hb21 (Yl.sameI (yl_move rfl (h.old 3 _ rfl rfl) kI))
    ·exact fun _ _ h => OpR.want rfl rfl (h.dt 2 11 rfl rfl rfl) hb21 (Yl.sameI (yl_sub rfl (h.dt 4 13 rfl rfl rfl) rfl kI))
    ·intro L58 w59 hi60
     have hE61 := hi60.ex
     have hE61z := Ex.size hE61
     exact OpR.want rfl rfl (hi60.dt 2 11 rfl rfl rfl) hb21 (Yl.sameI (yl_indexAddr Try.un83 Try.ty140 rfl (hi60.dt 3 12 rfl rfl rfl) (hi60.dt 5 14 rfl rfl rfl) eA22 (by first | omega | assumption | (simp only [IntKind.wrap_i64] at *; omega)) (by first | omega | assumption | (simp only [IntKind.wrap_i64] at *; omega)) kI))
    ·exact fun _ _ h => OpR.want rfl rfl (h.dt 2 11 rfl rfl rfl) hb21 (Yl.sameI (yl_loadN (cs := [.int .i64 ((p_l.getD ((IntKind.wrap .i64 ((k4 : Int) - 1)).toNat) d_FeedItem).Time), .int .i64 ((p_l.getD ((IntKind.wrap .i64 ((k4 : Int) - 1)).toNat) d_FeedItem).Group), .string (bs ((p_l.getD ((IntKind.wrap .i64 ((k4 : Int) - 1)).toNat) d_FeedItem).Key)), .string (bs ((p_l.getD ((IntKind.wrap .i64 ((k4 : Int) - 1)).toNat) d_FeedItem).Val)), .bool ((p_l.getD ((IntKind.wrap .i64 ((k4 : Int) - 1)).toNat) d_FeedItem).Gone)]) Try.ty140 rfl (h.dt 6 15 rfl rfl rfl) (Cells.ex eC22 h.ex) rfl kI))
    ·exact fun _ _ h => OpR.want rfl rfl (h.dt 2 11 rfl rfl rfl) hb21 (Yl.sameI (yl_move rfl (h.old 0 _ rfl rfl) kI))
    ·exact fun _ _ h => OpR.want rfl rfl (h.dt 2 11 rfl rfl rfl) hb21 (Yl.sameI (yl_move rfl (h.old 3 _ rfl rfl) kI))
    ·intro L84 w85 hi86
     have hE87 := hi86.ex
     have hE87z := Ex.size hE87
     exact OpR.want rfl rfl (hi86.dt 2 11 rfl rfl rfl) hb21 (Yl.sameI (yl_indexAddrN Try.un83 Try.ty140 rfl (hi86.dt 8 17 rfl rfl rfl) (hi86.dt 9 18 rfl rfl rfl) eA23 (by first | omega | assumption | (simp only [IntKind.wrap_i64] at *; omega)) kI))
    ·exact fun _ _ h => OpR.want rfl rfl (h.dt 2 11 rfl rfl rfl) hb21 (Yl.sameI (yl_loadN (cs := [.int .i64 ((p_l.getD k4 d_FeedItem).Time), .int .i64 ((p_l.getD k4 d_FeedItem).Group), .string (bs ((p_l.getD k4 d_FeedItem).Key)), .string (bs ((p_l.getD k4 d_FeedItem).Val)), .bool ((p_l.getD k4 d_FeedItem).Gone)]) Try.ty140 rfl (h.dt 10 19 rfl rfl rfl) (Cells.ex eC23 h.ex) rfl kI))
    ·intro L98 w99 hi100
     refine OpR.want rfl rfl (hi100.dt 2 11 rfl rfl rfl) hb21 (yl_call Try.en219 rfl (opvs_cons (hi100.dt 7 16 rfl rfl rfl) (opvs_cons (hi100.dt 11 20 rfl rfl rfl) opvs_nil)) (Cal.mono (c_i_compareItems (p_l.getD ((IntKind.wrap .i64 ((k4 : Int) - 1)).toNat) d_FeedItem) (p_l.getD k4 d_FeedItem) (okL.getD o2 ok_d_FeedItem _) (okL.getD o2 ok_d_FeedItem _)) ?_))
     rintro v106 w105 ⟨rfl, hE107⟩
     exact ⟨rfl, hE107⟩
    ·exact fun _ _ h => OpR.want rfl rfl (h.dt 2 11 rfl rfl rfl) hb21 (Yl.sameI (yl_geq rfl (h.dt 12 21 rfl rfl rfl) rfl kI))
    ·exact fun _ _ h => os rfl ((yl_pick_t rfl (h.dt 2 11 rfl rfl rfl) hb21 (h.dt 13 22 rfl rfl rfl) kI))
    ·intro fl123 fh124 L120 w121 hp122
     have hE125 := hp122.ex
     have hE125z := Ex.size hE125
     refine SeqR.done (tn (CW.sub (Sub.cons (d := 0) (hp122.old 0 _ rfl rfl) (Sub.cons (d := 5) (hp122.old 5 _ rfl rfl) (Sub.cons (d := 6) (hp122.old 6 _ rfl rfl) (Sub.cons (d := 12) (hp122.nt 3 12 rfl rfl rfl) (Sub.cons (d := 13) (hp122.nt 4 13 rfl rfl rfl) (Sub.cons (d := 14) (hp122.nt 5 14 rfl rfl rfl) (Sub.cons (d := 15) (hp122.nt 6 15 rfl rfl rfl) (Sub.cons (d := 16) (hp122.nt 7 16 rfl rfl rfl) (Sub.cons (d := 17) (hp122.nt 8 17 rfl rfl rfl) (Sub.cons (d := 18) (hp122.nt 9 18 rfl rfl rfl) (Sub.cons (d := 19) (hp122.nt 10 19 rfl rfl rfl) (Sub.cons (d := 20) (hp122.nt 11 20 rfl rfl rfl) (Sub.cons (d := 21) (hp122.nt 12 21 rfl rfl rfl) (Sub.cons (d := 22) (hp122.nt 13 22 rfl rfl rfl) (Sub.cons (d := 23) (hp122.nt 14 23 rfl rfl rfl) (Sub.nil _)))))))))))))))) (bcase (decide (0 ≤ (i_compareItems (p_l.getD ((IntKind.wrap .i64 ((k4 : Int) - 1)).toNat) d_FeedItem) (p_l.getD k4 d_FeedItem)))) (fun hb141 => ?_) (fun hb141 => ?_))))
     ·have hb141p := dec_t hb141
      refine CW.cond_t rfl hb141 (CW.seq (CW.region (sd rfl (yl_assign rfl rfl (SeqR.done (tn (CW.ret (br (tr ?_)))))))))
      refine tr ?_
      have hB143 : B_i_isFeed_0 p_l k4 () = .ret false := by simp only [B_i_isFeed_0, hb21, hb141, cond_true, cond_false, loopE_done, loopE_ret]
      have hL142 : loopM (B_i_isFeed_0 p_l) (p_l.length - 0) 0 () = .ret false := hI12.symm.trans (loopM.ret hlt20 hB143)
      refine br (tr (rr rfl (.cons rfl .nil) ?_))
      have hM144 : (i_isFeed p_l) = (false) := by simp only [i_isFeed, hb21, hb141, hL142, cond_true, cond_false, loopE_done, loopE_ret]
      rw [hM144]
      exact ⟨rfl, (Ex.trans hf18 hE125)⟩
     ·have hb141p := dec_f hb141
      refine CW.cond_f rfl hb141 (CW.skip (bn (tn (CW.region (sd rfl (yl_inc rfl rfl rfl (by omega) (sd rfl (yl_move rfl rfl (SeqR.done (tn ?_))))))))))
      have hB146 : B_i_isFeed_0 p_l k4 () = .cont () := by simp only [B_i_isFeed_0, hb21, hb141, cond_true, cond_false, loopE_done, loopE_ret]
      exact ⟨p_l.length - (k4 + 1), by omega, k4 + 1, rfl, hlt20, (by omega), rfl, rfl, rfl, (RdS.ex good_FeedItem hf17 hE125), (Ex.trans hf18 hE125), (loopM.cont hlt20 hB146).symm.trans hI12⟩
   ·have hb21p := dec_f hb21
    refine CW.drawsI 15 (vgetI [DetI (.int .i64 ((k4 : Int))), DetI (.bool (decide (0 < (k4 : Int)))), DetI (.bool (decide (0 < (k4 : Int)))), DetI (undef), DetI (undef), DetI (undef), DetI (undef), DetI (undef), DetI (undef), DetI (undef), DetI (undef), DetI (undef), DetI (undef), DetI (undef), DetI (.bool (false))]) Try.follows rfl rfl rfl rfl rfl rfl (vgetI_stable ⟨StableI.det _, StableI.det _, StableI.det _, StableI.det _, StableI.det _, StableI.det _, StableI.det _, StableI.det _, StableI.det _, StableI.det _, StableI.det _, StableI.det _, StableI.det _, StableI.det _, StableI.det _, trivial⟩) ⟨?_, ?_, ?_, ?_, ?_, ?_, ?_, ?_, ?_, ?_, ?_, ?_, ?_, ?_, ?_, trivial⟩ ?_
    ·exact fun _ _ h => os rfl ((yl_move rfl (h.old 3 _ rfl rfl) kI))
    ·exact fun _ _ h => os rfl ((yl_gtr rfl (h.dt 0 9 rfl rfl rfl) rfl kI))
    ·exact fun _ _ h => os rfl ((yl_move rfl (h.dt 1 10 rfl rfl rfl) kI))
    ·exact fun _ _ h => OpR.skip rfl rfl (h.dt 2 11 rfl rfl rfl) hb21 ⟨rfl, Ex.refl _⟩
    ·exact fun _ _ h => OpR.skip rfl rfl (h.dt 2 11 rfl rfl rfl) hb21 ⟨rfl, Ex.refl _⟩
    ·exact fun _ _ h => OpR.skip rfl rfl (h.dt 2 11 rfl rfl rfl) hb21 ⟨rfl, Ex.refl _⟩
    ·exact fun _ _ h => OpR.skip rfl rfl (h.dt 2 11 rfl rfl rfl) hb21 ⟨rfl, Ex.refl _⟩
    ·exact fun _ _ h => OpR.skip rfl rfl (h.dt 2 11 rfl rfl rfl) hb21 ⟨rfl, Ex.refl _⟩
    ·exact fun _ _ h => OpR.skip rfl rfl (h.dt 2 11 rfl rfl rfl) hb21 ⟨rfl, Ex.refl _⟩
    ·exact fun _ _ h => OpR.skip rfl rfl (h.dt 2 11 rfl rfl rfl) hb21 ⟨rfl, Ex.refl _⟩
    ·exact fun _ _ h => OpR.skip rfl rfl (h.dt 2 11 rfl rfl rfl) hb21 ⟨rfl, Ex.refl _⟩
    ·exact fun _ _ h => OpR.skip rfl rfl (h.dt 2 11 rfl rfl rfl) hb21 ⟨rfl, Ex.refl _⟩
    ·exact fun _ _ h => OpR.skip rfl rfl (h.dt 2 11 rfl rfl rfl) hb21 ⟨rfl, Ex.refl _⟩
    ·exact fun _ _ h => OpR.skip rfl rfl (h.dt 2 11 rfl rfl rfl) hb21 ⟨rfl, Ex.refl _⟩
    ·exact fun _ _ h => os rfl ((yl_pick_f rfl (h.dt 2 11 rfl rfl rfl) hb21 rfl kI))
    ·intro fl228 fh229 L225 w226 hp227
     have hE230 := hp227.ex
     have hE230z := Ex.size hE230
     refine SeqR.done (tn (CW.sub (Sub.cons (d := 0) (hp227.old 0 _ rfl rfl) (Sub.cons (d := 5) (hp227.old 5 _ rfl rfl) (Sub.cons (d := 6) (hp227.old 6 _ rfl rfl) (Sub.cons (d := 12) (hp227.nt 3 12 rfl rfl rfl) (Sub.cons (d := 13) (hp227.nt 4 13 rfl rfl rfl) (Sub.cons (d := 14) (hp227.nt 5 14 rfl rfl rfl) (Sub.cons (d := 15) (hp227.nt 6 15 rfl rfl rfl) (Sub.cons (d := 16) (hp227.nt 7 16 rfl rfl rfl) (Sub.cons (d := 17) (hp227.nt 8 17 rfl rfl rfl) (Sub.cons (d := 18) (hp227.nt 9 18 rfl rfl rfl) (Sub.cons (d := 19) (hp227.nt 10 19 rfl rfl rfl) (Sub.cons (d := 20) (hp227.nt 11 20 rfl rfl rfl) (Sub.cons (d := 21) (hp227.nt 12 21 rfl rfl rfl) (Sub.cons (d := 22) (hp227.nt 13 22 rfl rfl rfl) (Sub.cons (d := 23) (hp227.nt 14 23 rfl rfl rfl) (Sub.nil _)))))))))))))))) (CW.cond_f rfl rfl (CW.skip (bn (tn (CW.region (sd rfl (yl_inc rfl rfl rfl (by omega) ?_)))))))))
     refine sd rfl (yl_move rfl rfl (SeqR.done (tn ?_)))
     have hB246 : B_i_isFeed_0 p_l k4 () = .cont () := by simp only [B_i_isFeed_0, hb21, cond_true, cond_false, loopE_done, loopE_ret]
     exact ⟨p_l.length - (k4 + 1), by omega, k4 + 1, rfl, hlt20, (by omega), rfl, rfl, rfl, (RdS.ex good_FeedItem hf17 hE230), (Ex.trans hf18 hE230), (loopM.cont hlt20 hB246).symm.trans hI12⟩
  ·refine CW.seq (CW.region (sd rfl (yl_lss rfl rfl rfl (SeqR.done (tn (CW.seq (CW.cond_f rfl (lt_f hlt20) (CW.exit (tx ?_)))))))))
   refine tx ?_
   have hL249 : loopM (B_i_isFeed_0 p_l) (p_l.length - 0) 0 () = .done () := hI12.symm.trans (loopM.stop hlt20)
   refine bx (tn (CW.seq (CW.region (sd rfl (yl_move rfl rfl (sd rfl (yl_len Try.un83 rfl rfl (sd rfl (yl_leq rfl rfl rfl (sd rfl (yl_assign rfl rfl (SeqR.done ?_))))))))))))
   refine tn (CW.ret (rr rfl (.cons rfl .nil) ?_))
   have hM250 : (i_isFeed p_l) = (decide ((p_l.length : Int) ≤ 400)) := by simp only [i_isFeed, hL249, cond_true, cond_false, loopE_done, loopE_ret]
   rw [hM250]
   exact ⟨rfl, hf18⟩
set_option maxRecDepth 100000 in
set_option maxHeartbeats 2000000 in
theorem c_i_isLowerOrDigit {w : World} (p_b : Int) : Cal Try.prog 223 #[.int .u8 (p_b)] w fun v w' => v = .bool ((i_isLowerOrDigit p_b)) ∧ Ex w w' := by
 refine Cal.of (vs := [.int .u8 (p_b)]) Try.func223 rfl Try.ntmps223 rfl (CW.seq (CW.region (sd rfl (yl_assign rfl rfl (SeqR.done (tn (CW.seq (CW.region (sd rfl (yl_move rfl rfl ?_))))))))))
 refine sd rfl (yl_geq rfl rfl rfl (sd rfl (yl_move rfl rfl (bcase (decide (97 ≤ p_b)) (fun hb1 => ?_) (fun hb1 => ?_)))))
 ·have hb1p := dec_t hb1
  refine sy rfl rfl hb1 (yl_move rfl rfl (sy rfl rfl hb1 (yl_leq rfl rfl rfl (sd rfl (yl_pick_t rfl rfl hb1 rfl (sd rfl (yl_move rfl rfl (bcase (decide (p_b ≤ 122)) (fun hb2 => ?_) (fun hb2 => ?_)))))))))
  ·have hb2p := dec_t hb2
   refine sz rfl rfl hb2 (sz rfl rfl hb2 (sz rfl rfl hb2 (sq rfl rfl (sq rfl rfl (sz rfl rfl hb2 (sd rfl (yl_pick_t rfl rfl hb2 rfl (sd rfl (yl_assign rfl rfl (SeqR.done ?_))))))))))
   refine tn (CW.ret (rr rfl (.cons rfl .nil) ?_))
   have hM3 : (i_isLowerOrDigit p_b) = (true) := by simp only [i_isLowerOrDigit, hb1, hb2, cond_true, cond_false, loopE_done, loopE_ret]
   rw [hM3]
   exact ⟨rfl, (Ex.refl w)⟩
  ·have hb2p := dec_f hb2
   refine sy rfl rfl hb2 (yl_move rfl rfl (sy rfl rfl hb2 (yl_geq rfl rfl rfl (sy rfl rfl hb2 (yl_move rfl rfl (bcase (decide (48 ≤ p_b)) (fun hb4 => ?_) (fun hb4 => ?_)))))))
   ·have hb4p := dec_t hb4
    refine sy rfl rfl hb4 (yl_move rfl rfl (sy rfl rfl hb4 (yl_leq rfl rfl rfl (sy rfl rfl hb2 (yl_pick_t rfl rfl hb4 rfl (sd rfl (yl_pick_f rfl rfl hb2 rfl (sd rfl (yl_assign rfl rfl (SeqR.done (tn (CW.ret (rr rfl (.cons rfl .nil) ?_)))))))))))))
    have hM5 : (i_isLowerOrDigit p_b) = (decide (p_b ≤ 57)) := by simp only [i_isLowerOrDigit, hb1, hb2, hb4, cond_true, cond_false, loopE_done, loopE_ret]
    rw [hM5]
    exact ⟨rfl, (Ex.refl w)⟩
   ·have hb4p := dec_f hb4
    refine sz rfl rfl hb4 (sz rfl rfl hb4 (sy rfl rfl hb2 (yl_pick_f rfl rfl hb4 rfl (sd rfl (yl_pick_f rfl rfl hb2 rfl (sd rfl (yl_assign rfl rfl (SeqR.done (tn (CW.ret (rr rfl (.cons rfl .nil) ?_)))))))))))
    have hM6 : (i_isLowerOrDigit p_b) = (false) := by simp only [i_isLowerOrDigit, hb1, hb2, hb4, cond_true, cond_false, loopE_done, loopE_ret]
    rw [hM6]
    exact ⟨rfl, (Ex.refl w)⟩
 ·have hb1p := dec_f hb1
  refine sz rfl rfl hb1 (sz rfl rfl hb1 (sd rfl (yl_pick_f rfl rfl hb1 rfl (sd rfl (yl_move rfl rfl (sy rfl rfl rfl (yl_move rfl rfl (sy rfl rfl rfl (yl_geq rfl rfl rfl (sy rfl rfl rfl (yl_move rfl rfl (bcase (decide (48 ≤ p_b)) (fun hb7 => ?_) (fun hb7 => ?_)))))))))))))
  ·have hb7p := dec_t hb7
   refine sy rfl rfl hb7 (yl_move rfl rfl (sy rfl rfl hb7 (yl_leq rfl rfl rfl (sy rfl rfl rfl (yl_pick_t rfl rfl hb7 rfl (sd rfl (yl_pick_f rfl rfl rfl rfl (sd rfl (yl_assign rfl rfl (SeqR.done (tn (CW.ret (rr rfl (.cons rfl .nil) ?_)))))))))))))
   have hM8 : (i_isLowerOrDigit p_b) = (decide (p_b ≤ 57)) := by simp only [i_isLowerOrDigit, hb1, hb7, cond_true, cond_false, loopE_done, loopE_ret]
   rw [hM8]
   exact ⟨rfl, (Ex.refl w)⟩
  ·have hb7p := dec_f hb7
   refine sz rfl rfl hb7 (sz rfl rfl hb7 (sy rfl rfl rfl (yl_pick_f rfl rfl hb7 rfl (sd rfl (yl_pick_f rfl rfl rfl rfl (sd rfl (yl_assign rfl rfl (SeqR.done (tn (CW.ret (rr rfl (.cons rfl .nil) ?_)))))))))))
   have hM9 : (i_isLowerOrDigit p_b) = (false) := by simp only [i_isLowerOrDigit, hb1, hb7, cond_true, cond_false, loopE_done, loopE_ret]
   rw [hM9]
   exact ⟨rfl, (Ex.refl w)⟩
set_option maxRecDepth 100000 in
set_option maxHeartbeats 2000000 in
theorem c_g_internal_stringslite_IndexByte {w : World} (p_s : Str) (p_c : Int) (o1 : okS p_s) : Cal Try.prog 230 #[.string (bs (p_s)), .int .u8 (p_c)] w fun v w' => v = .int .i64 ((g_internal_stringslite_IndexByte p_s p_c)) ∧ Ex w w' := by
 have hol2 : p_s.length ≤ 1073741824 := o1
 refine Cal.of (vs := [.string (bs (p_s)), .int .u8 (p_c)]) Try.func230 rfl Try.ntmps230 rfl (CW.seq (CW.region (sd rfl (yl_assign rfl rfl (SeqR.done (tn (CW.seq (CW.region (sd rfl (yl_move rfl rfl ?_))))))))))
 refine sd rfl (yl_move rfl rfl (sd rfl (yl_idxB (s := p_s) (c := p_c) Try.ex233 rfl (opvs_cons rfl (opvs_cons rfl opvs_nil)) (sd rfl (yl_assign rfl rfl (SeqR.done (tn (CW.ret (rr rfl (.cons rfl .nil) ?_)))))))))
 have hM3 : (g_internal_stringslite_IndexByte p_s p_c) = (idxB p_s p_c) := by simp only [g_internal_stringslite_IndexByte, cond_true, cond_false, loopE_done, loopE_ret]
 rw [hM3]
 exact ⟨rfl, (Ex.refl w)⟩
set_option maxRecDepth 100000 in
set_option maxHeartbeats 2000000 in
theorem c_g_strings_IndexByte {w : World} (p_s : Str) (p_c : Int) (o1 : okS p_s) : Cal Try.prog 224 #[.string (bs (p_s)), .int .u8 (p_c)] w fun v w' => v = .int .i64 ((g_strings_IndexByte p_s p_c)) ∧ Ex w w' := by
 have hol2 : p_s.length ≤ 1073741824 := o1
 refine Cal.of (vs := [.string (bs (p_s)), .int .u8 (p_c)]) Try.func224 rfl Try.ntmps224 rfl (CW.seq (CW.region (sd rfl (yl_assign rfl rfl (SeqR.done (tn (CW.seq (CW.region (sd rfl (yl_move rfl rfl ?_))))))))))
 refine sd rfl (yl_move rfl rfl (sd rfl (yl_call Try.en230 rfl (opvs_cons rfl (opvs_cons rfl opvs_nil)) (Cal.mono (c_g_internal_stringslite_IndexByte p_s p_c o1) ?_))))
 rintro v4 w3 ⟨rfl, hE5⟩
 have hE5z := Ex.size hE5
 refine sd rfl (yl_assign rfl rfl (SeqR.done (tn (CW.ret (rr rfl (.cons rfl .nil) ?_)))))
 have hM6 : (g_strings_IndexByte p_s p_c) = ((g_internal_stringslite_IndexByte p_s p_c)) := by simp only [g_strings_IndexByte, cond_true, cond_false, loopE_done, loopE_ret]
 rw [hM6]
 exact ⟨rfl, (Ex.trans (Ex.refl w) hE5)⟩
set_option maxRecDepth 100000 in
set_option maxHeartbeats 2000000 in
theorem c_i_hasBytes {w : World} (p_s : Str) (p_others : Str) (o1 : okS p_s) (o2 : okS p_others) : Cal Try.prog 213 #[.string (bs (p_s)), .string (bs (p_others))] w fun v w' => v = .bool ((i_hasBytes p_s p_others)) ∧ Ex w w' := by
 have hol3 : p_s.length ≤ 1073741824 := o1
 have hol4 : p_others.length ≤ 1073741824 := o2
 refine Cal.of (vs := [.string (bs (p_s)), .string (bs (p_others))]) Try.func213 rfl Try.ntmps213 rfl (CW.seq (CW.region (sd rfl (yl_assign rfl rfl (SeqR.done (tn (CW.seq (CW.seq (CW.region ?_)))))))))
 refine sd rfl (yl_move rfl rfl (sd rfl (yl_slen Try.un9 (a := p_s) rfl rfl (sd rfl (yl_move rfl rfl (SeqR.done (tn (CW.block (CW.loop (fun m6 L7 w8 => ∃ (k5 : Nat), m6 = p_s.length - k5 ∧ k5 ≤ p_s.length ∧ w.heap.size ≤ w8.heap.size ∧ lkp L7 0 = some (.string (bs (p_s))) ∧ lkp L7 1 = some (.string (bs (p_others))) ∧ lkp L7 7 = some (.int .i64 ((p_s.length : Int))) ∧ lkp L7 8 = some (.int .i64 ((k5 : Int))) ∧ Ex w w8 ∧ loopM (B_i_hasBytes_0 p_s p_others) (p_s.length - k5) k5 () = loopM (B_i_hasBytes_0 p_s p_others) (p_s.length - 0) 0 ()) (p_s.length - 0) ?_ ?_)))))))))
 ·exact ⟨0, rfl, (by omega), Nat.le_refl _, rfl, rfl, rfl, rfl, (Ex.refl w), rfl⟩
 ·rintro m9 L10 w11 ⟨k5, rfl, hk12, hsz14, hl15, hl16, hl17, hl18, hf19, hI13⟩
  refine CW.sub (Sub.cons hl15 (Sub.cons hl16 (Sub.cons hl17 (Sub.cons hl18 (Sub.nil _))))) ?_
  have hf19z := Ex.size hf19
  have hbg20 : p_s.length ≤ 1073741824 := o1
  rcases Nat.lt_or_ge k5 p_s.length with hlt21 | hlt21
  ·refine CW.seq (CW.region (sd rfl (yl_lss rfl rfl rfl (SeqR.done (tn (CW.seq (CW.cond_t rfl (lt_t hlt21) (CW.skip (tn ?_)))))))))
   refine CW.seq (CW.block (CW.seq (CW.region (sd rfl (yl_move rfl rfl (sd rfl (yl_assign rfl rfl (SeqR.done (tn (CW.seq ?_))))))))))
   refine CW.region (sd rfl (yl_move rfl rfl (sd rfl (yl_move rfl rfl (sd rfl (yl_sindexN Try.un9 (a := p_s) rfl rfl rfl (by first | omega | assumption | (simp only [IntKind.wrap_i64] at *; omega)) (sd rfl (yl_call Try.en223 rfl (opvs_cons rfl opvs_nil) (Cal.mono (c_i_isLowerOrDigit ((p_s.getD k5 0).toNat : Int)) ?_)))))))))
   rintro v23 w22 ⟨rfl, hE24⟩
   have hE24z := Ex.size hE24
   refine sd rfl (yl_not rfl rfl (sd rfl (yl_move rfl rfl (bcase (i_isLowerOrDigit ((p_s.getD k5 0).toNat : Int)) (fun hb25 => ?_) (fun hb25 => ?_)))))
   ·refine sz rfl rfl (not_t hb25) (sz rfl rfl (not_t hb25) (sz rfl rfl (not_t hb25) (sz rfl rfl (not_t hb25) (sz rfl rfl (not_t hb25) (sz rfl rfl (not_t hb25) (sd rfl (yl_pick_f rfl rfl (not_t hb25) rfl (SeqR.done (tn ?_)))))))))
    refine CW.cond_f rfl rfl (CW.skip (bn (tn (CW.region (sd rfl (yl_inc rfl rfl rfl (by omega) (sd rfl (yl_move rfl rfl (SeqR.done (tn ?_))))))))))
    have hB26 : B_i_hasBytes_0 p_s p_others k5 () = .cont () := by simp only [B_i_hasBytes_0, hb25, cond_true, cond_false, loopE_done, loopE_ret]
    exact ⟨p_s.length - (k5 + 1), by omega, k5 + 1, rfl, hlt21, (by omega), rfl, rfl, rfl, rfl, (Ex.trans hf19 hE24), (loopM.cont hlt21 hB26).symm.trans hI13⟩
   ·refine sy rfl rfl (not_f hb25) (yl_move rfl rfl (sy rfl rfl (not_f hb25) (yl_move rfl rfl (sy rfl rfl (not_f hb25) (yl_move rfl rfl (sy rfl rfl (not_f hb25) (yl_sindexN Try.un9 (a := p_s) rfl rfl rfl (by first | omega | assumption | (simp only [IntKind.wrap_i64] at *; omega)) (sy rfl rfl (not_f hb25) (yl_call Try.en224 rfl (opvs_cons rfl (opvs_cons rfl opvs_nil)) (Cal.mono (c_g_strings_IndexByte p_others ((p_s.getD k5 0).toNat : Int) o2) ?_))))))))))
    rintro v29 w28 ⟨rfl, hE30⟩
    have hE30z := Ex.size hE30
    refine sy rfl rfl (not_f hb25) (yl_lss rfl rfl rfl (sd rfl (yl_pick_t rfl rfl (not_f hb25) rfl (SeqR.done (tn (bcase (decide ((g_strings_IndexByte p_others ((p_s.getD k5 0).toNat : Int)) < 0)) (fun hb31 => ?_) (fun hb31 => ?_)))))))
    ·have hb31p := dec_t hb31
     refine CW.cond_t rfl hb31 (CW.seq (CW.region (sd rfl (yl_assign rfl rfl (SeqR.done (tn (CW.ret (br (tr ?_)))))))))
     refine tr ?_
     have hB33 : B_i_hasBytes_0 p_s p_others k5 () = .ret false := by simp only [B_i_hasBytes_0, hb25, hb31, cond_true, cond_false, loopE_done, loopE_ret]
     have hL32 : loopM (B_i_hasBytes_0 p_s p_others) (p_s.length - 0) 0 () = .ret false := hI13.symm.trans (loopM.ret hlt21 hB33)
     refine br (tr (rr rfl (.cons rfl .nil) ?_))
     have hM34 : (i_hasBytes p_s p_others) = (false) := by simp only [i_hasBytes, hb25, hb31, hL32, cond_true, cond_false, loopE_done, loopE_ret]
     rw [hM34]
     exact ⟨rfl, (Ex.trans (Ex.trans hf19 hE24) hE30)⟩
    ·have hb31p := dec_f hb31
     refine CW.cond_f rfl hb31 (CW.skip (bn (tn (CW.region (sd rfl (yl_inc rfl rfl rfl (by omega) (sd rfl (yl_move rfl rfl (SeqR.done (tn ?_))))))))))
     have hB37 : B_i_hasBytes_0 p_s p_others k5 () = .cont () := by simp only [B_i_hasBytes_0, hb25, hb31, cond_true, cond_false, loopE_done, loopE_ret]
     exact ⟨p_s.length - (k5 + 1), by omega, k5 + 1, rfl, hlt21, (by omega), rfl, rfl, rfl, rfl, (Ex.trans (Ex.trans hf19 hE24) hE30), (loopM.cont hlt21 hB37).symm.trans hI13⟩
  ·refine CW.seq (CW.region (sd rfl (yl_lss rfl rfl rfl (SeqR.done (tn (CW.seq (CW.cond_f rfl (lt_f hlt21) (CW.exit (tx ?_)))))))))
   refine tx ?_
   have hL40 : loopM (B_i_hasBytes_0 p_s p_others) (p_s.length - 0) 0 () = .done () := hI13.symm.trans (loopM.stop hlt21)
   refine bx (tn (CW.seq (CW.region (sd rfl (yl_assign rfl rfl (SeqR.done (tn (CW.ret (rr rfl (.cons rfl .nil) ?_)))))))))
   have hM41 : (i_hasBytes p_s p_others) = (true) := by simp only [i_hasBytes, hL40, cond_true, cond_false, loopE_done, loopE_ret]
   rw [hM41]
   exact ⟨rfl, hf19⟩
set_option maxRecDepth 100000 in
set_option maxHeartbeats 2000000 in
theorem c_i_GoodVal {w : World} (p_s : Str) (o1 : okS p_s) : Cal Try.prog 218 #[.string (bs (p_s))] w fun v w' => v = .bool ((i_GoodVal p_s)) ∧ Ex w w' := by
 have hol2 : p_s.length ≤ 1073741824 := o1
 refine Cal.of (vs := [.string (bs (p_s))]) Try.func218 rfl Try.ntmps218 rfl (CW.seq (CW.region (sd rfl (yl_assign rfl rfl (SeqR.done (tn (CW.seq (CW.region (sd rfl (yl_move rfl rfl ?_))))))))))
 refine sd rfl (yl_slen Try.un9 (a := p_s) rfl rfl (sd rfl (yl_leq rfl rfl rfl (sd rfl (yl_move rfl rfl (bcase (decide ((p_s.length : Int) ≤ 24)) (fun hb3 => ?_) (fun hb3 => ?_)))))))
 ·have hb3p := dec_t hb3
  refine sy rfl rfl hb3 (yl_move rfl rfl (sy rfl rfl hb3 (yl_call Try.en213 rfl (opvs_cons rfl (opvs_cons rfl opvs_nil)) (Cal.mono (c_i_hasBytes p_s ([46, 45, 44, 95] : Str) o1 (okS.lit rfl)) ?_))))
  rintro v5 w4 ⟨rfl, hE6⟩
  have hE6z := Ex.size hE6
  refine sd rfl (yl_pick_t rfl rfl hb3 rfl (sd rfl (yl_assign rfl rfl (SeqR.done (tn (CW.ret (rr rfl (.cons rfl .nil) ?_)))))))
  have hM7 : (i_GoodVal p_s) = ((i_hasBytes p_s ([46, 45, 44, 95] : Str))) := by simp only [i_GoodVal, hb3, cond_true, cond_false, loopE_done, loopE_ret]
  rw [hM7]
  exact ⟨rfl, (Ex.trans (Ex.refl w) hE6)⟩
 ·have hb3p := dec_f hb3
  refine sz rfl rfl hb3 (sz rfl rfl hb3 (sd rfl (yl_pick_f rfl rfl hb3 rfl (sd rfl (yl_assign rfl rfl (SeqR.done (tn (CW.ret (rr rfl (.cons rfl .nil) ?_)))))))))
  have hM9 : (i_GoodVal p_s) = (false) := by simp only [i_GoodVal, hb3, cond_true, cond_false, loopE_done, loopE_ret]
  rw [hM9]
  exact ⟨rfl, (Ex.refl w)⟩
set_option maxRecDepth 100000 in
set_option maxHeartbeats 2000000 in
theorem c_i_isStored {w : World} (p_val : Str) (p_gone : Bool) (o1 : okS p_val) : Cal Try.prog 186 #[.string (bs (p_val)), .bool (p_gone)] w fun v w' => v = .bool ((i_isStored p_val p_gone)) ∧ Ex w w' := by
 have hol2 : p_val.length ≤ 1073741824 := o1
 refine Cal.of (vs := [.string (bs (p_val)), .bool (p_gone)]) Try.func186 rfl Try.ntmps186 rfl (CW.seq (CW.region (sd rfl (yl_assign rfl rfl (SeqR.done (tn (CW.seq (CW.region (sd rfl (yl_move rfl rfl ?_))))))))))
 refine sd rfl (yl_call Try.en218 rfl (opvs_cons rfl opvs_nil) (Cal.mono (c_i_GoodVal p_val o1) ?_))
 rintro v4 w3 ⟨rfl, hE5⟩
 have hE5z := Ex.size hE5
 refine sd rfl (yl_move rfl rfl (bcase (i_GoodVal p_val) (fun hb6 => ?_) (fun hb6 => ?_)))
 ·refine sy rfl rfl hb6 (yl_move rfl rfl (sy rfl rfl hb6 (yl_move rfl rfl (bcase (p_gone) (fun hb7 => ?_) (fun hb7 => ?_)))))
  ·refine sy rfl rfl hb7 (yl_move rfl rfl (sy rfl rfl hb7 (yl_sneq (a := p_val) (b := ([] : Str)) rfl rfl rfl (sy rfl rfl hb6 (yl_pick_t rfl rfl hb7 rfl (sy rfl rfl hb6 (yl_not rfl rfl (sd rfl (yl_pick_t rfl rfl hb6 rfl (sd rfl (yl_assign rfl rfl (SeqR.done (tn (CW.ret ?_))))))))))))))
   refine rr rfl (.cons rfl .nil) ?_
   have hM8 : (i_isStored p_val p_gone) = (!(!(p_val == ([] : Str)))) := by simp only [i_isStored, hb6, hb7, cond_true, cond_false, loopE_done, loopE_ret]
   rw [hM8]
   exact ⟨rfl, (Ex.trans (Ex.refl w) hE5)⟩
  ·refine sz rfl rfl hb7 (sz rfl rfl hb7 (sy rfl rfl hb6 (yl_pick_f rfl rfl hb7 rfl (sy rfl rfl hb6 (yl_not rfl rfl (sd rfl (yl_pick_t rfl rfl hb6 rfl (sd rfl (yl_assign rfl rfl (SeqR.done (tn (CW.ret ?_))))))))))))
   refine rr rfl (.cons rfl .nil) ?_
   have hM10 : (i_isStored p_val p_gone) = (!false) := by simp only [i_isStored, hb6, hb7, cond_true, cond_false, loopE_done, loopE_ret]
   rw [hM10]
   exact ⟨rfl, (Ex.trans (Ex.refl w) hE5)⟩
 ·refine sz rfl rfl hb6 (sz rfl rfl hb6 (sq rfl rfl (sq rfl rfl (sz rfl rfl hb6 (sz rfl rfl hb6 (sd rfl (yl_pick_f rfl rfl hb6 rfl (sd rfl (yl_assign rfl rfl (SeqR.done ?_))))))))))
  refine tn (CW.ret (rr rfl (.cons rfl .nil) ?_))
  have hM12 : (i_isStored p_val p_gone) = (false) := by simp only [i_isStored, hb6, cond_true, cond_false, loopE_done, loopE_ret]
  rw [hM12]
  exact ⟨rfl, (Ex.trans (Ex.refl w) hE5)⟩
set_option maxRecDepth 100000 in
set_option maxHeartbeats 2000000 in
theorem c_i_isTime {w : World} (p_t : Int) : Cal Try.prog 206 #[.int .i64 (p_t)] w fun v w' => v = .bool ((i_isTime p_t)) ∧ Ex w w' := by
 refine Cal.of (vs := [.int .i64 (p_t)]) Try.func206 rfl Try.ntmps206 rfl (CW.seq (CW.region (sd rfl (yl_assign rfl rfl (SeqR.done (tn (CW.seq (CW.region (sd rfl (yl_move rfl rfl ?_))))))))))
 refine sd rfl (yl_call Try.en77 rfl (opvs_cons rfl (opvs_cons rfl (opvs_cons rfl opvs_nil))) (Cal.mono (c_i_within p_t 1 100000) ?_))
 rintro v2 w1 ⟨rfl, hE3⟩
 have hE3z := Ex.size hE3
 refine sd rfl (yl_assign rfl rfl (SeqR.done (tn (CW.ret (rr rfl (.cons rfl .nil) ?_)))))
 have hM4 : (i_isTime p_t) = ((i_within p_t 1 100000)) := by simp only [i_isTime, cond_true, cond_false, loopE_done, loopE_ret]
 rw [hM4]
 exact ⟨rfl, (Ex.trans (Ex.refl w) hE3)⟩
set_option maxRecDepth 100000 in
set_option maxHeartbeats 2000000 in
theorem c_i_GoodKey {w : World} (p_s : Str) (o1 : okS p_s) : Cal Try.prog 207 #[.string (bs (p_s))] w fun v w' => v = .bool ((i_GoodKey p_s)) ∧ Ex w w' := by
 have hol2 : p_s.length ≤ 1073741824 := o1
 refine Cal.of (vs := [.string (bs (p_s))]) Try.func207 rfl Try.ntmps207 rfl (CW.seq (CW.region (sd rfl (yl_assign rfl rfl (SeqR.done (tn (CW.seq (CW.region (sd rfl (yl_move rfl rfl ?_))))))))))
 refine sd rfl (yl_slen Try.un9 (a := p_s) rfl rfl (sd rfl (yl_call Try.en77 rfl (opvs_cons rfl (opvs_cons rfl (opvs_cons rfl opvs_nil))) (Cal.mono (c_i_within (p_s.length : Int) 1 12) ?_))))
 rintro v4 w3 ⟨rfl, hE5⟩
 have hE5z := Ex.size hE5
 refine sd rfl (yl_move rfl rfl (bcase (i_within (p_s.length : Int) 1 12) (fun hb6 => ?_) (fun hb6 => ?_)))
 ·have hb6p := f_within hb6
  refine sy rfl rfl hb6 (yl_move rfl rfl (sy rfl rfl hb6 (yl_call Try.en213 rfl (opvs_cons rfl (opvs_cons rfl opvs_nil)) (Cal.mono (c_i_hasBytes p_s ([46, 47] : Str) o1 (okS.lit rfl)) ?_))))
  rintro v8 w7 ⟨rfl, hE9⟩
  have hE9z := Ex.size hE9
  refine sd rfl (yl_pick_t rfl rfl hb6 rfl (sd rfl (yl_assign rfl rfl (SeqR.done (tn (CW.ret (rr rfl (.cons rfl .nil) ?_)))))))
  have hM10 : (i_GoodKey p_s) = ((i_hasBytes p_s ([46, 47] : Str))) := by simp only [i_GoodKey, hb6, cond_true, cond_false, loopE_done, loopE_ret]
  rw [hM10]
  exact ⟨rfl, (Ex.trans (Ex.trans (Ex.refl w) hE5) hE9)⟩
 ·refine sz rfl rfl hb6 (sz rfl rfl hb6 (sd rfl (yl_pick_f rfl rfl hb6 rfl (sd rfl (yl_assign rfl rfl (SeqR.done (tn (CW.ret (rr rfl (.cons rfl .nil) ?_)))))))))
  have hM13 : (i_GoodKey p_s) = (false) := by simp only [i_GoodKey, hb6, cond_true, cond_false, loopE_done, loopE_ret]
  rw [hM13]
  exact ⟨rfl, (Ex.trans (Ex.refl w) hE5)⟩
set_option maxRecDepth 100000 in
set_option maxHeartbeats 2000000 in
theorem c_i_isGroup {w : World} (p_g : Int) : Cal Try.prog 220 #[.int .i64 (p_g)] w fun v w' => v = .bool ((i_isGroup p_g)) ∧ Ex w w' := by
 refine Cal.of (vs := [.int .i64 (p_g)]) Try.func220 rfl Try.ntmps220 rfl (CW.seq (CW.region (sd rfl (yl_assign rfl rfl (SeqR.done (tn (CW.seq (CW.region (sd rfl (yl_move rfl rfl ?_))))))))))
 refine sd rfl (yl_call Try.en77 rfl (opvs_cons rfl (opvs_cons rfl (opvs_cons rfl opvs_nil))) (Cal.mono (c_i_within p_g 0 3) ?_))
 rintro v2 w1 ⟨rfl, hE3⟩
 have hE3z := Ex.size hE3
 refine sd rfl (yl_assign rfl rfl (SeqR.done (tn (CW.ret (rr rfl (.cons rfl .nil) ?_)))))
 have hM4 : (i_isGroup p_g) = ((i_within p_g 0 3)) := by simp only [i_isGroup, cond_true, cond_false, loopE_done, loopE_ret]
 rw [hM4]
 exact ⟨rfl, (Ex.trans (Ex.refl w) hE3)⟩
set_option maxRecDepth 100000 in
set_option maxHeartbeats 2000000 in
theorem c_i_GoodItem {w : World} (p_c : DFeedItem) (o1 : ok_FeedItem p_c) : Cal Try.prog 197 #[.agg #[.int .i64 (p_c.Time), .int .i64 (p_c.Group), .string (bs (p_c.Key)), .string (bs (p_c.Val)), .bool (p_c.Gone)]] w fun v w' => v = .bool ((i_GoodItem p_c)) ∧ Ex w w' := by
 have hol2 : p_c.Key.length ≤ 1073741824 := o1.1
 have hol3 : p_c.Val.length ≤ 1073741824 := o1.2
 refine Cal.of (vs := [.agg #[.int .i64 (p_c.Time), .int .i64 (p_c.Group), .string (bs (p_c.Key)), .string (bs (p_c.Val)), .bool (p_c.Gone)]]) Try.func197 rfl Try.ntmps197 rfl (CW.seq (CW.region (sd rfl (yl_box (cs := [.int .i64 (p_c.Time), .int .i64 (p_c.Group), .string (bs (p_c.Key)), .string (bs (p_c.Val)), .bool (p_c.Gone)]) rfl rfl rfl ?_))))
 intro b4 w5 hs6 hz7 hB8 hE9
 refine sd rfl (yl_assign rfl rfl (SeqR.done (tn (CW.seq (CW.region (sd rfl (yl_fieldAddr Try.fd140_0 rfl rfl (sd rfl (yl_load1 Try.ty3 rfl rfl ((hB8.cell 0).trans rfl) (sd rfl (yl_call Try.en206 rfl (opvs_cons rfl opvs_nil) (Cal.mono (c_i_isTime p_c.Time) ?_))))))))))))
 rintro v11 w10 ⟨rfl, hE12⟩
 have hE12z := Ex.size hE12
 refine sd rfl (yl_move rfl rfl (bcase (i_isTime p_c.Time) (fun hb13 => ?_) (fun hb13 => ?_)))
 ·refine sy rfl rfl hb13 (yl_fieldAddr Try.fd140_1 rfl rfl ?_)
  have q14 := Box.ex hB8 hE12
  refine sy rfl rfl hb13 (yl_load1 Try.ty3 rfl rfl ((q14.cell 1).trans rfl) (sy rfl rfl hb13 (yl_call Try.en220 rfl (opvs_cons rfl opvs_nil) (Cal.mono (c_i_isGroup p_c.Group) ?_))))
  rintro v16 w15 ⟨rfl, hE17⟩
  have hE17z := Ex.size hE17
  refine sd rfl (yl_pick_t rfl rfl hb13 rfl (sd rfl (yl_move rfl rfl (bcase (i_isGroup p_c.Group) (fun hb18 => ?_) (fun hb18 => ?_)))))
  ·refine sy rfl rfl hb18 (yl_fieldAddr Try.fd140_2 rfl rfl ?_)
   have q19 := Box.ex q14 hE17
   refine sy rfl rfl hb18 (yl_load1 Try.ty9 rfl rfl ((q19.cell 2).trans rfl) (sy rfl rfl hb18 (yl_call Try.en207 rfl (opvs_cons rfl opvs_nil) (Cal.mono (c_i_GoodKey p_c.Key o1.1) ?_))))
   rintro v21 w20 ⟨rfl, hE22⟩
   have hE22z := Ex.size hE22
   refine sd rfl (yl_pick_t rfl rfl hb18 rfl (sd rfl (yl_move rfl rfl (bcase (i_GoodKey p_c.Key) (fun hb23 => ?_) (fun hb23 => ?_)))))
   ·refine sy rfl rfl hb23 (yl_fieldAddr Try.fd140_3 rfl rfl ?_)
    have q24 := Box.ex q19 hE22
    refine sy rfl rfl hb23 (yl_load1 Try.ty9 rfl rfl ((q24.cell 3).trans rfl) (sy rfl rfl hb23 (yl_fieldAddr Try.fd140_4 rfl rfl (sy rfl rfl hb23 (yl_load1 Try.ty4 rfl rfl ((q24.cell 4).trans rfl) (sy rfl rfl hb23 (yl_call Try.en186 rfl (opvs_cons rfl (opvs_cons rfl opvs_nil)) (Cal.mono (c_i_isStored p_c.Val p_c.Gone o1.2) ?_))))))))
    rintro v26 w25 ⟨rfl, hE27⟩
    have hE27z := Ex.size hE27
    refine sd rfl (yl_pick_t rfl rfl hb23 rfl (sd rfl (yl_assign rfl rfl (SeqR.done (tn (CW.ret (rr rfl (.cons rfl .nil) ?_)))))))
    have hM28 : (i_GoodItem p_c) = ((i_isStored p_c.Val p_c.Gone)) := by simp only [i_GoodItem, hb13, hb18, hb23, cond_true, cond_false, loopE_done, loopE_ret]
    rw [hM28]
    exact ⟨rfl, (Ex.trans (Ex.trans (Ex.trans (Ex.trans (Ex.trans (Ex.refl w) hE9) hE12) hE17) hE22) hE27)⟩
   ·refine sz rfl rfl hb23 (sz rfl rfl hb23 (sz rfl rfl hb23 (sz rfl rfl hb23 (sz rfl rfl hb23 (sd rfl (yl_pick_f rfl rfl hb23 rfl (sd rfl (yl_assign rfl rfl (SeqR.done (tn ?_))))))))))
    refine CW.ret (rr rfl (.cons rfl .nil) ?_)
    have hM34 : (i_GoodItem p_c) = (false) := by simp only [i_GoodItem, hb13, hb18, hb23, cond_true, cond_false, loopE_done, loopE_ret]
    rw [hM34]
    exact ⟨rfl, (Ex.trans (Ex.trans (Ex.trans (Ex.trans (Ex.refl w) hE9) hE12) hE17) hE22)⟩
  ·refine sz rfl rfl hb18 (sz rfl rfl hb18 (sz rfl rfl hb18 (sd rfl (yl_pick_f rfl rfl hb18 rfl (sd rfl (yl_move rfl rfl (sz rfl rfl rfl (sz rfl rfl rfl (sz rfl rfl rfl (sz rfl rfl rfl ?_))))))))))
   refine sz rfl rfl rfl (sd rfl (yl_pick_f rfl rfl rfl rfl (sd rfl (yl_assign rfl rfl (SeqR.done (tn (CW.ret (rr rfl (.cons rfl .nil) ?_))))))))
   have hM39 : (i_GoodItem p_c) = (false) := by simp only [i_GoodItem, hb13, hb18, cond_true, cond_false, loopE_done, loopE_ret]
   rw [hM39]
   exact ⟨rfl, (Ex.trans (Ex.trans (Ex.trans (Ex.refl w) hE9) hE12) hE17)⟩
 ·refine sz rfl rfl hb13 (sz rfl rfl hb13 (sz rfl rfl hb13 (sd rfl (yl_pick_f rfl rfl hb13 rfl (sd rfl (yl_move rfl rfl (sz rfl rfl rfl (sz rfl rfl rfl (sz rfl rfl rfl (sd rfl (yl_pick_f rfl rfl rfl rfl ?_)))))))))))
  refine sd rfl (yl_move rfl rfl (sz rfl rfl rfl (sz rfl rfl rfl (sz rfl rfl rfl (sz rfl rfl rfl (sz rfl rfl rfl (sd rfl (yl_pick_f rfl rfl rfl rfl (sd rfl (yl_assign rfl rfl (SeqR.done ?_)))))))))))
  refine tn (CW.ret (rr rfl (.cons rfl .nil) ?_))
  have hM43 : (i_GoodItem p_c) = (false) := by simp only [i_GoodItem, hb13, cond_true, cond_false, loopE_done, loopE_ret]
  rw [hM43]
  exact ⟨rfl, (Ex.trans (Ex.trans (Ex.refl w) hE9) hE12)⟩
set_option maxRecDepth 100000 in
set_option maxHeartbeats 2000000 in
theorem c_i_GoodFeed_c1 {w : World} (p_c : DFeedItem) (o1 : ok_FeedItem p_c) : Cal Try.prog 196 #[.agg #[.int .i64 (p_c.Time), .int .i64 (p_c.Group), .string (bs (p_c.Key)), .string (bs (p_c.Val)), .bool (p_c.Gone)]] w fun v w' => v = .bool ((i_GoodFeed_c1 p_c)) ∧ Ex w w' := by
 have hol2 : p_c.Key.length ≤ 1073741824 := o1.1
 have hol3 : p_c.Val.length ≤ 1073741824 := o1.2
 refine Cal.of (vs := [.agg #[.int .i64 (p_c.Time), .int .i64 (p_c.Group), .string (bs (p_c.Key)), .string (bs (p_c.Val)), .bool (p_c.Gone)]]) Try.func196 rfl Try.ntmps196 rfl (CW.seq (CW.region (sd rfl (yl_box (cs := [.int .i64 (p_c.Time), .int .i64 (p_c.Group), .string (bs (p_c.Key)), .string (bs (p_c.Val)), .bool (p_c.Gone)]) rfl rfl rfl ?_))))
 intro b4 w5 hs6 hz7 hB8 hE9
 refine sd rfl (yl_assign rfl rfl (SeqR.done (tn (CW.seq (CW.region (sd rfl (yl_loadN (cs := [.int .i64 (p_c.Time), .int .i64 (p_c.Group), .string (bs (p_c.Key)), .string (bs (p_c.Val)), .bool (p_c.Gone)]) Try.ty140 rfl rfl (hB8.cells (n := 5) rfl) rfl (sd rfl (yl_call Try.en197 rfl (opvs_cons rfl opvs_nil) (Cal.mono (c_i_GoodItem p_c o1) ?_))))))))))
 rintro v11 w10 ⟨rfl, hE12⟩
 have hE12z := Ex.size hE12
 refine sd rfl (yl_not rfl rfl (sd rfl (yl_assign rfl rfl (SeqR.done (tn (CW.ret (rr rfl (.cons rfl .nil) ?_)))))))
 have hM13 : (i_GoodFeed_c1 p_c) = (!(i_GoodItem p_c)) := by simp only [i_GoodFeed_c1, cond_true, cond_false, loopE_done, loopE_ret]
 rw [hM13]
 exact ⟨rfl, (Ex.trans (Ex.trans (Ex.refl w) hE9) hE12)⟩
set_option maxRecDepth 100000 in
set_option maxHeartbeats 2000000 in
theorem c_i_GoodFeed {A1 : Option Addr} {c1 : Nat} {w : World} (p_l : List DFeedItem) (h1 : RdS w (Iv 0 w.heap.size) (RF e_FeedItem) 5 A1 p_l.length c1 p_l) (o2 : (okL ok_FeedItem) p_l) : Cal Try.prog 150 #[.slice A1 p_l.length c1] w fun v w' => v = .bool ((i_GoodFeed p_l)) ∧ Ex w w' := by
 have hol3 := o2.1
 refine Cal.of (vs := [.slice A1 p_l.length c1]) Try.func150 rfl Try.ntmps150 rfl (CW.seq (CW.region (sd rfl (yl_assign rfl rfl (SeqR.done (tn (CW.seq (CW.region (sd rfl (yl_move rfl rfl ?_))))))))))
 refine sd rfl (yl_call Try.en195 rfl (opvs_cons rfl opvs_nil) (Cal.mono (c_i_isFeed p_l (RdS.up h1 good_FeedItem) o2) ?_))
 rintro v5 w4 ⟨rfl, hE6⟩
 have hE6z := Ex.size hE6
 refine sd rfl (yl_move rfl rfl (bcase (i_isFeed p_l) (fun hb7 => ?_) (fun hb7 => ?_)))
 ·refine sy rfl rfl hb7 (yl_move rfl rfl (sy rfl rfl hb7 (yl_call Try.en151 rfl (opvs_cons rfl (opvs_cons rfl opvs_nil)) (Cal.mono (c_g_slices_ContainsFunc_FeedItem p_l (fun y0 => i_GoodFeed_c1 y0) (RdS.up (RdS.ex good_FeedItem h1 hE6) good_FeedItem) Try.en196 (fun _ y0 => fun hE hm0 ov0 => c_i_GoodFeed_c1 y0 ov0) o2) ?_))))
  rintro v10 w9 ⟨rfl, hE11⟩
  have hE11z := Ex.size hE11
  refine sy rfl rfl hb7 (yl_not rfl rfl (sd rfl (yl_pick_t rfl rfl hb7 rfl (sd rfl (yl_assign rfl rfl (SeqR.done (tn (CW.ret (rr rfl (.cons rfl .nil) ?_)))))))))
  have hM12 : (i_GoodFeed p_l) = (!(g_slices_ContainsFunc_FeedItem p_l (fun y0 => i_GoodFeed_c1 y0))) := by simp only [i_GoodFeed, hb7, cond_true, cond_false, loopE_done, loopE_ret]
  rw [hM12]
  exact ⟨rfl, (Ex.trans (Ex.trans (Ex.refl w) hE6) hE11)⟩
 ·refine sz rfl rfl hb7 (sz rfl rfl hb7 (sz rfl rfl hb7 (sd rfl (yl_pick_f rfl rfl hb7 rfl (sd rfl (yl_assign rfl rfl (SeqR.done (tn (CW.ret (rr rfl (.cons rfl .nil) ?_))))))))))
  have hM15 : (i_GoodFeed p_l) = (false) := by simp only [i_GoodFeed, hb7, cond_true, cond_false, loopE_done, loopE_ret]
  rw [hM15]
  exact ⟨rfl, (Ex.trans (Ex.refl w) hE6)⟩
set_option maxRecDepth 100000 in
set_option maxHeartbeats 2000000 in
theorem c_i_GoodDiff_c1 {A2 : Option Addr} {c2 : Nat} {b3 : Nat} {w : World} (p_c : DFeedItem) (p_cap0 : DDiff) (h2 : RdS w (Iv 0 w.heap.size) (RF e_FeedItem) 5 A2 p_cap0.List.length c2 p_cap0.List) (h4 : Box w b3 85 [.int .i64 (p_cap0.From), .int .i64 (p_cap0.To), .slice A2 p_cap0.List.length c2]) (o1 : ok_FeedItem p_c) (o5 : ok_Diff p_cap0) : Cal Try.prog 152 #[.agg #[.int .i64 (p_c.Time), .int .i64 (p_c.Group), .string (bs (p_c.Key)), .string (bs (p_c.Val)), .bool (p_c.Gone)], .pointer (some ⟨b3, 0, none⟩)] w fun v w' => v = .bool ((i_GoodDiff_c1 p_c p_cap0)) ∧ Ex w w' := by
 have hol6 : p_c.Key.length ≤ 1073741824 := o1.1
 have hol7 : p_c.Val.length ≤ 1073741824 := o1.2
 have hol8 := o5.1
 refine Cal.of (vs := [.agg #[.int .i64 (p_c.Time), .int .i64 (p_c.Group), .string (bs (p_c.Key)), .string (bs (p_c.Val)), .bool (p_c.Gone)], .pointer (some ⟨b3, 0, none⟩)]) Try.func152 rfl Try.ntmps152 rfl (CW.seq (CW.region (sd rfl (yl_box (cs := [.int .i64 (p_c.Time), .int .i64 (p_c.Group), .string (bs (p_c.Key)), .string (bs (p_c.Val)), .bool (p_c.Gone)]) rfl rfl rfl ?_))))
 intro b9 w10 hs11 hz12 hB13 hE14
 refine sd rfl (yl_assign rfl rfl (SeqR.done (tn (CW.seq (CW.region (sd rfl (yl_fieldAddr Try.fd140_1 rfl rfl (sd rfl (yl_load1 Try.ty3 rfl rfl ((hB13.cell 1).trans rfl) (sd rfl (yl_neq rfl rfl rfl (sd rfl (yl_move rfl rfl ?_)))))))))))))
 refine bcase (decide (p_c.Group = 0)) (fun hb15 => ?_) (fun hb15 => ?_)
 ·have hb15p := dec_t hb15
  refine sy rfl rfl (not_t hb15) (yl_fieldAddr Try.fd140_0 rfl rfl (sy rfl rfl (not_t hb15) (yl_load1 Try.ty3 rfl rfl ((hB13.cell 0).trans rfl) (sy rfl rfl (not_t hb15) (yl_fieldAddr Try.fd85_0 rfl rfl ?_)))))
  have q16 := Box.ex h4 hE14
  refine sy rfl rfl (not_t hb15) (yl_load1 Try.ty3 rfl rfl ((q16.cell 0).trans rfl) (sy rfl rfl (not_t hb15) (yl_leq rfl rfl rfl (sd rfl (yl_pick_f rfl rfl (not_t hb15) rfl (sd rfl (yl_move rfl rfl (bcase (decide (p_c.Time ≤ p_cap0.From)) (fun hb17 => ?_) (fun hb17 => ?_)))))))))
  ·have hb17p := dec_t hb17
   refine sz rfl rfl hb17 (sz rfl rfl hb17 (sz rfl rfl hb17 (sz rfl rfl hb17 (sz rfl rfl hb17 (sd rfl (yl_pick_t rfl rfl hb17 rfl (sd rfl (yl_assign rfl rfl (SeqR.done (tn ?_))))))))))
   refine CW.ret (rr rfl (.cons rfl .nil) ?_)
   have hM18 : (i_GoodDiff_c1 p_c p_cap0) = (true) := by simp only [i_GoodDiff_c1, hb15, hb17, cond_true, cond_false, loopE_done, loopE_ret]
   rw [hM18]
   exact ⟨rfl, (Ex.trans (Ex.refl w) hE14)⟩
  ·have hb17p := dec_f hb17
   refine sy rfl rfl hb17 (yl_fieldAddr Try.fd140_0 rfl rfl (sy rfl rfl hb17 (yl_load1 Try.ty3 rfl rfl ((hB13.cell 0).trans rfl) (sy rfl rfl hb17 (yl_fieldAddr Try.fd85_1 rfl rfl (sy rfl rfl hb17 (yl_load1 Try.ty3 rfl rfl ((q16.cell 1).trans rfl) (sy rfl rfl hb17 (yl_gtr rfl rfl rfl (sd rfl (yl_pick_f rfl rfl hb17 rfl (sd rfl (yl_assign rfl rfl (SeqR.done (tn ?_)))))))))))))))
   refine CW.ret (rr rfl (.cons rfl .nil) ?_)
   have hM20 : (i_GoodDiff_c1 p_c p_cap0) = (decide (p_cap0.To < p_c.Time)) := by simp only [i_GoodDiff_c1, hb15, hb17, cond_true, cond_false, loopE_done, loopE_ret]
   rw [hM20]
   exact ⟨rfl, (Ex.trans (Ex.refl w) hE14)⟩
 ·have hb15p := dec_f hb15
  refine sz rfl rfl (not_f hb15) (sz rfl rfl (not_f hb15) (sz rfl rfl (not_f hb15) (sz rfl rfl (not_f hb15) (sz rfl rfl (not_f hb15) (sd rfl (yl_pick_t rfl rfl (not_f hb15) rfl (sd rfl (yl_move rfl rfl (sz rfl rfl rfl (sz rfl rfl rfl ?_))))))))))
  refine sz rfl rfl rfl (sz rfl rfl rfl (sz rfl rfl rfl (sd rfl (yl_pick_t rfl rfl rfl rfl (sd rfl (yl_assign rfl rfl (SeqR.done (tn (CW.ret (rr rfl (.cons rfl .nil) ?_))))))))))
  have hM22 : (i_GoodDiff_c1 p_c p_cap0) = (true) := by simp only [i_GoodDiff_c1, hb15, cond_true, cond_false, loopE_done, loopE_ret]
  rw [hM22]
  exact ⟨rfl, (Ex.trans (Ex.refl w) hE14)⟩
end Go.Proofs.Ytdbobbmagmcpnaa
