/- Stmt Text: what each call returns, part 3. -/
import Derived.Test.YtfmepgbpbbneaaaStmtTextC2
set_option linter.unusedVariables false
set_option linter.unusedSimpArgs false
namespace Go.Proofs.Ytfmepgbpbbneaaa
open Go.RowKit Go.X
set_option maxRecDepth 100000 in
set_option maxHeartbeats 2000000 in
theorem c_l_eqStmt {A1 : Option Addr} {c1 : Nat} {A2 : Option Addr} {c2 : Nat} {A3 : Option Addr} {c3 : Nat} {A4 : Option Addr} {c4 : Nat} {w : World} (p_a : DStmt) (p_b : DStmt) (h1 : RdS w (Iv 0 w.heap.size) (RF e_Str) 1 A1 p_a.Act.Old.Vals.length c1 p_a.Act.Old.Vals) (h2 : RdS w (Iv 0 w.heap.size) (RF e_Str) 1 A2 p_a.Act.New.Vals.length c2 p_a.Act.New.Vals) (h3 : RdS w (Iv 0 w.heap.size) (RF e_Str) 1 A3 p_b.Act.Old.Vals.length c3 p_b.Act.Old.Vals) (h4 : RdS w (Iv 0 w.heap.size) (RF e_Str) 1 A4 p_b.Act.New.Vals.length c4 p_b.Act.New.Vals) : Cal Try.prog 33 #[.agg #[.int .i64 (p_a.Kind), .int .i64 (p_a.Act.Kind), .slice A1 p_a.Act.Old.Vals.length c1, .slice A2 p_a.Act.New.Vals.length c2, .string (bs (p_a.Idx)), .string (bs (p_a.Low)), .string (bs (p_a.High))], .agg #[.int .i64 (p_b.Kind), .int .i64 (p_b.Act.Kind), .slice A3 p_b.Act.Old.Vals.length c3, .slice A4 p_b.Act.New.Vals.length c4, .string (bs (p_b.Idx)), .string (bs (p_b.Low)), .string (bs (p_b.High))]] w fun v w' => v = .bool ((l_eqStmt p_a p_b)) ∧ Ex w w' := by
 refine Cal.of (vs := [.agg #[.int .i64 (p_a.Kind), .int .i64 (p_a.Act.Kind), .slice A1 p_a.Act.Old.Vals.length c1, .slice A2 p_a.Act.New.Vals.length c2, .string (bs (p_a.Idx)), .string (bs (p_a.Low)), .string (bs (p_a.High))], .agg #[.int .i64 (p_b.Kind), .int .i64 (p_b.Act.Kind), .slice A3 p_b.Act.Old.Vals.length c3, .slice A4 p_b.Act.New.Vals.length c4, .string (bs (p_b.Idx)), .string (bs (p_b.Low)), .string (bs (p_b.High))]]) Try.func33 rfl Try.ntmps33 rfl (CW.seq (CW.region (sd rfl (yl_box (cs := [.int .i64 (p_a.Kind), .int .i64 (p_a.Act.Kind), .slice A1 p_a.Act.Old.Vals.length c1, .slice A2 p_a.Act.New.Vals.length c2, .string (bs (p_a.Idx)), .string (bs (p_a.Low)), .string (bs (p_a.High))]) rfl rfl rfl ?_))))
 intro b5 w6 hs7 hz8 hB9 hE10
 refine sd rfl (yl_box (cs := [.int .i64 (p_b.Kind), .int .i64 (p_b.Act.Kind), .slice A3 p_b.Act.Old.Vals.length c3, .slice A4 p_b.Act.New.Vals.length c4, .string (bs (p_b.Idx)), .string (bs (p_b.Low)), .string (bs (p_b.High))]) rfl rfl rfl ?_)
 intro b11 w12 hs13 hz14 hB15 hE16
 refine sd rfl (yl_assign rfl rfl (SeqR.done (tn (CW.seq (CW.seq (CW.region (sd rfl (yl_fieldAddr Try.fd76_0 rfl rfl ?_))))))))
 have q17 := Box.ex hB9 hE16
 refine sd rfl (yl_load1 Try.ty3 rfl rfl ((q17.cell 0).trans rfl) (sd rfl (yl_fieldAddr Try.fd76_0 rfl rfl (sd rfl (yl_load1 Try.ty3 rfl rfl ((hB15.cell 0).trans rfl) (sd rfl (yl_neq rfl rfl rfl (SeqR.done (tn (bcase (decide (p_a.Kind = p_b.Kind)) (fun hb18 => ?_) (fun hb18 => ?_)))))))))))
 ·have hb18p := dec_t hb18
  refine CW.cond_f rfl (not_t hb18) (CW.skip (tn (CW.seq (CW.seq (CW.region (sd rfl (yl_fieldAddr Try.fd76_1 rfl rfl (sd rfl (yl_loadN (cs := [.int .i64 (p_a.Act.Kind), .slice A1 p_a.Act.Old.Vals.length c1, .slice A2 p_a.Act.New.Vals.length c2]) Try.ty74 rfl rfl (q17.cells (n := 3) rfl) rfl (sd rfl (yl_fieldAddr Try.fd76_1 rfl rfl ?_)))))))))))
  refine sd rfl (yl_loadN (cs := [.int .i64 (p_b.Act.Kind), .slice A3 p_b.Act.Old.Vals.length c3, .slice A4 p_b.Act.New.Vals.length c4]) Try.ty74 rfl rfl (hB15.cells (n := 3) rfl) rfl (sd rfl (yl_call Try.en85 rfl (opvs_cons rfl (opvs_cons rfl opvs_nil)) (Cal.mono (c_l_eqRowAct p_a.Act p_b.Act (RdS.up (RdS.ex good_Str (RdS.ex good_Str h1 hE10) hE16) good_Str) (RdS.up (RdS.ex good_Str (RdS.ex good_Str h2 hE10) hE16) good_Str) (RdS.up (RdS.ex good_Str (RdS.ex good_Str h3 hE10) hE16) good_Str) (RdS.up (RdS.ex good_Str (RdS.ex good_Str h4 hE10) hE16) good_Str)) ?_))))
  rintro v28 w27 ⟨rfl, hE29⟩
  have hE29z := Ex.size hE29
  refine sd rfl (yl_not rfl rfl (SeqR.done (tn (bcase (l_eqRowAct p_a.Act p_b.Act) (fun hb30 => ?_) (fun hb30 => ?_)))))
  ·refine CW.cond_f rfl (not_t hb30) (CW.skip (tn (CW.seq (CW.seq (CW.region (sd rfl (yl_fieldAddr Try.fd76_2 rfl rfl ?_)))))))
   have q31 := Box.ex q17 hE29
   refine sd rfl (yl_load1 Try.ty9 rfl rfl ((q31.cell 4).trans rfl) (sd rfl (yl_fieldAddr Try.fd76_2 rfl rfl ?_)))
   have q32 := Box.ex hB15 hE29
   refine sd rfl (yl_load1 Try.ty9 rfl rfl ((q32.cell 4).trans rfl) (sd rfl (yl_sneq (a := p_a.Idx) (b := p_b.Idx) rfl rfl rfl (SeqR.done (tn (bcase (p_a.Idx == p_b.Idx) (fun hb33 => ?_) (fun hb33 => ?_)))))))
   ·refine CW.cond_f rfl (not_t hb33) (CW.skip (tn (CW.seq (CW.seq (CW.region (sd rfl (yl_fieldAddr Try.fd76_3 rfl rfl (sd rfl (yl_load1 Try.ty9 rfl rfl ((q31.cell 5).trans rfl) (sd rfl (yl_fieldAddr Try.fd76_3 rfl rfl ?_)))))))))))
    refine sd rfl (yl_load1 Try.ty9 rfl rfl ((q32.cell 5).trans rfl) (sd rfl (yl_sneq (a := p_a.Low) (b := p_b.Low) rfl rfl rfl (SeqR.done (tn (bcase (p_a.Low == p_b.Low) (fun hb34 => ?_) (fun hb34 => ?_)))))))
    ·refine CW.cond_f rfl (not_t hb34) (CW.skip (tn (CW.seq (CW.seq (CW.region (sd rfl (yl_fieldAddr Try.fd76_4 rfl rfl (sd rfl (yl_load1 Try.ty9 rfl rfl ((q31.cell 6).trans rfl) (sd rfl (yl_fieldAddr Try.fd76_4 rfl rfl ?_)))))))))))
     refine sd rfl (yl_load1 Try.ty9 rfl rfl ((q32.cell 6).trans rfl) (sd rfl (yl_sneq (a := p_a.High) (b := p_b.High) rfl rfl rfl (SeqR.done (tn (bcase (p_a.High == p_b.High) (fun hb35 => ?_) (fun hb35 => ?_)))))))
     ·refine CW.cond_f rfl (not_t hb35) (CW.skip (tn (CW.seq (CW.region (sd rfl (yl_assign rfl rfl (SeqR.done (tn (CW.ret ?_)))))))))
      refine rr rfl (.cons rfl .nil) ?_
      have hM36 : (l_eqStmt p_a p_b) = (true) := by simp only [l_eqStmt, hb18, hb30, hb33, hb34, hb35, cond_true, cond_false, loopE_done, loopE_ret]
      rw [hM36]
      exact ⟨rfl, (Ex.trans (Ex.trans (Ex.trans (Ex.refl w) hE10) hE16) hE29)⟩
     ·refine CW.cond_t rfl (not_f hb35) (CW.seq (CW.region (sd rfl (yl_assign rfl rfl (SeqR.done (tn (CW.ret (tr (rr rfl (.cons rfl .nil) ?_)))))))))
      have hM40 : (l_eqStmt p_a p_b) = (false) := by simp only [l_eqStmt, hb18, hb30, hb33, hb34, hb35, cond_true, cond_false, loopE_done, loopE_ret]
      rw [hM40]
      exact ⟨rfl, (Ex.trans (Ex.trans (Ex.trans (Ex.refl w) hE10) hE16) hE29)⟩
    ·refine CW.cond_t rfl (not_f hb34) (CW.seq (CW.region (sd rfl (yl_assign rfl rfl (SeqR.done (tn (CW.ret (tr (rr rfl (.cons rfl .nil) ?_)))))))))
     have hM44 : (l_eqStmt p_a p_b) = (false) := by simp only [l_eqStmt, hb18, hb30, hb33, hb34, cond_true, cond_false, loopE_done, loopE_ret]
     rw [hM44]
     exact ⟨rfl, (Ex.trans (Ex.trans (Ex.trans (Ex.refl w) hE10) hE16) hE29)⟩
   ·refine CW.cond_t rfl (not_f hb33) (CW.seq (CW.region (sd rfl (yl_assign rfl rfl (SeqR.done (tn (CW.ret (tr (rr rfl (.cons rfl .nil) ?_)))))))))
    have hM48 : (l_eqStmt p_a p_b) = (false) := by simp only [l_eqStmt, hb18, hb30, hb33, cond_true, cond_false, loopE_done, loopE_ret]
    rw [hM48]
    exact ⟨rfl, (Ex.trans (Ex.trans (Ex.trans (Ex.refl w) hE10) hE16) hE29)⟩
  ·refine CW.cond_t rfl (not_f hb30) (CW.seq (CW.region (sd rfl (yl_assign rfl rfl (SeqR.done (tn (CW.ret (tr (rr rfl (.cons rfl .nil) ?_)))))))))
   have hM52 : (l_eqStmt p_a p_b) = (false) := by simp only [l_eqStmt, hb18, hb30, cond_true, cond_false, loopE_done, loopE_ret]
   rw [hM52]
   exact ⟨rfl, (Ex.trans (Ex.trans (Ex.trans (Ex.refl w) hE10) hE16) hE29)⟩
 ·have hb18p := dec_f hb18
  refine CW.cond_t rfl (not_f hb18) (CW.seq (CW.region (sd rfl (yl_assign rfl rfl (SeqR.done (tn (CW.ret (tr (rr rfl (.cons rfl .nil) ?_)))))))))
  have hM56 : (l_eqStmt p_a p_b) = (false) := by simp only [l_eqStmt, hb18, cond_true, cond_false, loopE_done, loopE_ret]
  rw [hM56]
  exact ⟨rfl, (Ex.trans (Ex.trans (Ex.refl w) hE10) hE16)⟩
set_option maxRecDepth 100000 in
set_option maxHeartbeats 2000000 in
theorem c_l_FnExactStmtText {A1 : Option Addr} {c1 : Nat} {A2 : Option Addr} {c2 : Nat} {A3 : Option Addr} {c3 : Nat} {A4 : Option Addr} {c4 : Nat} {w : World} (p_aT : DTable) (p_aS : DStmt) (h1 : RdS w (Iv 0 w.heap.size) (RF e_Str) 1 A1 p_aT.Cols.length c1 p_aT.Cols) (h2 : RdS w (Iv 0 w.heap.size) (RF e_Idx) 3 A2 p_aT.Idxs.length c2 p_aT.Idxs) (h3 : RdS w (Iv 0 w.heap.size) (RF e_Str) 1 A3 p_aS.Act.Old.Vals.length c3 p_aS.Act.Old.Vals) (h4 : RdS w (Iv 0 w.heap.size) (RF e_Str) 1 A4 p_aS.Act.New.Vals.length c4 p_aS.Act.New.Vals) (pre0 : wf_Table p_aT) (pre1 : wf_Stmt p_aS) : Cal Try.prog 6 #[.agg #[.string (bs (p_aT.Name)), .slice A1 p_aT.Cols.length c1, .slice A2 p_aT.Idxs.length c2], .agg #[.int .i64 (p_aS.Kind), .int .i64 (p_aS.Act.Kind), .slice A3 p_aS.Act.Old.Vals.length c3, .slice A4 p_aS.Act.New.Vals.length c4, .string (bs (p_aS.Idx)), .string (bs (p_aS.Low)), .string (bs (p_aS.High))]] w fun v w' => v = .bool ((l_FnExactStmtText p_aT p_aS)) ∧ Ex w w' := by
 refine Cal.of (vs := [.agg #[.string (bs (p_aT.Name)), .slice A1 p_aT.Cols.length c1, .slice A2 p_aT.Idxs.length c2], .agg #[.int .i64 (p_aS.Kind), .int .i64 (p_aS.Act.Kind), .slice A3 p_aS.Act.Old.Vals.length c3, .slice A4 p_aS.Act.New.Vals.length c4, .string (bs (p_aS.Idx)), .string (bs (p_aS.Low)), .string (bs (p_aS.High))]]) Try.func6 rfl Try.ntmps6 rfl (CW.seq (CW.region (sd rfl (yl_box (cs := [.string (bs (p_aT.Name)), .slice A1 p_aT.Cols.length c1, .slice A2 p_aT.Idxs.length c2]) rfl rfl rfl ?_))))
 intro b5 w6 hs7 hz8 hB9 hE10
 refine sd rfl (yl_box (cs := [.int .i64 (p_aS.Kind), .int .i64 (p_aS.Act.Kind), .slice A3 p_aS.Act.Old.Vals.length c3, .slice A4 p_aS.Act.New.Vals.length c4, .string (bs (p_aS.Idx)), .string (bs (p_aS.Low)), .string (bs (p_aS.High))]) rfl rfl rfl ?_)
 intro b11 w12 hs13 hz14 hB15 hE16
 refine sd rfl (yl_assign rfl rfl (SeqR.done (tn (CW.seq (CW.region (sd rfl (yl_assign rfl rfl (SeqR.done (tn (CW.seq ?_))))))))))
 refine CW.region ?_
 have q17 := Box.ex hB9 hE16
 refine sd rfl (yl_loadN (cs := [.string (bs (p_aT.Name)), .slice A1 p_aT.Cols.length c1, .slice A2 p_aT.Idxs.length c2]) Try.ty48 rfl rfl (q17.cells (n := 3) rfl) rfl (sd rfl (yl_move rfl rfl ?_)))
 have q19 := RdS.ex good_Str (RdS.ex good_Str h1 hE10) hE16
 have q21 := RdS.ex good_Idx (RdS.ex good_Idx h2 hE10) hE16
 refine sd rfl (yl_call Try.en20 rfl (opvs_cons rfl (opvs_cons rfl opvs_nil)) (Cal.mono (c_l_szTable p_aT 1048576 (RdS.up q19 good_Str) (RdS.up q21 good_Idx)) ?_))
 rintro v23 w22 ⟨rfl, hE24⟩
 have hE24z := Ex.size hE24
 refine sd rfl (yl_assign rfl rfl (SeqR.done (tn (CW.seq (CW.seq (CW.region (sd rfl (yl_move rfl rfl (sd rfl (yl_lss rfl rfl rfl (SeqR.done ?_)))))))))))
 refine tn (bcase (decide ((l_szTable p_aT 1048576) < 0)) (fun hb25 => ?_) (fun hb25 => ?_))
 ·have hb25p := dec_t hb25
  refine CW.cond_t rfl hb25 (CW.seq (CW.region (sd rfl (yl_assign rfl rfl (SeqR.done (tn (CW.ret (tr (rr rfl (.cons rfl .nil) ?_)))))))))
  have hM26 : (l_FnExactStmtText p_aT p_aS) = (true) := by simp only [l_FnExactStmtText, hb25, cond_true, cond_false, loopE_done, loopE_ret]
  rw [hM26]
  exact ⟨rfl, (Ex.trans (Ex.trans (Ex.trans (Ex.refl w) hE10) hE16) hE24)⟩
 ·have hb25p := dec_f hb25
  refine CW.cond_f rfl hb25 (CW.skip (tn (CW.seq (CW.region ?_))))
  have q30 := Box.ex hB15 hE24
  refine sd rfl (yl_loadN (cs := [.int .i64 (p_aS.Kind), .int .i64 (p_aS.Act.Kind), .slice A3 p_aS.Act.Old.Vals.length c3, .slice A4 p_aS.Act.New.Vals.length c4, .string (bs (p_aS.Idx)), .string (bs (p_aS.Low)), .string (bs (p_aS.High))]) Try.ty70 rfl rfl (q30.cells (n := 7) rfl) rfl (sd rfl (yl_move rfl rfl ?_)))
  have q33 := RdS.ex good_Str (RdS.ex good_Str (RdS.ex good_Str h3 hE10) hE16) hE24
  have q36 := RdS.ex good_Str (RdS.ex good_Str (RdS.ex good_Str h4 hE10) hE16) hE24
  refine sd rfl (yl_call Try.en29 rfl (opvs_cons rfl (opvs_cons rfl opvs_nil)) (Cal.mono (c_l_szStmt p_aS (l_szTable p_aT 1048576) (RdS.up q33 good_Str) (RdS.up q36 good_Str)) ?_))
  rintro v38 w37 ⟨rfl, hE39⟩
  have hE39z := Ex.size hE39
  refine sd rfl (yl_assign rfl rfl (SeqR.done (tn (CW.seq (CW.seq (CW.region (sd rfl (yl_move rfl rfl (sd rfl (yl_lss rfl rfl rfl (SeqR.done ?_)))))))))))
  refine tn (bcase (decide ((l_szStmt p_aS (l_szTable p_aT 1048576)) < 0)) (fun hb40 => ?_) (fun hb40 => ?_))
  ·have hb40p := dec_t hb40
   refine CW.cond_t rfl hb40 (CW.seq (CW.region (sd rfl (yl_assign rfl rfl (SeqR.done (tn (CW.ret (tr (rr rfl (.cons rfl .nil) ?_)))))))))
   have hM41 : (l_FnExactStmtText p_aT p_aS) = (true) := by simp only [l_FnExactStmtText, hb25, hb40, cond_true, cond_false, loopE_done, loopE_ret]
   rw [hM41]
   exact ⟨rfl, (Ex.trans (Ex.trans (Ex.trans (Ex.trans (Ex.refl w) hE10) hE16) hE24) hE39)⟩
  ·have hb40p := dec_f hb40
   refine CW.cond_f rfl hb40 (CW.skip (tn (CW.seq ?_)))
   have q47 := Box.ex (Box.ex q17 hE24) hE39
   have q49 := RdS.ex good_Str (RdS.ex good_Str q19 hE24) hE39
   have q51 := RdS.ex good_Idx (RdS.ex good_Idx q21 hE24) hE39
   have q55 := Box.ex q30 hE39
   have q56 := RdS.ex good_Str q33 hE39
   have q57 := RdS.ex good_Str q36 hE39
   refine CW.drawsI 10 (vgetI [DetI (.agg #[.string (bs (p_aT.Name)), .slice A1 p_aT.Cols.length c1, .slice A2 p_aT.Idxs.length c2]), fun lo hi v wq => ∃ A53 c53 lo53 hi53 A54 c54 lo54 hi54, v = .agg #[.string (bs (p_aT.Name)), .slice A53 p_aT.Cols.length c53, .slice A54 p_aT.Idxs.length c54] ∧ OwnL wq lo53 hi53 9 1 (RF e_Str) A53 p_aT.Cols.length c53 p_aT.Cols ∧ OwnL wq lo54 hi54 177 3 (RF e_Idx) A54 p_aT.Idxs.length c54 p_aT.Idxs ∧ (lo ≤ lo53 ∧ lo53 ≤ hi53 ∧ hi53 ≤ hi) ∧ (lo ≤ lo54 ∧ lo54 ≤ hi54 ∧ hi54 ≤ hi) ∧ (hi53 ≤ lo54 ∨ hi54 ≤ lo53), DetI (.agg #[.int .i64 (p_aS.Kind), .int .i64 (p_aS.Act.Kind), .slice A3 p_aS.Act.Old.Vals.length c3, .slice A4 p_aS.Act.New.Vals.length c4, .string (bs (p_aS.Idx)), .string (bs (p_aS.Low)), .string (bs (p_aS.High))]), fun lo hi v wq => ∃ A59 c59 lo59 hi59 A60 c60 lo60 hi60, v = .agg #[.int .i64 (p_aS.Kind), .int .i64 (p_aS.Act.Kind), .slice A59 p_aS.Act.Old.Vals.length c59, .slice A60 p_aS.Act.New.Vals.length c60, .string (bs (p_aS.Idx)), .string (bs (p_aS.Low)), .string (bs (p_aS.High))] ∧ OwnL wq lo59 hi59 9 1 (RF e_Str) A59 p_aS.Act.Old.Vals.length c59 p_aS.Act.Old.Vals ∧ OwnL wq lo60 hi60 9 1 (RF e_Str) A60 p_aS.Act.New.Vals.length c60 p_aS.Act.New.Vals ∧ (lo ≤ lo59 ∧ lo59 ≤ hi59 ∧ hi59 ≤ hi) ∧ (lo ≤ lo60 ∧ lo60 ≤ hi60 ∧ hi60 ≤ hi) ∧ (hi59 ≤ lo60 ∨ hi60 ≤ lo59), DetI (.tuple #[.string (bs ((s_StmtText p_aT p_aS).1)), .bool ((s_StmtText p_aT p_aS).2)]), DetI (.tuple #[.string (bs ((s_StmtText p_aT p_aS).1)), .bool ((s_StmtText p_aT p_aS).2)]), DetI (.string (bs ((s_StmtText p_aT p_aS).1))), DetI (.bool ((s_StmtText p_aT p_aS).2)), DetI (.string (bs ((s_StmtText p_aT p_aS).1))), DetI (.bool ((s_StmtText p_aT p_aS).2))]) Try.follows rfl rfl rfl rfl rfl rfl (vgetI_stable ⟨StableI.det _, (fun _ _ _ _ _ ⟨A53, c53, lo53, hi53, A54, c54, lo54, hi54, hv, h53, h54, hr0, hr1, hr2⟩ e => ⟨A53, c53, lo53, hi53, A54, c54, lo54, hi54, hv, OwnL.ex good_Str h53 e, OwnL.ex good_Idx h54 e, hr0, hr1, hr2⟩), StableI.det _, (fun _ _ _ _ _ ⟨A59, c59, lo59, hi59, A60, c60, lo60, hi60, hv, h59, h60, hr0, hr1, hr2⟩ e => ⟨A59, c59, lo59, hi59, A60, c60, lo60, hi60, hv, OwnL.ex good_Str h59 e, OwnL.ex good_Str h60 e, hr0, hr1, hr2⟩), StableI.det _, StableI.det _, StableI.det _, StableI.det _, StableI.det _, StableI.det _, trivial⟩) ⟨?_, ?_, ?_, ?_, ?_, ?_, ?_, ?_, ?_, ?_, trivial⟩ ?_
   ·exact fun _ _ h => os rfl ((yl_loadN (cs := [.string (bs (p_aT.Name)), .slice A1 p_aT.Cols.length c1, .slice A2 p_aT.Idxs.length c2]) Try.ty48 rfl (h.old 2 _ rfl rfl) ((Box.ex q47 h.ex).cells (n := 3) rfl) rfl kI))
   ·intro L68 w69 hi70
    have hE71 := hi70.ex
    refine OpR.op' rfl (yl_call Try.en23 rfl (opvs_cons (hi70.dt 0 23 rfl rfl rfl) opvs_nil) (Cal.mono (c_l_toTable p_aT (RdS.up (RdS.ex good_Str q49 hE71) good_Str) (RdS.up (RdS.ex good_Idx q51 hE71) good_Idx) ((szok_Table pre0 (by decide) (dec_f hb25)).1)) ?_))
    rintro v78 w75 ⟨A76, c76, lo76, hi76, A77, c77, lo77, hi77, rfl, h76, h77, hrn80, hrn81, hrn82, hE79⟩
    exact ⟨⟨A76, c76, lo76, hi76, A77, c77, lo77, hi77, rfl, h76, h77, hrn80, hrn81, hrn82⟩, hE79⟩
   ·exact fun _ _ h => os rfl ((yl_loadN (cs := [.int .i64 (p_aS.Kind), .int .i64 (p_aS.Act.Kind), .slice A3 p_aS.Act.Old.Vals.length c3, .slice A4 p_aS.Act.New.Vals.length c4, .string (bs (p_aS.Idx)), .string (bs (p_aS.Low)), .string (bs (p_aS.High))]) Try.ty70 rfl (h.old 3 _ rfl rfl) ((Box.ex q55 h.ex).cells (n := 7) rfl) rfl kI))
   ·intro L89 w90 hi91
    have hE92 := hi91.ex
    refine OpR.op' rfl (yl_call Try.en31 rfl (opvs_cons (hi91.dt 2 25 rfl rfl rfl) opvs_nil) (Cal.mono (c_l_toStmt p_aS (RdS.up (RdS.ex good_Str q56 hE92) good_Str) (RdS.up (RdS.ex good_Str q57 hE92) good_Str) ((szok_Stmt pre1 (szok_Table pre0 (by decide) (dec_f hb25)).2 (dec_f hb40)).1)) ?_))
    rintro v99 w96 ⟨A97, c97, lo97, hi97, A98, c98, lo98, hi98, rfl, h97, h98, hrn101, hrn102, hrn103, hE100⟩
    exact ⟨⟨A97, c97, lo97, hi97, A98, c98, lo98, hi98, rfl, h97, h98, hrn101, hrn102, hrn103⟩, hE100⟩
   ·intro L104 w105 hi106
    obtain ⟨lo109, hh110, _, hx108, hr111, hr112, hr113, A53_114, c53_115, lo53_116, hi53_117, A54_118, c54_119, lo54_120, hi54_121, rfl, h122, h123, hrn124, hrn125, hrn126⟩ := hi106.dep 1 24 rfl rfl
    obtain ⟨lo128, hh129, _, hx127, hr130, hr131, hr132, A59_133, c59_134, lo59_135, hi59_136, A60_137, c60_138, lo60_139, hi60_140, rfl, h141, h142, hrn143, hrn144, hrn145⟩ := hi106.dep 3 26 rfl rfl
    refine OpR.op' rfl (yl_call Try.en30 rfl (opvs_cons hx108 (opvs_cons hx127 opvs_nil)) (Cal.mono (c_s_StmtText p_aT p_aS (RdS.up (OwnL.rd good_Str h122) good_Str) (RdS.up (OwnL.rd good_Idx h123) good_Idx) (RdS.up (OwnL.rd good_Str h141) good_Str) (RdS.up (OwnL.rd good_Str h142) good_Str) ((szok_Table pre0 (by decide) (dec_f hb25)).1) ((szok_Stmt pre1 (szok_Table pre0 (by decide) (dec_f hb25)).2 (dec_f hb40)).1)) ?_))
    rintro v151 w150 ⟨rfl, hE152⟩
    exact ⟨rfl, hE152⟩
   ·exact fun _ _ h => os rfl ((yl_move rfl (h.dt 4 27 rfl rfl rfl) kI))
   ·exact fun _ _ h => os rfl ((yl_extract rfl (h.dt 5 22 rfl rfl rfl) rfl kI))
   ·exact fun _ _ h => os rfl ((yl_extract rfl (h.dt 5 22 rfl rfl rfl) rfl kI))
   ·exact fun _ _ h => os rfl ((yl_assign rfl (h.dt 6 28 rfl rfl rfl) kI))
   ·exact fun _ _ h => os rfl ((yl_assign rfl (h.dt 7 29 rfl rfl rfl) kI))
   ·intro fl181 fh182 L178 w179 hp180
    have hE183 := hp180.ex
    have hE183z := Ex.size hE183
    have hr187 := hp180.rng 1 rfl
    obtain ⟨_, hx186, A53_188, c53_189, lo53_190, hi53_191, A54_192, c54_193, lo54_194, hi54_195, rfl, h196, h197, hrn198, hrn199, hrn200⟩ := hp180.new 1 24 rfl rfl
    have hr202 := hp180.rng 3 rfl
    have hsp203 := hp180.sep 1 3 rfl rfl rfl
    obtain ⟨_, hx201, A59_204, c59_205, lo59_206, hi59_207, A60_208, c60_209, lo60_210, hi60_211, rfl, h212, h213, hrn214, hrn215, hrn216⟩ := hp180.new 3 26 rfl rfl
    refine SeqR.done (tn (CW.sub (Sub.cons (d := 2) (hp180.old 2 _ rfl rfl) (Sub.cons (d := 3) (hp180.old 3 _ rfl rfl) (Sub.cons (d := 6) (hp180.nt 8 6 rfl rfl rfl) (Sub.cons (d := 7) (hp180.nt 9 7 rfl rfl rfl) (Sub.nil _))))) (CW.seq (CW.region ?_))))
    have q219 := Box.ex q47 hE183
    refine sd rfl (yl_loadN (cs := [.string (bs (p_aT.Name)), .slice A1 p_aT.Cols.length c1, .slice A2 p_aT.Idxs.length c2]) Try.ty48 rfl rfl (q219.cells (n := 3) rfl) rfl ?_)
    have q220 := RdS.ex good_Str q49 hE183
    have q221 := RdS.ex good_Idx q51 hE183
    refine sd rfl (yl_call Try.en23 rfl (opvs_cons rfl opvs_nil) (Cal.mono (c_l_toTable p_aT (RdS.up q220 good_Str) (RdS.up q221 good_Idx) ((szok_Table pre0 (by decide) (dec_f hb25)).1)) ?_))
    rintro v225 w222 ⟨A223, c223, lo223, hi223, A224, c224, lo224, hi224, rfl, h223, h224, hrn227, hrn228, hrn229, hE226⟩
    have hE226z := Ex.size hE226
    refine sd rfl (yl_alloc Try.ty59 (cs := [.string (bs (([] : Str))), .slice none 0 0, .slice none 0 0]) rfl rfl ?_)
    intro b230 w231 hs232 hz233 hB234 hE235
    refine SeqR.u rfl rfl (yl_store (vs := [.string (bs (p_aT.Name)), .slice A223 p_aT.Cols.length c223, .slice A224 p_aT.Idxs.length c224]) Try.ty59 rfl rfl rfl rfl rfl rfl hB234 (Nat.le_of_ble_eq_true rfl) ?_)
    intro w236 hB237 hO238
    have hB237 : Box w236 b230 59 [.string (bs (p_aT.Name)), .slice A223 p_aT.Cols.length c223, .slice A224 p_aT.Idxs.length c224] := hB237
    have hO238z := hO238.size
    refine SeqR.done (tn (CW.seq (CW.region ?_)))
    have q242 := Box.only (Box.ex (Box.ex (Box.ex q55 hE183) hE226) hE235) hO238 (by omega)
    refine sd rfl (yl_loadN (cs := [.int .i64 (p_aS.Kind), .int .i64 (p_aS.Act.Kind), .slice A3 p_aS.Act.Old.Vals.length c3, .slice A4 p_aS.Act.New.Vals.length c4, .string (bs (p_aS.Idx)), .string (bs (p_aS.Low)), .string (bs (p_aS.High))]) Try.ty70 rfl rfl (q242.cells (n := 7) rfl) rfl ?_)
    have q246 := RdS.only good_Str (RdS.ex good_Str (RdS.ex good_Str (RdS.ex good_Str q56 hE183) hE226) hE235) hO238 (by simp only [Iv]; omega)
    have q250 := RdS.only good_Str (RdS.ex good_Str (RdS.ex good_Str (RdS.ex good_Str q57 hE183) hE226) hE235) hO238 (by simp only [Iv]; omega)
    refine sd rfl (yl_call Try.en31 rfl (opvs_cons rfl opvs_nil) (Cal.mono (c_l_toStmt p_aS (RdS.up q246 good_Str) (RdS.up q250 good_Str) ((szok_Stmt pre1 (szok_Table pre0 (by decide) (dec_f hb25)).2 (dec_f hb40)).1)) ?_))
    rintro v254 w251 ⟨A252, c252, lo252, hi252, A253, c253, lo253, hi253, rfl, h252, h253, hrn256, hrn257, hrn258, hE255⟩
    have hE255z := Ex.size hE255
    refine sd rfl (yl_alloc Try.ty76 (cs := [.int .i64 (0), .int .i64 (0), .slice none 0 0, .slice none 0 0, .string (bs (([] : Str))), .string (bs (([] : Str))), .string (bs (([] : Str)))]) rfl rfl ?_)
    intro b259 w260 hs261 hz262 hB263 hE264
    refine SeqR.u rfl rfl (yl_store (vs := [.int .i64 (p_aS.Kind), .int .i64 (p_aS.Act.Kind), .slice A252 p_aS.Act.Old.Vals.length c252, .slice A253 p_aS.Act.New.Vals.length c253, .string (bs (p_aS.Idx)), .string (bs (p_aS.Low)), .string (bs (p_aS.High))]) Try.ty76 rfl rfl rfl rfl rfl rfl hB263 (Nat.le_of_ble_eq_true rfl) ?_)
    intro w265 hB266 hO267
    have hB266 : Box w265 b259 76 [.int .i64 (p_aS.Kind), .int .i64 (p_aS.Act.Kind), .slice A252 p_aS.Act.Old.Vals.length c252, .slice A253 p_aS.Act.New.Vals.length c253, .string (bs (p_aS.Idx)), .string (bs (p_aS.Low)), .string (bs (p_aS.High))] := hB266
    have hO267z := hO267.size
    refine SeqR.done (tn (CW.seq (CW.region ?_)))
    have q270 := Box.only (Box.ex (Box.ex hB237 hE255) hE264) hO267 (by omega)
    refine sd rfl (yl_loadN (cs := [.string (bs (p_aT.Name)), .slice A223 p_aT.Cols.length c223, .slice A224 p_aT.Idxs.length c224]) Try.ty59 rfl rfl (q270.cells (n := 3) rfl) rfl (sd rfl (yl_loadN (cs := [.int .i64 (p_aS.Kind), .int .i64 (p_aS.Act.Kind), .slice A252 p_aS.Act.Old.Vals.length c252, .slice A253 p_aS.Act.New.Vals.length c253, .string (bs (p_aS.Idx)), .string (bs (p_aS.Low)), .string (bs (p_aS.High))]) Try.ty76 rfl rfl (hB266.cells (n := 7) rfl) rfl ?_)))
    have q276 := OwnL.only good_Str (OwnL.ex good_Str (OwnL.ex good_Str (OwnL.only good_Str (OwnL.ex good_Str h223 hE235) hO238 (by omega)) hE255) hE264) hO267 (by omega)
    have q282 := OwnL.only good_Idx (OwnL.ex good_Idx (OwnL.ex good_Idx (OwnL.only good_Idx (OwnL.ex good_Idx h224 hE235) hO238 (by omega)) hE255) hE264) hO267 (by omega)
    have q285 := OwnL.only good_Str (OwnL.ex good_Str h252 hE264) hO267 (by omega)
    have q288 := OwnL.only good_Str (OwnL.ex good_Str h253 hE264) hO267 (by omega)
    refine sd rfl (yl_call Try.en32 rfl (opvs_cons rfl (opvs_cons rfl opvs_nil)) (Cal.mono (c_i_StmtText p_aT p_aS (RdS.up (OwnL.rd good_Str q276) good_Str) (RdS.up (OwnL.rd good_Idx q282) good_Idx) (RdS.up (OwnL.rd good_Str q285) good_Str) (RdS.up (OwnL.rd good_Str q288) good_Str) ((szok_Table pre0 (by decide) (dec_f hb25)).1) ((szok_Stmt pre1 (szok_Table pre0 (by decide) (dec_f hb25)).2 (dec_f hb40)).1)) ?_))
    rintro v290 w289 ⟨rfl, hE291⟩
    have hE291z := Ex.size hE291
    refine sd rfl (yl_move rfl rfl (sd rfl (yl_extract rfl rfl rfl (sd rfl (yl_extract rfl rfl rfl (sd rfl (yl_assign rfl rfl (sd rfl (yl_assign rfl rfl (SeqR.done (tn (CW.seq (CW.seq ?_)))))))))))))
    refine CW.region (sd rfl (yl_move rfl rfl (sd rfl (yl_move rfl rfl (sd rfl (yl_sneq (a := ((i_StmtText p_aT p_aS).1)) (b := ((s_StmtText p_aT p_aS).1)) rfl rfl rfl (sd rfl (yl_move rfl rfl (bcase (((i_StmtText p_aT p_aS).1) == ((s_StmtText p_aT p_aS).1)) (fun hb292 => ?_) (fun hb292 => ?_))))))))))
    ·refine sy rfl rfl (not_t hb292) (yl_move rfl rfl (sy rfl rfl (not_t hb292) (yl_move rfl rfl (sy rfl rfl (not_t hb292) (yl_bneq Try.un4 rfl rfl rfl (sd rfl (yl_pick_f rfl rfl (not_t hb292) rfl (SeqR.done (tn (bcase (((i_StmtText p_aT p_aS).2) == ((s_StmtText p_aT p_aS).2)) (fun hb293 => ?_) (fun hb293 => ?_)))))))))))
     ·refine CW.cond_f rfl (not_t hb293) (CW.skip (tn (CW.seq (CW.seq (CW.drawsI 5 (vgetI [DetI (.agg #[.string (bs (p_aT.Name)), .slice A223 p_aT.Cols.length c223, .slice A224 p_aT.Idxs.length c224]), DetI (.agg #[.string (bs (p_aT.Name)), .slice A1 p_aT.Cols.length c1, .slice A2 p_aT.Idxs.length c2]), fun lo hi v wq => ∃ A317 c317 lo317 hi317 A318 c318 lo318 hi318, v = .agg #[.string (bs (p_aT.Name)), .slice A317 p_aT.Cols.length c317, .slice A318 p_aT.Idxs.length c318] ∧ OwnL wq lo317 hi317 9 1 (RF e_Str) A317 p_aT.Cols.length c317 p_aT.Cols ∧ OwnL wq lo318 hi318 177 3 (RF e_Idx) A318 p_aT.Idxs.length c318 p_aT.Idxs ∧ (lo ≤ lo317 ∧ lo317 ≤ hi317 ∧ hi317 ≤ hi) ∧ (lo ≤ lo318 ∧ lo318 ≤ hi318 ∧ hi318 ≤ hi) ∧ (hi317 ≤ lo318 ∨ hi318 ≤ lo317), DetI (.bool ((l_eqTable p_aT p_aT))), DetI (.bool (!(l_eqTable p_aT p_aT)))]) Try.follows rfl rfl rfl rfl rfl rfl (vgetI_stable ⟨StableI.det _, StableI.det _, (fun _ _ _ _ _ ⟨A317, c317, lo317, hi317, A318, c318, lo318, hi318, hv, h317, h318, hr0, hr1, hr2⟩ e => ⟨A317, c317, lo317, hi317, A318, c318, lo318, hi318, hv, OwnL.ex good_Str h317 e, OwnL.ex good_Idx h318 e, hr0, hr1, hr2⟩), StableI.det _, StableI.det _, trivial⟩) ⟨?_, ?_, ?_, ?_, ?_, trivial⟩ ?_)))))
      ·exact fun _ _ h => os rfl ((yl_loadN (cs := [.string (bs (p_aT.Name)), .slice A223 p_aT.Cols.length c223, .slice A224 p_aT.Idxs.length c224]) Try.ty59 rfl (h.old 8 _ rfl rfl) ((Box.ex (Box.ex q270 hE291) h.ex).cells (n := 3) rfl) rfl kI))
      ·intro L330 w331 hi332
       have hE333 := hi332.ex
       have hE333z := Ex.size hE333
       exact os rfl ((yl_loadN (cs := [.string (bs (p_aT.Name)), .slice A1 p_aT.Cols.length c1, .slice A2 p_aT.Idxs.length c2]) Try.ty48 rfl (hi332.old 2 _ rfl rfl) ((Box.ex (Box.ex (Box.only (Box.ex (Box.ex (Box.only (Box.ex (Box.ex q219 hE226) hE235) hO238 (by omega)) hE255) hE264) hO267 (by omega)) hE291) hE333).cells (n := 3) rfl) rfl kI))
      ·intro L336 w337 hi338
       have hE339 := hi338.ex
       have hE339z := Ex.size hE339
       refine OpR.op' rfl (yl_call Try.en23 rfl (opvs_cons (hi338.dt 1 49 rfl rfl rfl) opvs_nil) (Cal.mono (c_l_toTable p_aT (RdS.up (RdS.ex good_Str (RdS.ex good_Str (RdS.only good_Str (RdS.ex good_Str (RdS.ex good_Str (RdS.only good_Str (RdS.ex good_Str (RdS.ex good_Str q220 hE226) hE235) hO238 (by simp only [Iv]; omega)) hE255) hE264) hO267 (by simp only [Iv]; omega)) hE291) hE339) good_Str) (RdS.up (RdS.ex good_Idx (RdS.ex good_Idx (RdS.only good_Idx (RdS.ex good_Idx (RdS.ex good_Idx (RdS.only good_Idx (RdS.ex good_Idx (RdS.ex good_Idx q221 hE226) hE235) hO238 (by simp only [Iv]; omega)) hE255) hE264) hO267 (by simp only [Iv]; omega)) hE291) hE339) good_Idx) ((szok_Table pre0 (by decide) (dec_f hb25)).1)) ?_))
       rintro v346 w343 ⟨A344, c344, lo344, hi344, A345, c345, lo345, hi345, rfl, h344, h345, hrn348, hrn349, hrn350, hE347⟩
       exact ⟨⟨A344, c344, lo344, hi344, A345, c345, lo345, hi345, rfl, h344, h345, hrn348, hrn349, hrn350⟩, hE347⟩
      ·intro L351 w352 hi353
       have hE354 := hi353.ex
       obtain ⟨lo357, hh358, _, hx356, hr359, hr360, hr361, A317_362, c317_363, lo317_364, hi317_365, A318_366, c318_367, lo318_368, hi318_369, rfl, h370, h371, hrn372, hrn373, hrn374⟩ := hi353.dep 2 50 rfl rfl
       refine OpR.op' rfl (yl_call Try.en27 rfl (opvs_cons (hi353.dt 0 48 rfl rfl rfl) (opvs_cons hx356 opvs_nil)) (Cal.mono (c_l_eqTable p_aT p_aT (RdS.up (OwnL.rd good_Str (OwnL.ex good_Str (OwnL.ex good_Str q276 hE291) hE354)) good_Str) (RdS.up (OwnL.rd good_Idx (OwnL.ex good_Idx (OwnL.ex good_Idx q282 hE291) hE354)) good_Idx) (RdS.up (OwnL.rd good_Str h370) good_Str) (RdS.up (OwnL.rd good_Idx h371) good_Idx)) ?_))
       rintro v382 w381 ⟨rfl, hE383⟩
       exact ⟨rfl, hE383⟩
      ·exact fun _ _ h => os rfl ((yl_not rfl (h.dt 3 51 rfl rfl rfl) kI))
      ·intro fl392 fh393 L389 w390 hp391
       have hE394 := hp391.ex
       have hE394z := Ex.size hE394
       have hr398 := hp391.rng 2 rfl
       obtain ⟨_, hx397, A317_399, c317_400, lo317_401, hi317_402, A318_403, c318_404, lo318_405, hi318_406, rfl, h407, h408, hrn409, hrn410, hrn411⟩ := hp391.new 2 50 rfl rfl
       refine SeqR.done (tn (CW.sub (Sub.cons (d := 3) (hp391.old 3 _ rfl rfl) (Sub.cons (d := 9) (hp391.old 9 _ rfl rfl) (Sub.cons (d := 52) (hp391.nt 4 52 rfl rfl rfl) (Sub.nil _)))) (bcase (l_eqTable p_aT p_aT) (fun hb413 => ?_) (fun hb413 => ?_))))
       ·refine CW.cond_f rfl (not_t hb413) (CW.skip (tn (CW.seq (CW.seq (CW.drawsI 5 (vgetI [DetI (.agg #[.int .i64 (p_aS.Kind), .int .i64 (p_aS.Act.Kind), .slice A252 p_aS.Act.Old.Vals.length c252, .slice A253 p_aS.Act.New.Vals.length c253, .string (bs (p_aS.Idx)), .string (bs (p_aS.Low)), .string (bs (p_aS.High))]), DetI (.agg #[.int .i64 (p_aS.Kind), .int .i64 (p_aS.Act.Kind), .slice A3 p_aS.Act.Old.Vals.length c3, .slice A4 p_aS.Act.New.Vals.length c4, .string (bs (p_aS.Idx)), .string (bs (p_aS.Low)), .string (bs (p_aS.High))]), fun lo hi v wq => ∃ A432 c432 lo432 hi432 A433 c433 lo433 hi433, v = .agg #[.int .i64 (p_aS.Kind), .int .i64 (p_aS.Act.Kind), .slice A432 p_aS.Act.Old.Vals.length c432, .slice A433 p_aS.Act.New.Vals.length c433, .string (bs (p_aS.Idx)), .string (bs (p_aS.Low)), .string (bs (p_aS.High))] ∧ OwnL wq lo432 hi432 9 1 (RF e_Str) A432 p_aS.Act.Old.Vals.length c432 p_aS.Act.Old.Vals ∧ OwnL wq lo433 hi433 9 1 (RF e_Str) A433 p_aS.Act.New.Vals.length c433 p_aS.Act.New.Vals ∧ (lo ≤ lo432 ∧ lo432 ≤ hi432 ∧ hi432 ≤ hi) ∧ (lo ≤ lo433 ∧ lo433 ≤ hi433 ∧ hi433 ≤ hi) ∧ (hi432 ≤ lo433 ∨ hi433 ≤ lo432), DetI (.bool ((l_eqStmt p_aS p_aS))), DetI (.bool (!(l_eqStmt p_aS p_aS)))]) Try.follows rfl rfl rfl rfl rfl rfl (vgetI_stable ⟨StableI.det _, StableI.det _, (fun _ _ _ _ _ ⟨A432, c432, lo432, hi432, A433, c433, lo433, hi433, hv, h432, h433, hr0, hr1, hr2⟩ e => ⟨A432, c432, lo432, hi432, A433, c433, lo433, hi433, hv, OwnL.ex good_Str h432 e, OwnL.ex good_Str h433 e, hr0, hr1, hr2⟩), StableI.det _, StableI.det _, trivial⟩) ⟨?_, ?_, ?_, ?_, ?_, trivial⟩ ?_)))))
        ·exact fun _ _ h => os rfl ((yl_loadN (cs := [.int .i64 (p_aS.Kind), .int .i64 (p_aS.Act.Kind), .slice A252 p_aS.Act.Old.Vals.length c252, .slice A253 p_aS.Act.New.Vals.length c253, .string (bs (p_aS.Idx)), .string (bs (p_aS.Low)), .string (bs (p_aS.High))]) Try.ty76 rfl (h.old 9 _ rfl rfl) ((Box.ex (Box.ex (Box.ex hB266 hE291) hE394) h.ex).cells (n := 7) rfl) rfl kI))
        ·intro L447 w448 hi449
         have hE450 := hi449.ex
         have hE450z := Ex.size hE450
         exact os rfl ((yl_loadN (cs := [.int .i64 (p_aS.Kind), .int .i64 (p_aS.Act.Kind), .slice A3 p_aS.Act.Old.Vals.length c3, .slice A4 p_aS.Act.New.Vals.length c4, .string (bs (p_aS.Idx)), .string (bs (p_aS.Low)), .string (bs (p_aS.High))]) Try.ty70 rfl (hi449.old 3 _ rfl rfl) ((Box.ex (Box.ex (Box.ex (Box.only (Box.ex (Box.ex q242 hE255) hE264) hO267 (by omega)) hE291) hE394) hE450).cells (n := 7) rfl) rfl kI))
        ·intro L453 w454 hi455
         have hE456 := hi455.ex
         have hE456z := Ex.size hE456
         refine OpR.op' rfl (yl_call Try.en31 rfl (opvs_cons (hi455.dt 1 54 rfl rfl rfl) opvs_nil) (Cal.mono (c_l_toStmt p_aS (RdS.up (RdS.ex good_Str (RdS.ex good_Str (RdS.ex good_Str (RdS.only good_Str (RdS.ex good_Str (RdS.ex good_Str q246 hE255) hE264) hO267 (by simp only [Iv]; omega)) hE291) hE394) hE456) good_Str) (RdS.up (RdS.ex good_Str (RdS.ex good_Str (RdS.ex good_Str (RdS.only good_Str (RdS.ex good_Str (RdS.ex good_Str q250 hE255) hE264) hO267 (by simp only [Iv]; omega)) hE291) hE394) hE456) good_Str) ((szok_Stmt pre1 (szok_Table pre0 (by decide) (dec_f hb25)).2 (dec_f hb40)).1)) ?_))
         rintro v463 w460 ⟨A461, c461, lo461, hi461, A462, c462, lo462, hi462, rfl, h461, h462, hrn465, hrn466, hrn467, hE464⟩
         exact ⟨⟨A461, c461, lo461, hi461, A462, c462, lo462, hi462, rfl, h461, h462, hrn465, hrn466, hrn467⟩, hE464⟩
        ·intro L468 w469 hi470
         have hE471 := hi470.ex
         obtain ⟨lo474, hh475, _, hx473, hr476, hr477, hr478, A432_479, c432_480, lo432_481, hi432_482, A433_483, c433_484, lo433_485, hi433_486, rfl, h487, h488, hrn489, hrn490, hrn491⟩ := hi470.dep 2 55 rfl rfl
         refine OpR.op' rfl (yl_call Try.en33 rfl (opvs_cons (hi470.dt 0 53 rfl rfl rfl) (opvs_cons hx473 opvs_nil)) (Cal.mono (c_l_eqStmt p_aS p_aS (RdS.up (OwnL.rd good_Str (OwnL.ex good_Str (OwnL.ex good_Str (OwnL.ex good_Str q285 hE291) hE394) hE471)) good_Str) (RdS.up (OwnL.rd good_Str (OwnL.ex good_Str (OwnL.ex good_Str (OwnL.ex good_Str q288 hE291) hE394) hE471)) good_Str) (RdS.up (OwnL.rd good_Str h487) good_Str) (RdS.up (OwnL.rd good_Str h488) good_Str)) ?_))
         rintro v499 w498 ⟨rfl, hE500⟩
         exact ⟨rfl, hE500⟩
        ·exact fun _ _ h => os rfl ((yl_not rfl (h.dt 3 56 rfl rfl rfl) kI))
        ·intro fl509 fh510 L506 w507 hp508
         have hE511 := hp508.ex
         have hE511z := Ex.size hE511
         have hr513 := hp508.rng 2 rfl
         obtain ⟨_, hx512, A432_514, c432_515, lo432_516, hi432_517, A433_518, c433_519, lo433_520, hi433_521, rfl, h522, h523, hrn524, hrn525, hrn526⟩ := hp508.new 2 55 rfl rfl
         refine SeqR.done (tn (CW.sub (Sub.cons (d := 57) (hp508.nt 4 57 rfl rfl rfl) (Sub.nil _)) (bcase (l_eqStmt p_aS p_aS) (fun hb528 => ?_) (fun hb528 => ?_))))
         ·refine CW.cond_f rfl (not_t hb528) (CW.skip (tn (CW.seq (CW.region (sd rfl (yl_assign rfl rfl (SeqR.done (tn (CW.ret ?_)))))))))
          refine rr rfl (.cons rfl .nil) ?_
          have hM529 : (l_FnExactStmtText p_aT p_aS) = (true) := by simp only [l_FnExactStmtText, hb25, hb40, hb292, hb293, hb413, hb528, cond_true, cond_false, loopE_done, loopE_ret]
          rw [hM529]
          exact ⟨rfl, (Ex.trans (Ex.trans (Ex.trans (Below.only (Ex.trans (Ex.trans (Below.only (Ex.trans (Ex.trans (Ex.trans (Ex.trans (Ex.trans (Ex.trans (Ex.trans (Ex.refl w) hE10) hE16) hE24) hE39) hE183) hE226) hE235) hO238 (by omega)) hE255) hE264) hO267 (by omega)) hE291) hE394) hE511)⟩
         ·refine CW.cond_t rfl (not_f hb528) (CW.seq (CW.region (sd rfl (yl_assign rfl rfl (SeqR.done (tn (CW.ret (tr (rr rfl (.cons rfl .nil) ?_)))))))))
          have hM544 : (l_FnExactStmtText p_aT p_aS) = (false) := by simp only [l_FnExactStmtText, hb25, hb40, hb292, hb293, hb413, hb528, cond_true, cond_false, loopE_done, loopE_ret]
          rw [hM544]
          exact ⟨rfl, (Ex.trans (Ex.trans (Ex.trans (Below.only (Ex.trans (Ex.trans (Below.only (Ex.trans (Ex.trans (Ex.trans (Ex.trans (Ex.trans (Ex.trans (Ex.trans (Ex.refl w) hE10) hE16) hE24) hE39) hE183) hE226) hE235) hO238 (by omega)) hE255) hE264) hO267 (by omega)) hE291) hE394) hE511)⟩
       ·refine CW.cond_t rfl (not_f hb413) (CW.seq (CW.region (sd rfl (yl_assign rfl rfl (SeqR.done (tn (CW.ret (tr (rr rfl (.cons rfl .nil) ?_)))))))))
        have hM559 : (l_FnExactStmtText p_aT p_aS) = (false) := by simp only [l_FnExactStmtText, hb25, hb40, hb292, hb293, hb413, cond_true, cond_false, loopE_done, loopE_ret]
        rw [hM559]
        exact ⟨rfl, (Ex.trans (Ex.trans (Below.only (Ex.trans (Ex.trans (Below.only (Ex.trans (Ex.trans (Ex.trans (Ex.trans (Ex.trans (Ex.trans (Ex.trans (Ex.refl w) hE10) hE16) hE24) hE39) hE183) hE226) hE235) hO238 (by omega)) hE255) hE264) hO267 (by omega)) hE291) hE394)⟩
     ·refine CW.cond_t rfl (not_f hb293) (CW.seq (CW.region (sd rfl (yl_assign rfl rfl (SeqR.done (tn (CW.ret (tr (rr rfl (.cons rfl .nil) ?_)))))))))
      have hM573 : (l_FnExactStmtText p_aT p_aS) = (false) := by simp only [l_FnExactStmtText, hb25, hb40, hb292, hb293, cond_true, cond_false, loopE_done, loopE_ret]
      rw [hM573]
      exact ⟨rfl, (Ex.trans (Below.only (Ex.trans (Ex.trans (Below.only (Ex.trans (Ex.trans (Ex.trans (Ex.trans (Ex.trans (Ex.trans (Ex.trans (Ex.refl w) hE10) hE16) hE24) hE39) hE183) hE226) hE235) hO238 (by omega)) hE255) hE264) hO267 (by omega)) hE291)⟩
    ·refine sz rfl rfl (not_f hb292) (sz rfl rfl (not_f hb292) (sz rfl rfl (not_f hb292) (sd rfl (yl_pick_t rfl rfl (not_f hb292) rfl (SeqR.done (tn (CW.cond_t rfl rfl (CW.seq (CW.region ?_)))))))))
     refine sd rfl (yl_assign rfl rfl (SeqR.done (tn (CW.ret (tr (rr rfl (.cons rfl .nil) ?_))))))
     have hM586 : (l_FnExactStmtText p_aT p_aS) = (false) := by simp only [l_FnExactStmtText, hb25, hb40, hb292, cond_true, cond_false, loopE_done, loopE_ret]
     rw [hM586]
     exact ⟨rfl, (Ex.trans (Below.only (Ex.trans (Ex.trans (Below.only (Ex.trans (Ex.trans (Ex.trans (Ex.trans (Ex.trans (Ex.trans (Ex.trans (Ex.refl w) hE10) hE16) hE24) hE39) hE183) hE226) hE235) hO238 (by omega)) hE255) hE264) hO267 (by omega)) hE291)⟩
end Go.Proofs.Ytfmepgbpbbneaaa
