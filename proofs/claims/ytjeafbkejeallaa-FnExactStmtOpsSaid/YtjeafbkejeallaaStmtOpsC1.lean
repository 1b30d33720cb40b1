/- Stmt Ops: what each call returns, part 1. -/
import Derived.Test.YtjeafbkejeallaaStmtOpsL
import Derived.Test.YtjeafbkejeallaaStmtOpsF
import Derived.Test.YtjeafbkejeallaaStmtOpsS
set_option linter.unusedVariables false
set_option linter.unusedSimpArgs false
namespace Go.Proofs.Ytjeafbkejeallaa
open Go.RowKit Go.X
set_option maxRecDepth 100000 in
set_option maxHeartbeats 2000000 in
theorem c_l_szStringS {A1 : Option Addr} {c1 : Nat} {w : World} (p_a : List Str) (p_left : Int) (h1 : RdS w (Iv 0 w.heap.size) (RF e_Str) 1 A1 p_a.length c1 p_a) : Cal Try.prog 101 #[.slice A1 p_a.length c1, .int .i64 (p_left)] w fun v w' => v = .int .i64 ((l_szStringS p_a p_left)) ∧ Ex w w' := by
 refine Cal.of (vs := [.slice A1 p_a.length c1, .int .i64 (p_left)]) Try.func101 rfl Try.ntmps101 rfl (CW.seq (CW.region (sd rfl (yl_assign rfl rfl (SeqR.done (tn (CW.seq (CW.region (sd rfl (yl_move rfl rfl ?_))))))))))
 refine sd rfl (yl_move rfl rfl (sd rfl (yl_len Try.un52 rfl rfl (sd rfl (yl_sub rfl rfl rfl (sd rfl (yl_assign rfl rfl (SeqR.done (tn (CW.seq (CW.seq (CW.region ?_))))))))))))
 refine sd rfl (yl_move rfl rfl (sd rfl (yl_lss rfl rfl rfl (SeqR.done (tn (bcase (decide ((IntKind.wrap .i64 (p_left - (p_a.length : Int))) < 0)) (fun hb2 => ?_) (fun hb2 => ?_)))))))
 ·have hb2p := dec_t hb2
  refine CW.cond_t rfl hb2 (CW.seq (CW.region (sd rfl (yl_assign rfl rfl (SeqR.done (tn (CW.ret (tr (rr rfl (.cons rfl .nil) ?_)))))))))
  have hM3 : (l_szStringS p_a p_left) = (-1) := by simp only [l_szStringS, hb2, cond_true, cond_false, loopE_done, loopE_ret]
  rw [hM3]
  exact ⟨rfl, (Ex.refl w)⟩
 ·have hb2p := dec_f hb2
  refine CW.cond_f rfl hb2 (CW.skip (tn (CW.seq (CW.seq (CW.region (sd rfl (yl_assign rfl rfl (SeqR.done (tn ?_)))))))))
  refine CW.block (CW.loop (fun m6 L7 w8 => ∃ (k4 : Nat) (x5 : Int), m6 = p_a.length - k4 ∧ k4 ≤ p_a.length ∧ w.heap.size ≤ w8.heap.size ∧ lkp L7 0 = some (.slice A1 p_a.length c1) ∧ lkp L7 1 = some (.int .i64 (x5)) ∧ lkp L7 5 = some (.int .i64 ((k4 : Int))) ∧ RdS w8 (Iv 0 w.heap.size) (RF e_Str) 1 A1 p_a.length c1 p_a ∧ Ex w w8 ∧ loopM (B_l_szStringS_0 p_a p_left) (p_a.length - k4) k4 (x5) = loopM (B_l_szStringS_0 p_a p_left) (p_a.length - 0) 0 (IntKind.wrap .i64 (p_left - (p_a.length : Int)))) (p_a.length - 0) ?_ ?_)
  ·exact ⟨0, IntKind.wrap .i64 (p_left - (p_a.length : Int)), rfl, (by omega), Nat.le_refl _, rfl, rfl, rfl, h1, (Ex.refl w), rfl⟩
  ·rintro m9 L10 w11 ⟨k4, x5, rfl, hk12, hsz14, hl15, hl16, hl17, hf18, hf19, hI13⟩
   refine CW.sub (Sub.cons hl15 (Sub.cons hl16 (Sub.cons hl17 (Sub.nil _)))) ?_
   have hf19z := Ex.size hf19
   have hbg20 := RdS.big hf18
   rcases Nat.lt_or_ge k4 p_a.length with hlt21 | hlt21
   ·refine CW.seq (CW.seq (CW.region (sd rfl (yl_move rfl rfl (sd rfl (yl_move rfl rfl (sd rfl (yl_len Try.un52 rfl rfl (sd rfl (yl_lss rfl rfl rfl (SeqR.done (tn ?_))))))))))))
    refine CW.cond_t rfl (lt_t hlt21) (CW.skip (tn (CW.seq (CW.block (CW.seq (CW.region (sd rfl (yl_move rfl rfl (sd rfl (yl_move rfl rfl ?_))))))))))
    refine sd rfl (yl_move rfl rfl ?_)
    obtain ⟨eb22, eo22, ec22, eA22, eS22, ebl22, el22, eR22, eC22⟩ := RdS.atD hf18 d_Str (i := k4) (by first | omega | assumption)
    obtain rfl := eR22
    have eC22 : Cells w11 eb22 (eo22 + k4 * 1) [.string (bs ((p_a.getD k4 d_Str)))] := eC22
    refine sd rfl (yl_indexAddrN Try.un52 Try.ty9 rfl rfl rfl eA22 (by first | omega | assumption | (simp only [IntKind.wrap_i64] at *; omega)) (sd rfl (yl_load1 Try.ty9 rfl rfl (eC22 0 _ rfl) (sd rfl (yl_slen Try.un9 (a := (p_a.getD k4 d_Str)) rfl rfl (sd rfl (yl_sub rfl rfl rfl (sd rfl (yl_assign rfl rfl (SeqR.done (tn (CW.seq (CW.region ?_)))))))))))))
    refine sd rfl (yl_move rfl rfl (sd rfl (yl_lss rfl rfl rfl (SeqR.done (tn (bcase (decide ((IntKind.wrap .i64 (x5 - ((p_a.getD k4 d_Str).length : Int))) < 0)) (fun hb23 => ?_) (fun hb23 => ?_)))))))
    ·have hb23p := dec_t hb23
     refine CW.cond_t rfl hb23 (CW.seq (CW.region (sd rfl (yl_assign rfl rfl (SeqR.done (tn (CW.ret (br (tr ?_)))))))))
     refine tr ?_
     have hB25 : B_l_szStringS_0 p_a p_left k4 (x5) = .ret (-1) := by simp only [B_l_szStringS_0, hb2, hb23, cond_true, cond_false, loopE_done, loopE_ret]
     have hL24 : loopM (B_l_szStringS_0 p_a p_left) (p_a.length - 0) 0 (IntKind.wrap .i64 (p_left - (p_a.length : Int))) = .ret (-1) := hI13.symm.trans (loopM.ret hlt21 hB25)
     refine br (tr (rr rfl (.cons rfl .nil) ?_))
     have hM26 : (l_szStringS p_a p_left) = (-1) := by simp only [l_szStringS, hb2, hb23, hL24, cond_true, cond_false, loopE_done, loopE_ret]
     rw [hM26]
     exact ⟨rfl, hf19⟩
    ·have hb23p := dec_f hb23
     refine CW.cond_f rfl hb23 (CW.skip (bn (tn (CW.region (sd rfl (yl_move rfl rfl (sd rfl (yl_inc rfl rfl rfl (by omega) (sd rfl (yl_assign rfl rfl (SeqR.done ?_)))))))))))
     refine tn ?_
     have hB27 : B_l_szStringS_0 p_a p_left k4 (x5) = .cont (IntKind.wrap .i64 (x5 - ((p_a.getD k4 d_Str).length : Int))) := by simp only [B_l_szStringS_0, hb2, hb23, cond_true, cond_false, loopE_done, loopE_ret]
     exact ⟨p_a.length - (k4 + 1), by omega, k4 + 1, IntKind.wrap .i64 (x5 - ((p_a.getD k4 d_Str).length : Int)), rfl, hlt21, (by omega), rfl, rfl, rfl, hf18, hf19, (loopM.cont hlt21 hB27).symm.trans hI13⟩
   ·refine CW.seq (CW.seq (CW.region (sd rfl (yl_move rfl rfl (sd rfl (yl_move rfl rfl (sd rfl (yl_len Try.un52 rfl rfl (sd rfl (yl_lss rfl rfl rfl (SeqR.done (tn ?_))))))))))))
    refine CW.cond_f rfl (lt_f hlt21) (CW.exit (tx (tx ?_)))
    have hL28 : loopM (B_l_szStringS_0 p_a p_left) (p_a.length - 0) 0 (IntKind.wrap .i64 (p_left - (p_a.length : Int))) = .done (x5) := hI13.symm.trans (loopM.stop hlt21)
    refine bx (tn (CW.seq (CW.region (sd rfl (yl_move rfl rfl (sd rfl (yl_assign rfl rfl (SeqR.done (tn (CW.ret ?_))))))))))
    refine rr rfl (.cons rfl .nil) ?_
    have hM29 : (l_szStringS p_a p_left) = (x5) := by simp only [l_szStringS, hb2, hL28, cond_true, cond_false, loopE_done, loopE_ret]
    rw [hM29]
    exact ⟨rfl, hf19⟩
set_option maxRecDepth 100000 in
set_option maxHeartbeats 2000000 in
theorem c_l_szIdx {w : World} (p_a : DIdx) (p_left : Int) : Cal Try.prog 159 #[.agg #[.string (bs (p_a.Name)), .int .i64 (p_a.Col), .int .i64 (p_a.Stage)], .int .i64 (p_left)] w fun v w' => v = .int .i64 ((l_szIdx p_a p_left)) ∧ Ex w w' := by
 refine Cal.of (vs := [.agg #[.string (bs (p_a.Name)), .int .i64 (p_a.Col), .int .i64 (p_a.Stage)], .int .i64 (p_left)]) Try.func159 rfl Try.ntmps159 rfl (CW.seq (CW.region (sd rfl (yl_box (cs := [.string (bs (p_a.Name)), .int .i64 (p_a.Col), .int .i64 (p_a.Stage)]) rfl rfl rfl ?_))))
 intro b1 w2 hs3 hz4 hB5 hE6
 refine sd rfl (yl_assign rfl rfl (SeqR.done (tn (CW.seq (CW.region (sd rfl (yl_move rfl rfl (sd rfl (yl_fieldAddr Try.fd202_0 rfl rfl (sd rfl (yl_load1 Try.ty9 rfl rfl ((hB5.cell 0).trans rfl) (sd rfl (yl_slen Try.un9 (a := p_a.Name) rfl rfl ?_)))))))))))))
 refine sd rfl (yl_sub rfl rfl rfl (sd rfl (yl_assign rfl rfl (SeqR.done (tn (CW.seq (CW.seq (CW.region (sd rfl (yl_move rfl rfl (sd rfl (yl_lss rfl rfl rfl ?_))))))))))))
 refine SeqR.done (tn (bcase (decide ((IntKind.wrap .i64 (p_left - (p_a.Name.length : Int))) < 0)) (fun hb7 => ?_) (fun hb7 => ?_)))
 ·have hb7p := dec_t hb7
  refine CW.cond_t rfl hb7 (CW.seq (CW.region (sd rfl (yl_assign rfl rfl (SeqR.done (tn (CW.ret (tr (rr rfl (.cons rfl .nil) ?_)))))))))
  have hM8 : (l_szIdx p_a p_left) = (-1) := by simp only [l_szIdx, hb7, cond_true, cond_false, loopE_done, loopE_ret]
  rw [hM8]
  exact ⟨rfl, (Ex.trans (Ex.refl w) hE6)⟩
 ·have hb7p := dec_f hb7
  refine CW.cond_f rfl hb7 (CW.skip (tn (CW.seq (CW.region (sd rfl (yl_move rfl rfl (sd rfl (yl_assign rfl rfl (SeqR.done (tn ?_))))))))))
  refine CW.ret (rr rfl (.cons rfl .nil) ?_)
  have hM10 : (l_szIdx p_a p_left) = (IntKind.wrap .i64 (p_left - (p_a.Name.length : Int))) := by simp only [l_szIdx, hb7, cond_true, cond_false, loopE_done, loopE_ret]
  rw [hM10]
  exact ⟨rfl, (Ex.trans (Ex.refl w) hE6)⟩
set_option maxRecDepth 100000 in
set_option maxHeartbeats 2000000 in
theorem c_l_szIdxS {A1 : Option Addr} {c1 : Nat} {w : World} (p_a : List DIdx) (p_left : Int) (h1 : RdS w (Iv 0 w.heap.size) (RF e_Idx) 3 A1 p_a.length c1 p_a) : Cal Try.prog 102 #[.slice A1 p_a.length c1, .int .i64 (p_left)] w fun v w' => v = .int .i64 ((l_szIdxS p_a p_left)) ∧ Ex w w' := by
 refine Cal.of (vs := [.slice A1 p_a.length c1, .int .i64 (p_left)]) Try.func102 rfl Try.ntmps102 rfl (CW.seq (CW.region (sd rfl (yl_assign rfl rfl (SeqR.done (tn (CW.seq (CW.region (sd rfl (yl_move rfl rfl ?_))))))))))
 refine sd rfl (yl_move rfl rfl (sd rfl (yl_len Try.un53 rfl rfl (sd rfl (yl_sub rfl rfl rfl (sd rfl (yl_assign rfl rfl (SeqR.done (tn (CW.seq (CW.seq (CW.region ?_))))))))))))
 refine sd rfl (yl_move rfl rfl (sd rfl (yl_lss rfl rfl rfl (SeqR.done (tn (bcase (decide ((IntKind.wrap .i64 (p_left - (p_a.length : Int))) < 0)) (fun hb2 => ?_) (fun hb2 => ?_)))))))
 ·have hb2p := dec_t hb2
  refine CW.cond_t rfl hb2 (CW.seq (CW.region (sd rfl (yl_assign rfl rfl (SeqR.done (tn (CW.ret (tr (rr rfl (.cons rfl .nil) ?_)))))))))
  have hM3 : (l_szIdxS p_a p_left) = (-1) := by simp only [l_szIdxS, hb2, cond_true, cond_false, loopE_done, loopE_ret]
  rw [hM3]
  exact ⟨rfl, (Ex.refl w)⟩
 ·have hb2p := dec_f hb2
  refine CW.cond_f rfl hb2 (CW.skip (tn (CW.seq (CW.seq (CW.region (sd rfl (yl_assign rfl rfl (SeqR.done (tn ?_)))))))))
  refine CW.block (CW.loop (fun m6 L7 w8 => ∃ (k4 : Nat) (x5 : Int), m6 = p_a.length - k4 ∧ k4 ≤ p_a.length ∧ w.heap.size ≤ w8.heap.size ∧ lkp L7 0 = some (.slice A1 p_a.length c1) ∧ lkp L7 1 = some (.int .i64 (x5)) ∧ lkp L7 5 = some (.int .i64 ((k4 : Int))) ∧ RdS w8 (Iv 0 w.heap.size) (RF e_Idx) 3 A1 p_a.length c1 p_a ∧ Ex w w8 ∧ loopM (B_l_szIdxS_0 p_a p_left) (p_a.length - k4) k4 (x5) = loopM (B_l_szIdxS_0 p_a p_left) (p_a.length - 0) 0 (IntKind.wrap .i64 (p_left - (p_a.length : Int)))) (p_a.length - 0) ?_ ?_)
  ·exact ⟨0, IntKind.wrap .i64 (p_left - (p_a.length : Int)), rfl, (by omega), Nat.le_refl _, rfl, rfl, rfl, h1, (Ex.refl w), rfl⟩
  ·rintro m9 L10 w11 ⟨k4, x5, rfl, hk12, hsz14, hl15, hl16, hl17, hf18, hf19, hI13⟩
   refine CW.sub (Sub.cons hl15 (Sub.cons hl16 (Sub.cons hl17 (Sub.nil _)))) ?_
   have hf19z := Ex.size hf19
   have hbg20 := RdS.big hf18
   rcases Nat.lt_or_ge k4 p_a.length with hlt21 | hlt21
   ·refine CW.seq (CW.seq (CW.region (sd rfl (yl_move rfl rfl (sd rfl (yl_move rfl rfl (sd rfl (yl_len Try.un53 rfl rfl (sd rfl (yl_lss rfl rfl rfl (SeqR.done (tn ?_))))))))))))
    refine CW.cond_t rfl (lt_t hlt21) (CW.skip (tn (CW.seq (CW.block (CW.seq (CW.region (sd rfl (yl_move rfl rfl (sd rfl (yl_move rfl rfl ?_))))))))))
    obtain ⟨eb22, eo22, ec22, eA22, eS22, ebl22, el22, eR22, eC22⟩ := RdS.atD hf18 d_Idx (i := k4) (by first | omega | assumption)
    obtain rfl := eR22
    have eC22 : Cells w11 eb22 (eo22 + k4 * 3) [.string (bs ((p_a.getD k4 d_Idx).Name)), .int .i64 ((p_a.getD k4 d_Idx).Col), .int .i64 ((p_a.getD k4 d_Idx).Stage)] := eC22
    refine sd rfl (yl_indexAddrN Try.un53 Try.ty202 rfl rfl rfl eA22 (by first | omega | assumption | (simp only [IntKind.wrap_i64] at *; omega)) (sd rfl (yl_loadN (cs := [.string (bs ((p_a.getD k4 d_Idx).Name)), .int .i64 ((p_a.getD k4 d_Idx).Col), .int .i64 ((p_a.getD k4 d_Idx).Stage)]) Try.ty202 rfl rfl eC22 rfl (sd rfl (yl_move rfl rfl (sd rfl (yl_call Try.en159 rfl (opvs_cons rfl (opvs_cons rfl opvs_nil)) (Cal.mono (c_l_szIdx (p_a.getD k4 d_Idx) x5) ?_))))))))
    rintro v24 w23 ⟨rfl, hE25⟩
    have hE25z := Ex.size hE25
    refine sd rfl (yl_assign rfl rfl (SeqR.done (tn (CW.seq (CW.region (sd rfl (yl_move rfl rfl (sd rfl (yl_lss rfl rfl rfl (SeqR.done (tn ?_)))))))))))
    refine bcase (decide ((l_szIdx (p_a.getD k4 d_Idx) x5) < 0)) (fun hb26 => ?_) (fun hb26 => ?_)
    ·have hb26p := dec_t hb26
     refine CW.cond_t rfl hb26 (CW.seq (CW.region (sd rfl (yl_assign rfl rfl (SeqR.done (tn (CW.ret (br (tr ?_)))))))))
     refine tr ?_
     have hB28 : B_l_szIdxS_0 p_a p_left k4 (x5) = .ret (-1) := by simp only [B_l_szIdxS_0, hb2, hb26, cond_true, cond_false, loopE_done, loopE_ret]
     have hL27 : loopM (B_l_szIdxS_0 p_a p_left) (p_a.length - 0) 0 (IntKind.wrap .i64 (p_left - (p_a.length : Int))) = .ret (-1) := hI13.symm.trans (loopM.ret hlt21 hB28)
     refine br (tr (rr rfl (.cons rfl .nil) ?_))
     have hM29 : (l_szIdxS p_a p_left) = (-1) := by simp only [l_szIdxS, hb2, hb26, hL27, cond_true, cond_false, loopE_done, loopE_ret]
     rw [hM29]
     exact ⟨rfl, (Ex.trans hf19 hE25)⟩
    ·have hb26p := dec_f hb26
     refine CW.cond_f rfl hb26 (CW.skip (bn (tn (CW.region (sd rfl (yl_move rfl rfl (sd rfl (yl_inc rfl rfl rfl (by omega) (sd rfl (yl_assign rfl rfl (SeqR.done ?_)))))))))))
     refine tn ?_
     have hB31 : B_l_szIdxS_0 p_a p_left k4 (x5) = .cont ((l_szIdx (p_a.getD k4 d_Idx) x5)) := by simp only [B_l_szIdxS_0, hb2, hb26, cond_true, cond_false, loopE_done, loopE_ret]
     exact ⟨p_a.length - (k4 + 1), by omega, k4 + 1, (l_szIdx (p_a.getD k4 d_Idx) x5), rfl, hlt21, (by omega), rfl, rfl, rfl, (RdS.ex good_Idx hf18 hE25), (Ex.trans hf19 hE25), (loopM.cont hlt21 hB31).symm.trans hI13⟩
   ·refine CW.seq (CW.seq (CW.region (sd rfl (yl_move rfl rfl (sd rfl (yl_move rfl rfl (sd rfl (yl_len Try.un53 rfl rfl (sd rfl (yl_lss rfl rfl rfl (SeqR.done (tn ?_))))))))))))
    refine CW.cond_f rfl (lt_f hlt21) (CW.exit (tx (tx ?_)))
    have hL34 : loopM (B_l_szIdxS_0 p_a p_left) (p_a.length - 0) 0 (IntKind.wrap .i64 (p_left - (p_a.length : Int))) = .done (x5) := hI13.symm.trans (loopM.stop hlt21)
    refine bx (tn (CW.seq (CW.region (sd rfl (yl_move rfl rfl (sd rfl (yl_assign rfl rfl (SeqR.done (tn (CW.ret ?_))))))))))
    refine rr rfl (.cons rfl .nil) ?_
    have hM35 : (l_szIdxS p_a p_left) = (x5) := by simp only [l_szIdxS, hb2, hL34, cond_true, cond_false, loopE_done, loopE_ret]
    rw [hM35]
    exact ⟨rfl, hf19⟩
set_option maxRecDepth 100000 in
set_option maxHeartbeats 2000000 in
theorem c_l_szTable {A1 : Option Addr} {c1 : Nat} {A2 : Option Addr} {c2 : Nat} {w : World} (p_a : DTable) (p_left : Int) (h1 : RdS w (Iv 0 w.heap.size) (RF e_Str) 1 A1 p_a.Cols.length c1 p_a.Cols) (h2 : RdS w (Iv 0 w.heap.size) (RF e_Idx) 3 A2 p_a.Idxs.length c2 p_a.Idxs) : Cal Try.prog 32 #[.agg #[.string (bs (p_a.Name)), .slice A1 p_a.Cols.length c1, .slice A2 p_a.Idxs.length c2], .int .i64 (p_left)] w fun v w' => v = .int .i64 ((l_szTable p_a p_left)) ∧ Ex w w' := by
 refine Cal.of (vs := [.agg #[.string (bs (p_a.Name)), .slice A1 p_a.Cols.length c1, .slice A2 p_a.Idxs.length c2], .int .i64 (p_left)]) Try.func32 rfl Try.ntmps32 rfl (CW.seq (CW.region (sd rfl (yl_box (cs := [.string (bs (p_a.Name)), .slice A1 p_a.Cols.length c1, .slice A2 p_a.Idxs.length c2]) rfl rfl rfl ?_))))
 intro b3 w4 hs5 hz6 hB7 hE8
 refine sd rfl (yl_assign rfl rfl (SeqR.done (tn (CW.seq (CW.region (sd rfl (yl_move rfl rfl (sd rfl (yl_fieldAddr Try.fd55_0 rfl rfl (sd rfl (yl_load1 Try.ty9 rfl rfl ((hB7.cell 0).trans rfl) (sd rfl (yl_slen Try.un9 (a := p_a.Name) rfl rfl ?_)))))))))))))
 refine sd rfl (yl_sub rfl rfl rfl (sd rfl (yl_assign rfl rfl (SeqR.done (tn (CW.seq (CW.seq (CW.region (sd rfl (yl_move rfl rfl (sd rfl (yl_lss rfl rfl rfl ?_))))))))))))
 refine SeqR.done (tn (bcase (decide ((IntKind.wrap .i64 (p_left - (p_a.Name.length : Int))) < 0)) (fun hb9 => ?_) (fun hb9 => ?_)))
 ·have hb9p := dec_t hb9
  refine CW.cond_t rfl hb9 (CW.seq (CW.region (sd rfl (yl_assign rfl rfl (SeqR.done (tn (CW.ret (tr (rr rfl (.cons rfl .nil) ?_)))))))))
  have hM10 : (l_szTable p_a p_left) = (-1) := by simp only [l_szTable, hb9, cond_true, cond_false, loopE_done, loopE_ret]
  rw [hM10]
  exact ⟨rfl, (Ex.trans (Ex.refl w) hE8)⟩
 ·have hb9p := dec_f hb9
  refine CW.cond_f rfl hb9 (CW.skip (tn (CW.seq (CW.region (sd rfl (yl_fieldAddr Try.fd55_1 rfl rfl (sd rfl (yl_load1 Try.ty52 rfl rfl ((hB7.cell 1).trans rfl) (sd rfl (yl_move rfl rfl (sd rfl (yl_call Try.en101 rfl (opvs_cons rfl (opvs_cons rfl opvs_nil)) (Cal.mono (c_l_szStringS p_a.Cols (IntKind.wrap .i64 (p_left - (p_a.Name.length : Int))) (RdS.up (RdS.ex good_Str h1 hE8) good_Str)) ?_)))))))))))))
  rintro v14 w13 ⟨rfl, hE15⟩
  have hE15z := Ex.size hE15
  refine sd rfl (yl_assign rfl rfl (SeqR.done (tn (CW.seq (CW.seq (CW.region (sd rfl (yl_move rfl rfl (sd rfl (yl_lss rfl rfl rfl (SeqR.done ?_)))))))))))
  refine tn (bcase (decide ((l_szStringS p_a.Cols (IntKind.wrap .i64 (p_left - (p_a.Name.length : Int)))) < 0)) (fun hb16 => ?_) (fun hb16 => ?_))
  ·have hb16p := dec_t hb16
   refine CW.cond_t rfl hb16 (CW.seq (CW.region (sd rfl (yl_assign rfl rfl (SeqR.done (tn (CW.ret (tr (rr rfl (.cons rfl .nil) ?_)))))))))
   have hM17 : (l_szTable p_a p_left) = (-1) := by simp only [l_szTable, hb9, hb16, cond_true, cond_false, loopE_done, loopE_ret]
   rw [hM17]
   exact ⟨rfl, (Ex.trans (Ex.trans (Ex.refl w) hE8) hE15)⟩
  ·have hb16p := dec_f hb16
   refine CW.cond_f rfl hb16 (CW.skip (tn (CW.seq (CW.region (sd rfl (yl_fieldAddr Try.fd55_2 rfl rfl (sd rfl (yl_load1 Try.ty53 rfl rfl (((Box.ex hB7 hE15).cell 2).trans rfl) (sd rfl (yl_move rfl rfl (sd rfl (yl_call Try.en102 rfl (opvs_cons rfl (opvs_cons rfl opvs_nil)) (Cal.mono (c_l_szIdxS p_a.Idxs (l_szStringS p_a.Cols (IntKind.wrap .i64 (p_left - (p_a.Name.length : Int)))) (RdS.up (RdS.ex good_Idx (RdS.ex good_Idx h2 hE8) hE15) good_Idx)) ?_)))))))))))))
   rintro v24 w23 ⟨rfl, hE25⟩
   have hE25z := Ex.size hE25
   refine sd rfl (yl_assign rfl rfl (SeqR.done (tn (CW.seq (CW.seq (CW.region (sd rfl (yl_move rfl rfl (sd rfl (yl_lss rfl rfl rfl (SeqR.done ?_)))))))))))
   refine tn (bcase (decide ((l_szIdxS p_a.Idxs (l_szStringS p_a.Cols (IntKind.wrap .i64 (p_left - (p_a.Name.length : Int))))) < 0)) (fun hb26 => ?_) (fun hb26 => ?_))
   ·have hb26p := dec_t hb26
    refine CW.cond_t rfl hb26 (CW.seq (CW.region (sd rfl (yl_assign rfl rfl (SeqR.done (tn (CW.ret (tr (rr rfl (.cons rfl .nil) ?_)))))))))
    have hM27 : (l_szTable p_a p_left) = (-1) := by simp only [l_szTable, hb9, hb16, hb26, cond_true, cond_false, loopE_done, loopE_ret]
    rw [hM27]
    exact ⟨rfl, (Ex.trans (Ex.trans (Ex.trans (Ex.refl w) hE8) hE15) hE25)⟩
   ·have hb26p := dec_f hb26
    refine CW.cond_f rfl hb26 (CW.skip (tn (CW.seq (CW.region (sd rfl (yl_move rfl rfl (sd rfl (yl_assign rfl rfl (SeqR.done (tn ?_))))))))))
    refine CW.ret (rr rfl (.cons rfl .nil) ?_)
    have hM31 : (l_szTable p_a p_left) = ((l_szIdxS p_a.Idxs (l_szStringS p_a.Cols (IntKind.wrap .i64 (p_left - (p_a.Name.length : Int)))))) := by simp only [l_szTable, hb9, hb16, hb26, cond_true, cond_false, loopE_done, loopE_ret]
    rw [hM31]
    exact ⟨rfl, (Ex.trans (Ex.trans (Ex.trans (Ex.refl w) hE8) hE15) hE25)⟩
set_option maxRecDepth 100000 in
set_option maxHeartbeats 2000000 in
theorem c_l_toStringS {A1 : Option Addr} {c1 : Nat} {w : World} (p_a : List Str) (h1 : RdS w (Iv 0 w.heap.size) (RF e_Str) 1 A1 p_a.length c1 p_a) (o2 : (okL okS) p_a) : Cal Try.prog 106 #[.slice A1 p_a.length c1] w fun v w' => ∃ A_1 c_1 lo_1 hi_1, v = .slice A_1 p_a.length c_1 ∧ OwnL w' lo_1 hi_1 9 1 (RF e_Str) A_1 p_a.length c_1 p_a ∧ (w.heap.size ≤ lo_1 ∧ lo_1 ≤ hi_1 ∧ hi_1 ≤ w'.heap.size) ∧ Ex w w' := by
 have hol3 := o2.1
 refine Cal.of (vs := [.slice A1 p_a.length c1]) Try.func106 rfl Try.ntmps106 rfl (CW.seq (CW.region (sd rfl (yl_assign rfl rfl (SeqR.done (tn (CW.seq (CW.region (sd rfl (yl_move rfl rfl ?_))))))))))
 refine sd rfl (yl_len Try.un52 rfl rfl (sd rfl (yl_make (zs := [.string (bs (([] : Str)))]) (n := p_a.length) Try.un52 Try.ty9 rfl rfl (Nat.le_of_ble_eq_true rfl) rfl rfl rfl (by first | omega | assumption | (simp only [IntKind.wrap_i64] at *; omega)) (by first | omega | assumption | (simp only [IntKind.wrap_i64] at *; omega)) ?_)))
 intro b4 w5 hs6 hz7 hB8 hE9
 have hO10 : OwnL w5 b4 (b4 + 1) 9 1 (RF e_Str) (some ⟨b4, 0, none⟩) p_a.length p_a.length (List.replicate p_a.length d_Str) := by have := OwnL.of_boxF (lo := b4) (hi := b4 + 1) (xs := (List.replicate p_a.length d_Str)) hB8 (Nat.le_refl _) (Nat.lt_succ_self _) (EncL.zerosF (enc := e_Str) (d := d_Str) rfl p_a.length) (by rw [List.length_replicate]; omega); rwa [List.length_replicate] at this
 refine sd rfl (yl_assign rfl rfl (SeqR.done (tn (CW.seq (CW.seq (CW.region (sd rfl (yl_assign rfl rfl (SeqR.done (tn ?_))))))))))
 refine CW.block (CW.loop (fun m20 L21 w22 => ∃ (k11 : Nat) (x19 : List Str), m20 = p_a.length - k11 ∧ k11 ≤ p_a.length ∧ w5.heap.size ≤ w22.heap.size ∧ lkp L21 0 = some (.slice A1 p_a.length c1) ∧ lkp L21 3 = some (.slice (some ⟨b4, 0, none⟩) p_a.length p_a.length) ∧ lkp L21 4 = some (.int .i64 ((k11 : Int))) ∧ RdS w22 (Iv 0 w.heap.size) (RF e_Str) 1 A1 p_a.length c1 p_a ∧ OwnL w22 b4 (b4 + 1) 9 1 (RF e_Str) (some ⟨b4, 0, none⟩) p_a.length p_a.length x19 ∧ Ex w w22 ∧ loopM (B_l_toStringS_0 p_a) (p_a.length - k11) k11 (x19) = loopM (B_l_toStringS_0 p_a) (p_a.length - 0) 0 ((List.replicate p_a.length d_Str))) (p_a.length - 0) ?_ ?_)
 ·exact ⟨0, (List.replicate p_a.length d_Str), rfl, (by omega), Nat.le_refl _, rfl, rfl, rfl, (RdS.ex good_Str h1 hE9), hO10, (Ex.trans (Ex.refl w) hE9), rfl⟩
 ·rintro m25 L26 w27 ⟨k11, x19, rfl, hk28, hsz30, hl31, hl32, hl33, hf34, hf35, hf36, hI29⟩
  refine CW.sub (Sub.cons hl31 (Sub.cons hl32 (Sub.cons hl33 (Sub.nil _)))) ?_
  have hf36z := Ex.size hf36
  have hbg37 := RdS.big hf34
  rcases Nat.lt_or_ge k11 p_a.length with hlt38 | hlt38
  ·refine CW.seq (CW.seq (CW.region (sd rfl (yl_move rfl rfl (sd rfl (yl_move rfl rfl (sd rfl (yl_len Try.un52 rfl rfl (sd rfl (yl_lss rfl rfl rfl (SeqR.done (tn ?_))))))))))))
   refine CW.cond_t rfl (lt_t hlt38) (CW.skip (tn (CW.seq (CW.block (CW.region (sd rfl (yl_move rfl rfl (sd rfl (yl_move rfl rfl (sd rfl (yl_move rfl rfl ?_)))))))))))
   refine sd rfl (yl_move rfl rfl ?_)
   obtain ⟨eb39, eo39, ec39, eA39, eS39, ebl39, el39, eR39, eC39⟩ := RdS.atD hf34 d_Str (i := k11) (by first | omega | assumption)
   obtain rfl := eR39
   have eC39 : Cells w27 eb39 (eo39 + k11 * 1) [.string (bs ((p_a.getD k11 d_Str)))] := eC39
   refine sd rfl (yl_indexAddrN Try.un52 Try.ty9 rfl rfl rfl eA39 (by first | omega | assumption | (simp only [IntKind.wrap_i64] at *; omega)) (sd rfl (yl_load1 Try.ty9 rfl rfl (eC39 0 _ rfl) ?_)))
   obtain ⟨eb41, eo41, ec41, eA41, eS41, ebl41, el41, eR41, eC41⟩ := RdS.atD (OwnL.rd good_Str hf35) d_Str (i := k11) (by first | omega | assumption)
   obtain rfl := eR41
   have eC41 : Cells w27 eb41 (eo41 + k11 * 1) [.string (bs ((x19.getD k11 d_Str)))] := eC41
   refine sd rfl (yl_indexAddrN Try.un52 Try.ty9 rfl rfl rfl eA41 (by first | omega | assumption | (simp only [IntKind.wrap_i64] at *; omega)) ?_)
   have hrg42 := OwnL.rng hf35 (i := k11) (by first | omega | assumption | (simp only [IntKind.wrap_i64] at *; omega)) eb41 (by rw [eA41]; rfl)
   refine SeqR.u rfl rfl (yl_storeF (off := eo41) (i := k11) (d := 0) (dx := d_Str) (x' := (p_a.getD k11 d_Str)) (vs := [.string (bs ((p_a.getD k11 d_Str)))]) Try.ty9 rfl hf35 eA41 rfl rfl rfl rfl rfl (by first | omega | assumption | (simp only [IntKind.wrap_i64] at *; omega)) (Nat.le_of_ble_eq_true rfl) rfl rfl ?_)
   intro w43 hB44 hO45
   have hO45z := hO45.size
   refine SeqR.done (bn (tn (CW.region (sd rfl (yl_move rfl rfl (sd rfl (yl_inc rfl rfl rfl (by omega) (sd rfl (yl_assign rfl rfl (SeqR.done (tn ?_)))))))))))
   have hB46 : B_l_toStringS_0 p_a k11 (x19) = .cont ((x19.set k11 (p_a.getD k11 d_Str))) := by simp only [B_l_toStringS_0, cond_true, cond_false, loopE_done, loopE_ret]
   exact ⟨p_a.length - (k11 + 1), by omega, k11 + 1, (x19.set k11 (p_a.getD k11 d_Str)), rfl, hlt38, (by omega), rfl, rfl, rfl, (RdS.only good_Str hf34 hO45 (by simp only [Iv]; omega)), hB44, (Below.only hf36 hO45 (by omega)), (loopM.cont hlt38 hB46).symm.trans hI29⟩
  ·refine CW.seq (CW.seq (CW.region (sd rfl (yl_move rfl rfl (sd rfl (yl_move rfl rfl (sd rfl (yl_len Try.un52 rfl rfl (sd rfl (yl_lss rfl rfl rfl (SeqR.done (tn ?_))))))))))))
   refine CW.cond_f rfl (lt_f hlt38) (CW.exit (tx (tx ?_)))
   have hL49 : loopM (B_l_toStringS_0 p_a) (p_a.length - 0) 0 ((List.replicate p_a.length d_Str)) = .done (x19) := hI29.symm.trans (loopM.stop hlt38)
   refine bx (tn (CW.seq (CW.region (sd rfl (yl_move rfl rfl (sd rfl (yl_assign rfl rfl (SeqR.done (tn (CW.ret ?_))))))))))
   refine rr rfl (.cons rfl .nil) ?_
   have hM50 : p_a = (x19) := (to_StringS _).symm.trans <| by simp only [l_toStringS, hL49, cond_true, cond_false, loopE_done, loopE_ret]
   subst hM50
   exact ⟨(some ⟨b4, 0, none⟩), p_a.length, b4, (b4 + 1), rfl, hf35, (by omega), hf36⟩
set_option maxRecDepth 100000 in
set_option maxHeartbeats 2000000 in
theorem c_l_toIdx {w : World} (p_a : DIdx) (o1 : ok_Idx p_a) : Cal Try.prog 165 #[.agg #[.string (bs (p_a.Name)), .int .i64 (p_a.Col), .int .i64 (p_a.Stage)]] w fun v w' => v = .agg #[.string (bs (p_a.Name)), .int .i64 (p_a.Col), .int .i64 (p_a.Stage)] ∧ Ex w w' := by
 have hol2 : p_a.Name.length ≤ 1073741824 := o1
 refine Cal.of (vs := [.agg #[.string (bs (p_a.Name)), .int .i64 (p_a.Col), .int .i64 (p_a.Stage)]]) Try.func165 rfl Try.ntmps165 rfl (CW.seq (CW.region (sd rfl (yl_box (cs := [.string (bs (p_a.Name)), .int .i64 (p_a.Col), .int .i64 (p_a.Stage)]) rfl rfl rfl ?_))))
 intro b3 w4 hs5 hz6 hB7 hE8
 refine sd rfl (yl_alloc Try.ty152 (cs := [.string (bs (([] : Str))), .int .i64 (0), .int .i64 (0)]) rfl rfl ?_)
 intro b9 w10 hs11 hz12 hB13 hE14
 refine SeqR.done (tn (CW.seq (CW.region (sd rfl (yl_alloc Try.ty152 (cs := [.string (bs (([] : Str))), .int .i64 (0), .int .i64 (0)]) rfl rfl ?_)))))
 intro b15 w16 hs17 hz18 hB19 hE20
 refine SeqR.done (tn (CW.seq (CW.region (sd rfl (yl_fieldAddr Try.fd202_0 rfl rfl ?_)))))
 have q22 := Box.ex (Box.ex hB7 hE14) hE20
 refine sd rfl (yl_load1 Try.ty9 rfl rfl ((q22.cell 0).trans rfl) (sd rfl (yl_fieldAddr Try.fd152_0 rfl rfl (SeqR.u rfl rfl (yl_store (vs := [.string (bs (p_a.Name))]) Try.ty9 rfl rfl rfl rfl rfl rfl hB19 (Nat.le_of_ble_eq_true rfl) ?_)))))
 intro w23 hB24 hO25
 have hB24 : Box w23 b15 152 [.string (bs (p_a.Name)), .int .i64 (0), .int .i64 (0)] := hB24
 have hO25z := hO25.size
 refine SeqR.done (tn (CW.seq (CW.region (sd rfl (yl_fieldAddr Try.fd202_1 rfl rfl ?_)))))
 have q26 := Box.only q22 hO25 (by omega)
 refine sd rfl (yl_load1 Try.ty3 rfl rfl ((q26.cell 1).trans rfl) (sd rfl (yl_fieldAddr Try.fd152_1 rfl rfl (SeqR.u rfl rfl (yl_store (vs := [.int .i64 (p_a.Col)]) Try.ty3 rfl rfl rfl rfl rfl rfl hB24 (Nat.le_of_ble_eq_true rfl) ?_)))))
 intro w27 hB28 hO29
 have hB28 : Box w27 b15 152 [.string (bs (p_a.Name)), .int .i64 (p_a.Col), .int .i64 (0)] := hB28
 have hO29z := hO29.size
 refine SeqR.done (tn (CW.seq (CW.region (sd rfl (yl_fieldAddr Try.fd202_2 rfl rfl (sd rfl (yl_load1 Try.ty3 rfl rfl (((Box.only q26 hO29 (by omega)).cell 2).trans rfl) (sd rfl (yl_fieldAddr Try.fd152_2 rfl rfl (SeqR.u rfl rfl (yl_store (vs := [.int .i64 (p_a.Stage)]) Try.ty3 rfl rfl rfl rfl rfl rfl hB28 (Nat.le_of_ble_eq_true rfl) ?_)))))))))))
 intro w31 hB32 hO33
 have hB32 : Box w31 b15 152 [.string (bs (p_a.Name)), .int .i64 (p_a.Col), .int .i64 (p_a.Stage)] := hB32
 have hO33z := hO33.size
 refine SeqR.done (tn (CW.seq (CW.region (sd rfl (yl_loadN (cs := [.string (bs (p_a.Name)), .int .i64 (p_a.Col), .int .i64 (p_a.Stage)]) Try.ty152 rfl rfl (hB32.cells (n := 3) rfl) rfl (SeqR.u rfl rfl (yl_store (vs := [.string (bs (p_a.Name)), .int .i64 (p_a.Col), .int .i64 (p_a.Stage)]) Try.ty152 rfl rfl rfl rfl rfl rfl (Box.only (Box.only (Box.only (Box.ex hB13 hE20) hO25 (by omega)) hO29 (by omega)) hO33 (by omega)) (Nat.le_of_ble_eq_true rfl) ?_)))))))
 intro w38 hB39 hO40
 have hB39 : Box w38 b9 152 [.string (bs (p_a.Name)), .int .i64 (p_a.Col), .int .i64 (p_a.Stage)] := hB39
 have hO40z := hO40.size
 refine SeqR.done (tn (CW.ret (rr rfl (.cons ⟨_, rfl, run_loadN Try.ty152 (cs := [.string (bs (p_a.Name)), .int .i64 (p_a.Col), .int .i64 (p_a.Stage)]) rfl (hB39.cells (n := 3) rfl)⟩ .nil) ?_)))
 have hM41 : p_a = (p_a) := (to_Idx _).symm.trans <| by simp only [l_toIdx, cond_true, cond_false, loopE_done, loopE_ret]
 rw [hM41]
 exact ⟨rfl, (Below.only (Below.only (Below.only (Below.only (Ex.trans (Ex.trans (Ex.trans (Ex.refl w) hE8) hE14) hE20) hO25 (by omega)) hO29 (by omega)) hO33 (by omega)) hO40 (by omega))⟩
set_option maxRecDepth 100000 in
set_option maxHeartbeats 2000000 in
theorem c_l_toIdxS {A1 : Option Addr} {c1 : Nat} {w : World} (p_a : List DIdx) (h1 : RdS w (Iv 0 w.heap.size) (RF e_Idx) 3 A1 p_a.length c1 p_a) (o2 : (okL ok_Idx) p_a) : Cal Try.prog 107 #[.slice A1 p_a.length c1] w fun v w' => ∃ A_1 c_1 lo_1 hi_1, v = .slice A_1 p_a.length c_1 ∧ OwnL w' lo_1 hi_1 152 3 (RF e_Idx) A_1 p_a.length c_1 p_a ∧ (w.heap.size ≤ lo_1 ∧ lo_1 ≤ hi_1 ∧ hi_1 ≤ w'.heap.size) ∧ Ex w w' := by
 have hol3 := o2.1
 refine Cal.of (vs := [.slice A1 p_a.length c1]) Try.func107 rfl Try.ntmps107 rfl (CW.seq (CW.region (sd rfl (yl_assign rfl rfl (SeqR.done (tn (CW.seq (CW.region (sd rfl (yl_move rfl rfl ?_))))))))))
 refine sd rfl (yl_len Try.un53 rfl rfl (sd rfl (yl_make (zs := [.string (bs (([] : Str))), .int .i64 (0), .int .i64 (0)]) (n := p_a.length) Try.un63 Try.ty152 rfl rfl (Nat.le_of_ble_eq_true rfl) rfl rfl rfl (by first | omega | assumption | (simp only [IntKind.wrap_i64] at *; omega)) (by first | omega | assumption | (simp only [IntKind.wrap_i64] at *; omega)) ?_)))
 intro b4 w5 hs6 hz7 hB8 hE9
 have hO10 : OwnL w5 b4 (b4 + 1) 152 3 (RF e_Idx) (some ⟨b4, 0, none⟩) p_a.length p_a.length (List.replicate p_a.length d_Idx) := by have := OwnL.of_boxF (lo := b4) (hi := b4 + 1) (xs := (List.replicate p_a.length d_Idx)) hB8 (Nat.le_refl _) (Nat.lt_succ_self _) (EncL.zerosF (enc := e_Idx) (d := d_Idx) rfl p_a.length) (by rw [List.length_replicate]; omega); rwa [List.length_replicate] at this
 refine sd rfl (yl_assign rfl rfl (SeqR.done (tn (CW.seq (CW.seq (CW.region (sd rfl (yl_assign rfl rfl (SeqR.done (tn ?_))))))))))
 refine CW.block (CW.loop (fun m23 L24 w25 => ∃ (k11 : Nat) (x22 : List DIdx), m23 = p_a.length - k11 ∧ k11 ≤ p_a.length ∧ w5.heap.size ≤ w25.heap.size ∧ lkp L24 0 = some (.slice A1 p_a.length c1) ∧ lkp L24 3 = some (.slice (some ⟨b4, 0, none⟩) p_a.length p_a.length) ∧ lkp L24 4 = some (.int .i64 ((k11 : Int))) ∧ RdS w25 (Iv 0 w.heap.size) (RF e_Idx) 3 A1 p_a.length c1 p_a ∧ OwnL w25 b4 (b4 + 1) 152 3 (RF e_Idx) (some ⟨b4, 0, none⟩) p_a.length p_a.length x22 ∧ Ex w w25 ∧ loopM (B_l_toIdxS_0 p_a) (p_a.length - k11) k11 (x22) = loopM (B_l_toIdxS_0 p_a) (p_a.length - 0) 0 ((List.replicate p_a.length d_Idx))) (p_a.length - 0) ?_ ?_)
 ·exact ⟨0, (List.replicate p_a.length d_Idx), rfl, (by omega), Nat.le_refl _, rfl, rfl, rfl, (RdS.ex good_Idx h1 hE9), hO10, (Ex.trans (Ex.refl w) hE9), rfl⟩
 ·rintro m28 L29 w30 ⟨k11, x22, rfl, hk31, hsz33, hl34, hl35, hl36, hf37, hf38, hf39, hI32⟩
  refine CW.sub (Sub.cons hl34 (Sub.cons hl35 (Sub.cons hl36 (Sub.nil _)))) ?_
  have hf39z := Ex.size hf39
  have hbg40 := RdS.big hf37
  rcases Nat.lt_or_ge k11 p_a.length with hlt41 | hlt41
  ·refine CW.seq (CW.seq (CW.region (sd rfl (yl_move rfl rfl (sd rfl (yl_move rfl rfl (sd rfl (yl_len Try.un53 rfl rfl (sd rfl (yl_lss rfl rfl rfl (SeqR.done (tn ?_))))))))))))
   refine CW.cond_t rfl (lt_t hlt41) (CW.skip (tn (CW.seq (CW.block (CW.region (sd rfl (yl_move rfl rfl (sd rfl (yl_move rfl rfl (sd rfl (yl_move rfl rfl ?_)))))))))))
   refine sd rfl (yl_move rfl rfl ?_)
   obtain ⟨eb42, eo42, ec42, eA42, eS42, ebl42, el42, eR42, eC42⟩ := RdS.atD hf37 d_Idx (i := k11) (by first | omega | assumption)
   obtain rfl := eR42
   have eC42 : Cells w30 eb42 (eo42 + k11 * 3) [.string (bs ((p_a.getD k11 d_Idx).Name)), .int .i64 ((p_a.getD k11 d_Idx).Col), .int .i64 ((p_a.getD k11 d_Idx).Stage)] := eC42
   refine sd rfl (yl_indexAddrN Try.un53 Try.ty202 rfl rfl rfl eA42 (by first | omega | assumption | (simp only [IntKind.wrap_i64] at *; omega)) (sd rfl (yl_loadN (cs := [.string (bs ((p_a.getD k11 d_Idx).Name)), .int .i64 ((p_a.getD k11 d_Idx).Col), .int .i64 ((p_a.getD k11 d_Idx).Stage)]) Try.ty202 rfl rfl eC42 rfl (sd rfl (yl_call Try.en165 rfl (opvs_cons rfl opvs_nil) (Cal.mono (c_l_toIdx (p_a.getD k11 d_Idx) (okL.getD o2 ok_d_Idx _)) ?_))))))
   rintro v44 w43 ⟨rfl, hE45⟩
   have hE45z := Ex.size hE45
   have q47 := OwnL.ex good_Idx hf38 hE45
   obtain ⟨eb48, eo48, ec48, eA48, eS48, ebl48, el48, eR48, eC48⟩ := RdS.atD (OwnL.rd good_Idx q47) d_Idx (i := k11) (by first | omega | assumption)
   obtain rfl := eR48
   have eC48 : Cells w43 eb48 (eo48 + k11 * 3) [.string (bs ((x22.getD k11 d_Idx).Name)), .int .i64 ((x22.getD k11 d_Idx).Col), .int .i64 ((x22.getD k11 d_Idx).Stage)] := eC48
   refine sd rfl (yl_indexAddrN Try.un63 Try.ty152 rfl rfl rfl eA48 (by first | omega | assumption | (simp only [IntKind.wrap_i64] at *; omega)) ?_)
   have hrg49 := OwnL.rng q47 (i := k11) (by first | omega | assumption | (simp only [IntKind.wrap_i64] at *; omega)) eb48 (by rw [eA48]; rfl)
   refine SeqR.u rfl rfl (yl_storeF (off := eo48) (i := k11) (d := 0) (dx := d_Idx) (x' := (p_a.getD k11 d_Idx)) (vs := [.string (bs ((p_a.getD k11 d_Idx).Name)), .int .i64 ((p_a.getD k11 d_Idx).Col), .int .i64 ((p_a.getD k11 d_Idx).Stage)]) Try.ty152 rfl q47 eA48 rfl rfl rfl rfl rfl (by first | omega | assumption | (simp only [IntKind.wrap_i64] at *; omega)) (Nat.le_of_ble_eq_true rfl) rfl rfl ?_)
   intro w50 hB51 hO52
   have hO52z := hO52.size
   refine SeqR.done (bn (tn (CW.region (sd rfl (yl_move rfl rfl (sd rfl (yl_inc rfl rfl rfl (by omega) (sd rfl (yl_assign rfl rfl (SeqR.done (tn ?_)))))))))))
   have hB53 : B_l_toIdxS_0 p_a k11 (x22) = .cont ((x22.set k11 (p_a.getD k11 d_Idx))) := by simp only [B_l_toIdxS_0, cond_true, cond_false, loopE_done, loopE_ret]
   exact ⟨p_a.length - (k11 + 1), by omega, k11 + 1, (x22.set k11 (p_a.getD k11 d_Idx)), rfl, hlt41, (by omega), rfl, rfl, rfl, (RdS.only good_Idx (RdS.ex good_Idx hf37 hE45) hO52 (by simp only [Iv]; omega)), hB51, (Below.only (Ex.trans hf39 hE45) hO52 (by omega)), (loopM.cont hlt41 hB53).symm.trans hI32⟩
  ·refine CW.seq (CW.seq (CW.region (sd rfl (yl_move rfl rfl (sd rfl (yl_move rfl rfl (sd rfl (yl_len Try.un53 rfl rfl (sd rfl (yl_lss rfl rfl rfl (SeqR.done (tn ?_))))))))))))
   refine CW.cond_f rfl (lt_f hlt41) (CW.exit (tx (tx ?_)))
   have hL58 : loopM (B_l_toIdxS_0 p_a) (p_a.length - 0) 0 ((List.replicate p_a.length d_Idx)) = .done (x22) := hI32.symm.trans (loopM.stop hlt41)
   refine bx (tn (CW.seq (CW.region (sd rfl (yl_move rfl rfl (sd rfl (yl_assign rfl rfl (SeqR.done (tn (CW.ret ?_))))))))))
   refine rr rfl (.cons rfl .nil) ?_
   have hM59 : p_a = (x22) := (to_IdxS _).symm.trans <| by simp only [l_toIdxS, hL58, cond_true, cond_false, loopE_done, loopE_ret]
   subst hM59
   exact ⟨(some ⟨b4, 0, none⟩), p_a.length, b4, (b4 + 1), rfl, hf38, (by omega), hf39⟩
set_option maxRecDepth 100000 in
set_option maxHeartbeats 2000000 in
theorem c_l_toTable {A1 : Option Addr} {c1 : Nat} {A2 : Option Addr} {c2 : Nat} {w : World} (p_a : DTable) (h1 : RdS w (Iv 0 w.heap.size) (RF e_Str) 1 A1 p_a.Cols.length c1 p_a.Cols) (h2 : RdS w (Iv 0 w.heap.size) (RF e_Idx) 3 A2 p_a.Idxs.length c2 p_a.Idxs) (o3 : ok_Table p_a) : Cal Try.prog 35 #[.agg #[.string (bs (p_a.Name)), .slice A1 p_a.Cols.length c1, .slice A2 p_a.Idxs.length c2]] w fun v w' => ∃ A_1 c_1 lo_1 hi_1 A_2 c_2 lo_2 hi_2, v = .agg #[.string (bs (p_a.Name)), .slice A_1 p_a.Cols.length c_1, .slice A_2 p_a.Idxs.length c_2] ∧ OwnL w' lo_1 hi_1 9 1 (RF e_Str) A_1 p_a.Cols.length c_1 p_a.Cols ∧ OwnL w' lo_2 hi_2 152 3 (RF e_Idx) A_2 p_a.Idxs.length c_2 p_a.Idxs ∧ (w.heap.size ≤ lo_1 ∧ lo_1 ≤ hi_1 ∧ hi_1 ≤ w'.heap.size) ∧ (w.heap.size ≤ lo_2 ∧ lo_2 ≤ hi_2 ∧ hi_2 ≤ w'.heap.size) ∧ (hi_1 ≤ lo_2 ∨ hi_2 ≤ lo_1) ∧ Ex w w' := by
 have hol4 : p_a.Name.length ≤ 1073741824 := o3.1
 have hol5 := o3.2.1.1
 have hol6 := o3.2.2.1
 refine Cal.of (vs := [.agg #[.string (bs (p_a.Name)), .slice A1 p_a.Cols.length c1, .slice A2 p_a.Idxs.length c2]]) Try.func35 rfl Try.ntmps35 rfl (CW.seq (CW.region (sd rfl (yl_box (cs := [.string (bs (p_a.Name)), .slice A1 p_a.Cols.length c1, .slice A2 p_a.Idxs.length c2]) rfl rfl rfl ?_))))
 intro b7 w8 hs9 hz10 hB11 hE12
 refine sd rfl (yl_alloc Try.ty65 (cs := [.string (bs (([] : Str))), .slice none 0 0, .slice none 0 0]) rfl rfl ?_)
 intro b13 w14 hs15 hz16 hB17 hE18
 refine SeqR.done (tn (CW.seq (CW.region (sd rfl (yl_alloc Try.ty65 (cs := [.string (bs (([] : Str))), .slice none 0 0, .slice none 0 0]) rfl rfl ?_)))))
 intro b19 w20 hs21 hz22 hB23 hE24
 refine SeqR.done (tn (CW.seq (CW.region (sd rfl (yl_fieldAddr Try.fd55_0 rfl rfl ?_)))))
 have q26 := Box.ex (Box.ex hB11 hE18) hE24
 refine sd rfl (yl_load1 Try.ty9 rfl rfl ((q26.cell 0).trans rfl) (sd rfl (yl_fieldAddr Try.fd65_0 rfl rfl (SeqR.u rfl rfl (yl_store (vs := [.string (bs (p_a.Name))]) Try.ty9 rfl rfl rfl rfl rfl rfl hB23 (Nat.le_of_ble_eq_true rfl) ?_)))))
 intro w27 hB28 hO29
 have hB28 : Box w27 b19 65 [.string (bs (p_a.Name)), .slice none 0 0, .slice none 0 0] := hB28
 have hO29z := hO29.size
 refine SeqR.done (tn (CW.seq (CW.region (sd rfl (yl_fieldAddr Try.fd55_1 rfl rfl ?_)))))
 have q30 := Box.only q26 hO29 (by omega)
 refine sd rfl (yl_load1 Try.ty52 rfl rfl ((q30.cell 1).trans rfl) (sd rfl (yl_call Try.en106 rfl (opvs_cons rfl opvs_nil) (Cal.mono (c_l_toStringS p_a.Cols (RdS.up (RdS.only good_Str (RdS.ex good_Str (RdS.ex good_Str (RdS.ex good_Str h1 hE12) hE18) hE24) hO29 (by simp only [Iv]; omega)) good_Str) o3.2.1) ?_))))
 rintro v37 w35 ⟨A36, c36, lo36, hi36, rfl, h36, hrn39, hE38⟩
 have hE38z := Ex.size hE38
 refine sd rfl (yl_fieldAddr Try.fd65_1 rfl rfl (SeqR.u rfl rfl (yl_store (vs := [.slice A36 p_a.Cols.length c36]) Try.ty52 rfl rfl rfl rfl rfl rfl (Box.ex hB28 hE38) (Nat.le_of_ble_eq_true rfl) ?_)))
 intro w41 hB42 hO43
 have hB42 : Box w41 b19 65 [.string (bs (p_a.Name)), .slice A36 p_a.Cols.length c36, .slice none 0 0] := hB42
 have hO43z := hO43.size
 refine SeqR.done (tn (CW.seq (CW.region (sd rfl (yl_fieldAddr Try.fd55_2 rfl rfl (sd rfl (yl_load1 Try.ty53 rfl rfl (((Box.only (Box.ex q30 hE38) hO43 (by omega)).cell 2).trans rfl) (sd rfl (yl_call Try.en107 rfl (opvs_cons rfl opvs_nil) (Cal.mono (c_l_toIdxS p_a.Idxs (RdS.up (RdS.only good_Idx (RdS.ex good_Idx (RdS.only good_Idx (RdS.ex good_Idx (RdS.ex good_Idx (RdS.ex good_Idx h2 hE12) hE18) hE24) hO29 (by simp only [Iv]; omega)) hE38) hO43 (by simp only [Iv]; omega)) good_Idx) o3.2.2) ?_))))))))))
 rintro v54 w52 ⟨A53, c53, lo53, hi53, rfl, h53, hrn56, hE55⟩
 have hE55z := Ex.size hE55
 refine sd rfl (yl_fieldAddr Try.fd65_2 rfl rfl (SeqR.u rfl rfl (yl_store (vs := [.slice A53 p_a.Idxs.length c53]) Try.ty63 rfl rfl rfl rfl rfl rfl (Box.ex hB42 hE55) (Nat.le_of_ble_eq_true rfl) ?_)))
 intro w58 hB59 hO60
 have hB59 : Box w58 b19 65 [.string (bs (p_a.Name)), .slice A36 p_a.Cols.length c36, .slice A53 p_a.Idxs.length c53] := hB59
 have hO60z := hO60.size
 refine SeqR.done (tn (CW.seq (CW.region (sd rfl (yl_loadN (cs := [.string (bs (p_a.Name)), .slice A36 p_a.Cols.length c36, .slice A53 p_a.Idxs.length c53]) Try.ty65 rfl rfl (hB59.cells (n := 3) rfl) rfl (SeqR.u rfl rfl (yl_store (vs := [.string (bs (p_a.Name)), .slice A36 p_a.Cols.length c36, .slice A53 p_a.Idxs.length c53]) Try.ty65 rfl rfl rfl rfl rfl rfl (Box.only (Box.ex (Box.only (Box.ex (Box.only (Box.ex hB17 hE24) hO29 (by omega)) hE38) hO43 (by omega)) hE55) hO60 (by omega)) (Nat.le_of_ble_eq_true rfl) ?_)))))))
 intro w67 hB68 hO69
 have hB68 : Box w67 b13 65 [.string (bs (p_a.Name)), .slice A36 p_a.Cols.length c36, .slice A53 p_a.Idxs.length c53] := hB68
 have hO69z := hO69.size
 refine SeqR.done (tn (CW.ret (rr rfl (.cons ⟨_, rfl, run_loadN Try.ty65 (cs := [.string (bs (p_a.Name)), .slice A36 p_a.Cols.length c36, .slice A53 p_a.Idxs.length c53]) rfl (hB68.cells (n := 3) rfl)⟩ .nil) ?_)))
 have hM70 : p_a = (p_a) := (to_Table _).symm.trans <| by simp only [l_toTable, cond_true, cond_false, loopE_done, loopE_ret]
 rw [hM70]
 exact ⟨A36, c36, lo36, hi36, A53, c53, lo53, hi53, rfl, (OwnL.only good_Str (OwnL.only good_Str (OwnL.ex good_Str (OwnL.only good_Str h36 hO43 (by omega)) hE55) hO60 (by omega)) hO69 (by omega)), (OwnL.only good_Idx (OwnL.only good_Idx h53 hO60 (by omega)) hO69 (by omega)), (by omega), (by omega), (by omega), (Below.only (Below.only (Ex.trans (Below.only (Ex.trans (Below.only (Ex.trans (Ex.trans (Ex.trans (Ex.refl w) hE12) hE18) hE24) hO29 (by omega)) hE38) hO43 (by omega)) hE55) hO60 (by omega)) hO69 (by omega))⟩
set_option maxRecDepth 100000 in
set_option maxHeartbeats 2000000 in
theorem c_l_eqOp {w : World} (p_a : DOp) (p_b : DOp) : Cal Try.prog 111 #[.agg #[.int .i64 (p_a.Kind), .string (bs (p_a.Key)), .string (bs (p_a.Val)), .int .i64 (p_a.By)], .agg #[.int .i64 (p_b.Kind), .string (bs (p_b.Key)), .string (bs (p_b.Val)), .int .i64 (p_b.By)]] w fun v w' => v = .bool ((l_eqOp p_a p_b)) ∧ Ex w w' := by
 refine Cal.of (vs := [.agg #[.int .i64 (p_a.Kind), .string (bs (p_a.Key)), .string (bs (p_a.Val)), .int .i64 (p_a.By)], .agg #[.int .i64 (p_b.Kind), .string (bs (p_b.Key)), .string (bs (p_b.Val)), .int .i64 (p_b.By)]]) Try.func111 rfl Try.ntmps111 rfl (CW.seq (CW.region (sd rfl (yl_box (cs := [.int .i64 (p_a.Kind), .string (bs (p_a.Key)), .string (bs (p_a.Val)), .int .i64 (p_a.By)]) rfl rfl rfl ?_))))
 intro b1 w2 hs3 hz4 hB5 hE6
 refine sd rfl (yl_box (cs := [.int .i64 (p_b.Kind), .string (bs (p_b.Key)), .string (bs (p_b.Val)), .int .i64 (p_b.By)]) rfl rfl rfl ?_)
 intro b7 w8 hs9 hz10 hB11 hE12
 refine sd rfl (yl_assign rfl rfl (SeqR.done (tn (CW.seq (CW.seq (CW.region (sd rfl (yl_fieldAddr Try.fd163_0 rfl rfl ?_))))))))
 have q13 := Box.ex hB5 hE12
 refine sd rfl (yl_load1 Try.ty3 rfl rfl ((q13.cell 0).trans rfl) (sd rfl (yl_fieldAddr Try.fd163_0 rfl rfl (sd rfl (yl_load1 Try.ty3 rfl rfl ((hB11.cell 0).trans rfl) (sd rfl (yl_neq rfl rfl rfl (SeqR.done (tn (bcase (decide (p_a.Kind = p_b.Kind)) (fun hb14 => ?_) (fun hb14 => ?_)))))))))))
 ·have hb14p := dec_t hb14
  refine CW.cond_f rfl (not_t hb14) (CW.skip (tn (CW.seq (CW.seq (CW.region (sd rfl (yl_fieldAddr Try.fd163_1 rfl rfl (sd rfl (yl_load1 Try.ty9 rfl rfl ((q13.cell 1).trans rfl) (sd rfl (yl_fieldAddr Try.fd163_1 rfl rfl ?_)))))))))))
  refine sd rfl (yl_load1 Try.ty9 rfl rfl ((hB11.cell 1).trans rfl) (sd rfl (yl_sneq (a := p_a.Key) (b := p_b.Key) rfl rfl rfl (SeqR.done (tn (bcase (p_a.Key == p_b.Key) (fun hb15 => ?_) (fun hb15 => ?_)))))))
  ·refine CW.cond_f rfl (not_t hb15) (CW.skip (tn (CW.seq (CW.seq (CW.region (sd rfl (yl_fieldAddr Try.fd163_2 rfl rfl (sd rfl (yl_load1 Try.ty9 rfl rfl ((q13.cell 2).trans rfl) (sd rfl (yl_fieldAddr Try.fd163_2 rfl rfl ?_)))))))))))
   refine sd rfl (yl_load1 Try.ty9 rfl rfl ((hB11.cell 2).trans rfl) (sd rfl (yl_sneq (a := p_a.Val) (b := p_b.Val) rfl rfl rfl (SeqR.done (tn (bcase (p_a.Val == p_b.Val) (fun hb16 => ?_) (fun hb16 => ?_)))))))
   ·refine CW.cond_f rfl (not_t hb16) (CW.skip (tn (CW.seq (CW.seq (CW.region (sd rfl (yl_fieldAddr Try.fd163_3 rfl rfl (sd rfl (yl_load1 Try.ty3 rfl rfl ((q13.cell 3).trans rfl) (sd rfl (yl_fieldAddr Try.fd163_3 rfl rfl ?_)))))))))))
    refine sd rfl (yl_load1 Try.ty3 rfl rfl ((hB11.cell 3).trans rfl) (sd rfl (yl_neq rfl rfl rfl (SeqR.done (tn (bcase (decide (p_a.By = p_b.By)) (fun hb17 => ?_) (fun hb17 => ?_)))))))
    ·have hb17p := dec_t hb17
     refine CW.cond_f rfl (not_t hb17) (CW.skip (tn (CW.seq (CW.region (sd rfl (yl_assign rfl rfl (SeqR.done (tn (CW.ret ?_)))))))))
     refine rr rfl (.cons rfl .nil) ?_
     have hM18 : (l_eqOp p_a p_b) = (true) := by simp only [l_eqOp, hb14, hb15, hb16, hb17, cond_true, cond_false, loopE_done, loopE_ret]
     rw [hM18]
     exact ⟨rfl, (Ex.trans (Ex.trans (Ex.refl w) hE6) hE12)⟩
    ·have hb17p := dec_f hb17
     refine CW.cond_t rfl (not_f hb17) (CW.seq (CW.region (sd rfl (yl_assign rfl rfl (SeqR.done (tn (CW.ret (tr (rr rfl (.cons rfl .nil) ?_)))))))))
     have hM21 : (l_eqOp p_a p_b) = (false) := by simp only [l_eqOp, hb14, hb15, hb16, hb17, cond_true, cond_false, loopE_done, loopE_ret]
     rw [hM21]
     exact ⟨rfl, (Ex.trans (Ex.trans (Ex.refl w) hE6) hE12)⟩
   ·refine CW.cond_t rfl (not_f hb16) (CW.seq (CW.region (sd rfl (yl_assign rfl rfl (SeqR.done (tn (CW.ret (tr (rr rfl (.cons rfl .nil) ?_)))))))))
    have hM24 : (l_eqOp p_a p_b) = (false) := by simp only [l_eqOp, hb14, hb15, hb16, cond_true, cond_false, loopE_done, loopE_ret]
    rw [hM24]
    exact ⟨rfl, (Ex.trans (Ex.trans (Ex.refl w) hE6) hE12)⟩
  ·refine CW.cond_t rfl (not_f hb15) (CW.seq (CW.region (sd rfl (yl_assign rfl rfl (SeqR.done (tn (CW.ret (tr (rr rfl (.cons rfl .nil) ?_)))))))))
   have hM27 : (l_eqOp p_a p_b) = (false) := by simp only [l_eqOp, hb14, hb15, cond_true, cond_false, loopE_done, loopE_ret]
   rw [hM27]
   exact ⟨rfl, (Ex.trans (Ex.trans (Ex.refl w) hE6) hE12)⟩
 ·have hb14p := dec_f hb14
  refine CW.cond_t rfl (not_f hb14) (CW.seq (CW.region (sd rfl (yl_assign rfl rfl (SeqR.done (tn (CW.ret (tr (rr rfl (.cons rfl .nil) ?_)))))))))
  have hM30 : (l_eqOp p_a p_b) = (false) := by simp only [l_eqOp, hb14, cond_true, cond_false, loopE_done, loopE_ret]
  rw [hM30]
  exact ⟨rfl, (Ex.trans (Ex.trans (Ex.refl w) hE6) hE12)⟩
set_option maxRecDepth 100000 in
set_option maxHeartbeats 2000000 in
theorem c_l_eqOpS {A1 : Option Addr} {c1 : Nat} {A2 : Option Addr} {c2 : Nat} {w : World} (p_a : List DOp) (p_b : List DOp) (h1 : RdS w (Iv 0 w.heap.size) (RF e_Op) 4 A1 p_a.length c1 p_a) (h2 : RdS w (Iv 0 w.heap.size) (RF e_Op) 4 A2 p_b.length c2 p_b) : Cal Try.prog 38 #[.slice A1 p_a.length c1, .slice A2 p_b.length c2] w fun v w' => v = .bool ((l_eqOpS p_a p_b)) ∧ Ex w w' := by
 refine Cal.of (vs := [.slice A1 p_a.length c1, .slice A2 p_b.length c2]) Try.func38 rfl Try.ntmps38 rfl (CW.seq (CW.region (sd rfl (yl_assign rfl rfl (SeqR.done (tn (CW.seq (CW.seq (CW.region ?_)))))))))
 refine sd rfl (yl_move rfl rfl (sd rfl (yl_len Try.un60 rfl rfl (sd rfl (yl_move rfl rfl (sd rfl (yl_len Try.un60 rfl rfl (sd rfl (yl_neq rfl rfl rfl (SeqR.done (tn (bcase (decide ((p_a.length : Int) = (p_b.length : Int))) (fun hb3 => ?_) (fun hb3 => ?_)))))))))))))
 ·have hb3p := dec_t hb3
  refine CW.cond_f rfl (not_t hb3) (CW.skip (tn (CW.seq (CW.seq (CW.region (sd rfl (yl_assign rfl rfl (SeqR.done (tn ?_)))))))))
  refine CW.block (CW.loop (fun m5 L6 w7 => ∃ (k4 : Nat), m5 = p_a.length - k4 ∧ k4 ≤ p_a.length ∧ w.heap.size ≤ w7.heap.size ∧ lkp L6 0 = some (.slice A1 p_a.length c1) ∧ lkp L6 1 = some (.slice A2 p_b.length c2) ∧ lkp L6 5 = some (.int .i64 ((k4 : Int))) ∧ RdS w7 (Iv 0 w.heap.size) (RF e_Op) 4 A1 p_a.length c1 p_a ∧ RdS w7 (Iv 0 w.heap.size) (RF e_Op) 4 A2 p_b.length c2 p_b ∧ Ex w w7 ∧ loopM (B_l_eqOpS_0 p_a p_b) (p_a.length - k4) k4 () = loopM (B_l_eqOpS_0 p_a p_b) (p_a.length - 0) 0 ()) (p_a.length - 0) ?_ ?_)
  ·exact ⟨0, rfl, (by omega), Nat.le_refl _, rfl, rfl, rfl, h1, h2, (Ex.refl w), rfl⟩
  ·rintro m8 L9 w10 ⟨k4, rfl, hk11, hsz13, hl14, hl15, hl16, hf17, hf18, hf19, hI12⟩
   refine CW.sub (Sub.cons hl14 (Sub.cons hl15 (Sub.cons hl16 (Sub.nil _)))) ?_
   have hf19z := Ex.size hf19
   have hbg20 := RdS.big hf17
   rcases Nat.lt_or_ge k4 p_a.length with hlt21 | hlt21
   ·refine CW.seq (CW.seq (CW.region (sd rfl (yl_move rfl rfl (sd rfl (yl_move rfl rfl (sd rfl (yl_len Try.un60 rfl rfl (sd rfl (yl_lss rfl rfl rfl (SeqR.done (tn ?_))))))))))))
    refine CW.cond_t rfl (lt_t hlt21) (CW.skip (tn (CW.seq (CW.block (CW.seq ?_)))))
    obtain ⟨eb22, eo22, ec22, eA22, eS22, ebl22, el22, eR22, eC22⟩ := RdS.atD hf17 d_Op (i := k4) (by first | omega | assumption)
    obtain rfl := eR22
    have eC22 : Cells w10 eb22 (eo22 + k4 * 4) [.int .i64 ((p_a.getD k4 d_Op).Kind), .string (bs ((p_a.getD k4 d_Op).Key)), .string (bs ((p_a.getD k4 d_Op).Val)), .int .i64 ((p_a.getD k4 d_Op).By)] := eC22
    obtain ⟨eb23, eo23, ec23, eA23, eS23, ebl23, el23, eR23, eC23⟩ := RdS.atD hf18 d_Op (i := k4) (by first | omega | assumption)
    obtain rfl := eR23
    have eC23 : Cells w10 eb23 (eo23 + k4 * 4) [.int .i64 ((p_b.getD k4 d_Op).Kind), .string (bs ((p_b.getD k4 d_Op).Key)), .string (bs ((p_b.getD k4 d_Op).Val)), .int .i64 ((p_b.getD k4 d_Op).By)] := eC23
    refine CW.drawsI 10 (vgetI [DetI (.slice A1 p_a.length c1), DetI (.int .i64 ((k4 : Int))), DetI (.pointer (some ⟨eb22, eo22 + k4 * 4, none⟩)), DetI (.agg #[.int .i64 ((p_a.getD k4 d_Op).Kind), .string (bs ((p_a.getD k4 d_Op).Key)), .string (bs ((p_a.getD k4 d_Op).Val)), .int .i64 ((p_a.getD k4 d_Op).By)]), DetI (.slice A2 p_b.length c2), DetI (.int .i64 ((k4 : Int))), DetI (.pointer (some ⟨eb23, eo23 + k4 * 4, none⟩)), DetI (.agg #[.int .i64 ((p_b.getD k4 d_Op).Kind), .string (bs ((p_b.getD k4 d_Op).Key)), .string (bs ((p_b.getD k4 d_Op).Val)), .int .i64 ((p_b.getD k4 d_Op).By)]), DetI (.bool ((l_eqOp (p_a.getD k4 d_Op) (p_b.getD k4 d_Op)))), DetI (.bool (!(l_eqOp (p_a.getD k4 d_Op) (p_b.getD k4 d_Op))))]) Try.follows rfl rfl rfl rfl rfl rfl (vgetI_stable ⟨StableI.det _, StableI.det _, StableI.det _, StableI.det _, StableI.det _, StableI.det _, StableI.det _, StableI.det _, StableI.det _, StableI.det _, trivial⟩) ⟨?_, ?_, ?_, ?_, ?_, ?_, ?_, ?_, ?_, ?_, trivial⟩ ?_
    ·exact fun _ _ h => os rfl ((yl_move rfl (h.old 0 _ rfl rfl) kI))
    ·exact fun _ _ h => os rfl ((yl_move rfl (h.old 5 _ rfl rfl) kI))
    ·intro L35 w36 hi37
     have hE38 := hi37.ex
     have hE38z := Ex.size hE38
     exact os rfl ((yl_indexAddrN Try.un60 Try.ty163 rfl (hi37.dt 0 17 rfl rfl rfl) (hi37.dt 1 18 rfl rfl rfl) eA22 (by first | omega | assumption | (simp only [IntKind.wrap_i64] at *; omega)) kI))
    ·exact fun _ _ h => os rfl ((yl_loadN (cs := [.int .i64 ((p_a.getD k4 d_Op).Kind), .string (bs ((p_a.getD k4 d_Op).Key)), .string (bs ((p_a.getD k4 d_Op).Val)), .int .i64 ((p_a.getD k4 d_Op).By)]) Try.ty163 rfl (h.dt 2 19 rfl rfl rfl) (Cells.ex eC22 h.ex) rfl kI))
    ·exact fun _ _ h => os rfl ((yl_move rfl (h.old 1 _ rfl rfl) kI))
    ·exact fun _ _ h => os rfl ((yl_move rfl (h.old 5 _ rfl rfl) kI))
    ·intro L57 w58 hi59
     have hE60 := hi59.ex
     have hE60z := Ex.size hE60
     exact os rfl ((yl_indexAddrN Try.un60 Try.ty163 rfl (hi59.dt 4 21 rfl rfl rfl) (hi59.dt 5 22 rfl rfl rfl) eA23 (by first | omega | assumption | (simp only [IntKind.wrap_i64] at *; omega)) kI))
    ·exact fun _ _ h => os rfl ((yl_loadN (cs := [.int .i64 ((p_b.getD k4 d_Op).Kind), .string (bs ((p_b.getD k4 d_Op).Key)), .string (bs ((p_b.getD k4 d_Op).Val)), .int .i64 ((p_b.getD k4 d_Op).By)]) Try.ty163 rfl (h.dt 6 23 rfl rfl rfl) (Cells.ex eC23 h.ex) rfl kI))
    ·intro L69 w70 hi71
     refine OpR.op' rfl (yl_call Try.en111 rfl (opvs_cons (hi71.dt 3 20 rfl rfl rfl) (opvs_cons (hi71.dt 7 24 rfl rfl rfl) opvs_nil)) (Cal.mono (c_l_eqOp (p_a.getD k4 d_Op) (p_b.getD k4 d_Op)) ?_))
     rintro v76 w75 ⟨rfl, hE77⟩
     exact ⟨rfl, hE77⟩
    ·exact fun _ _ h => os rfl ((yl_not rfl (h.dt 8 25 rfl rfl rfl) kI))
    ·intro fl86 fh87 L83 w84 hp85
     have hE88 := hp85.ex
     have hE88z := Ex.size hE88
     refine SeqR.done (tn (CW.sub (Sub.cons (d := 0) (hp85.old 0 _ rfl rfl) (Sub.cons (d := 1) (hp85.old 1 _ rfl rfl) (Sub.cons (d := 5) (hp85.old 5 _ rfl rfl) (Sub.cons (d := 26) (hp85.nt 9 26 rfl rfl rfl) (Sub.nil _))))) (bcase (l_eqOp (p_a.getD k4 d_Op) (p_b.getD k4 d_Op)) (fun hb93 => ?_) (fun hb93 => ?_))))
     ·refine CW.cond_f rfl (not_t hb93) (CW.skip (bn (tn (CW.region (sd rfl (yl_move rfl rfl (sd rfl (yl_inc rfl rfl rfl (by omega) (sd rfl (yl_assign rfl rfl (SeqR.done ?_)))))))))))
      refine tn ?_
      have hB94 : B_l_eqOpS_0 p_a p_b k4 () = .cont () := by simp only [B_l_eqOpS_0, hb3, hb93, cond_true, cond_false, loopE_done, loopE_ret]
      exact ⟨p_a.length - (k4 + 1), by omega, k4 + 1, rfl, hlt21, (by omega), rfl, rfl, rfl, (RdS.ex good_Op hf17 hE88), (RdS.ex good_Op hf18 hE88), (Ex.trans hf19 hE88), (loopM.cont hlt21 hB94).symm.trans hI12⟩
     ·refine CW.cond_t rfl (not_f hb93) (CW.seq (CW.region (sd rfl (yl_assign rfl rfl (SeqR.done (tn (CW.ret (br (tr ?_)))))))))
      refine tr ?_
      have hB99 : B_l_eqOpS_0 p_a p_b k4 () = .ret false := by simp only [B_l_eqOpS_0, hb3, hb93, cond_true, cond_false, loopE_done, loopE_ret]
      have hL98 : loopM (B_l_eqOpS_0 p_a p_b) (p_a.length - 0) 0 () = .ret false := hI12.symm.trans (loopM.ret hlt21 hB99)
      refine br (tr (rr rfl (.cons rfl .nil) ?_))
      have hM100 : (l_eqOpS p_a p_b) = (false) := by simp only [l_eqOpS, hb3, hb93, hL98, cond_true, cond_false, loopE_done, loopE_ret]
      rw [hM100]
      exact ⟨rfl, (Ex.trans hf19 hE88)⟩
   ·refine CW.seq (CW.seq (CW.region (sd rfl (yl_move rfl rfl (sd rfl (yl_move rfl rfl (sd rfl (yl_len Try.un60 rfl rfl (sd rfl (yl_lss rfl rfl rfl (SeqR.done (tn ?_))))))))))))
    refine CW.cond_f rfl (lt_f hlt21) (CW.exit (tx (tx ?_)))
    have hL102 : loopM (B_l_eqOpS_0 p_a p_b) (p_a.length - 0) 0 () = .done () := hI12.symm.trans (loopM.stop hlt21)
    refine bx (tn (CW.seq (CW.region (sd rfl (yl_assign rfl rfl (SeqR.done (tn (CW.ret (rr rfl (.cons rfl .nil) ?_)))))))))
    have hM103 : (l_eqOpS p_a p_b) = (true) := by simp only [l_eqOpS, hb3, hL102, cond_true, cond_false, loopE_done, loopE_ret]
    rw [hM103]
    exact ⟨rfl, hf19⟩
 ·have hb3p := dec_f hb3
  refine CW.cond_t rfl (not_f hb3) (CW.seq (CW.region (sd rfl (yl_assign rfl rfl (SeqR.done (tn (CW.ret (tr (rr rfl (.cons rfl .nil) ?_)))))))))
  have hM104 : (l_eqOpS p_a p_b) = (false) := by simp only [l_eqOpS, hb3, cond_true, cond_false, loopE_done, loopE_ret]
  rw [hM104]
  exact ⟨rfl, (Ex.refl w)⟩
set_option maxRecDepth 100000 in
set_option maxHeartbeats 2000000 in
theorem c_l_eqStringS {A1 : Option Addr} {c1 : Nat} {A2 : Option Addr} {c2 : Nat} {w : World} (p_a : List Str) (p_b : List Str) (h1 : RdS w (Iv 0 w.heap.size) (RF e_Str) 1 A1 p_a.length c1 p_a) (h2 : RdS w (Iv 0 w.heap.size) (RF e_Str) 1 A2 p_b.length c2 p_b) : Cal Try.prog 51 #[.slice A1 p_a.length c1, .slice A2 p_b.length c2] w fun v w' => v = .bool ((l_eqStringS p_a p_b)) ∧ Ex w w' := by
 refine Cal.of (vs := [.slice A1 p_a.length c1, .slice A2 p_b.length c2]) Try.func51 rfl Try.ntmps51 rfl (CW.seq (CW.region (sd rfl (yl_assign rfl rfl (SeqR.done (tn (CW.seq (CW.seq (CW.region ?_)))))))))
 refine sd rfl (yl_move rfl rfl (sd rfl (yl_len Try.un52 rfl rfl (sd rfl (yl_move rfl rfl (sd rfl (yl_len Try.un52 rfl rfl (sd rfl (yl_neq rfl rfl rfl (SeqR.done (tn (bcase (decide ((p_a.length : Int) = (p_b.length : Int))) (fun hb3 => ?_) (fun hb3 => ?_)))))))))))))
 ·have hb3p := dec_t hb3
  refine CW.cond_f rfl (not_t hb3) (CW.skip (tn (CW.seq (CW.seq (CW.region (sd rfl (yl_assign rfl rfl (SeqR.done (tn ?_)))))))))
  refine CW.block (CW.loop (fun m5 L6 w7 => ∃ (k4 : Nat), m5 = p_a.length - k4 ∧ k4 ≤ p_a.length ∧ w.heap.size ≤ w7.heap.size ∧ lkp L6 0 = some (.slice A1 p_a.length c1) ∧ lkp L6 1 = some (.slice A2 p_b.length c2) ∧ lkp L6 5 = some (.int .i64 ((k4 : Int))) ∧ RdS w7 (Iv 0 w.heap.size) (RF e_Str) 1 A1 p_a.length c1 p_a ∧ RdS w7 (Iv 0 w.heap.size) (RF e_Str) 1 A2 p_b.length c2 p_b ∧ Ex w w7 ∧ loopM (B_l_eqStringS_0 p_a p_b) (p_a.length - k4) k4 () = loopM (B_l_eqStringS_0 p_a p_b) (p_a.length - 0) 0 ()) (p_a.length - 0) ?_ ?_)
  ·exact ⟨0, rfl, (by omega), Nat.le_refl _, rfl, rfl, rfl, h1, h2, (Ex.refl w), rfl⟩
  ·rintro m8 L9 w10 ⟨k4, rfl, hk11, hsz13, hl14, hl15, hl16, hf17, hf18, hf19, hI12⟩
   refine CW.sub (Sub.cons hl14 (Sub.cons hl15 (Sub.cons hl16 (Sub.nil _)))) ?_
   have hf19z := Ex.size hf19
   have hbg20 := RdS.big hf17
   rcases Nat.lt_or_ge k4 p_a.length with hlt21 | hlt21
   ·refine CW.seq (CW.seq (CW.region (sd rfl (yl_move rfl rfl (sd rfl (yl_move rfl rfl (sd rfl (yl_len Try.un52 rfl rfl (sd rfl (yl_lss rfl rfl rfl (SeqR.done (tn ?_))))))))))))
    refine CW.cond_t rfl (lt_t hlt21) (CW.skip (tn (CW.seq (CW.block (CW.seq ?_)))))
    obtain ⟨eb22, eo22, ec22, eA22, eS22, ebl22, el22, eR22, eC22⟩ := RdS.atD hf17 d_Str (i := k4) (by first | omega | assumption)
    obtain rfl := eR22
    have eC22 : Cells w10 eb22 (eo22 + k4 * 1) [.string (bs ((p_a.getD k4 d_Str)))] := eC22
    obtain ⟨eb23, eo23, ec23, eA23, eS23, ebl23, el23, eR23, eC23⟩ := RdS.atD hf18 d_Str (i := k4) (by first | omega | assumption)
    obtain rfl := eR23
    have eC23 : Cells w10 eb23 (eo23 + k4 * 1) [.string (bs ((p_b.getD k4 d_Str)))] := eC23
    refine CW.drawsI 9 (vgetI [DetI (.slice A1 p_a.length c1), DetI (.int .i64 ((k4 : Int))), DetI (.pointer (some ⟨eb22, eo22 + k4 * 1, none⟩)), DetI (.string (bs ((p_a.getD k4 d_Str)))), DetI (.slice A2 p_b.length c2), DetI (.int .i64 ((k4 : Int))), DetI (.pointer (some ⟨eb23, eo23 + k4 * 1, none⟩)), DetI (.string (bs ((p_b.getD k4 d_Str)))), DetI (.bool (!((p_a.getD k4 d_Str) == (p_b.getD k4 d_Str))))]) Try.follows rfl rfl rfl rfl rfl rfl (vgetI_stable ⟨StableI.det _, StableI.det _, StableI.det _, StableI.det _, StableI.det _, StableI.det _, StableI.det _, StableI.det _, StableI.det _, trivial⟩) ⟨?_, ?_, ?_, ?_, ?_, ?_, ?_, ?_, ?_, trivial⟩ ?_
    ·exact fun _ _ h => os rfl ((yl_move rfl (h.old 0 _ rfl rfl) kI))
    ·exact fun _ _ h => os rfl ((yl_move rfl (h.old 5 _ rfl rfl) kI))
    ·intro L34 w35 hi36
     have hE37 := hi36.ex
     have hE37z := Ex.size hE37
     exact os rfl ((yl_indexAddrN Try.un52 Try.ty9 rfl (hi36.dt 0 17 rfl rfl rfl) (hi36.dt 1 18 rfl rfl rfl) eA22 (by first | omega | assumption | (simp only [IntKind.wrap_i64] at *; omega)) kI))
    ·exact fun _ _ h => os rfl ((yl_load1 Try.ty9 rfl (h.dt 2 19 rfl rfl rfl) ((Cells.ex eC22 h.ex) 0 _ rfl) kI))
    ·exact fun _ _ h => os rfl ((yl_move rfl (h.old 1 _ rfl rfl) kI))
    ·exact fun _ _ h => os rfl ((yl_move rfl (h.old 5 _ rfl rfl) kI))
    ·intro L56 w57 hi58
     have hE59 := hi58.ex
     have hE59z := Ex.size hE59
     exact os rfl ((yl_indexAddrN Try.un52 Try.ty9 rfl (hi58.dt 4 21 rfl rfl rfl) (hi58.dt 5 22 rfl rfl rfl) eA23 (by first | omega | assumption | (simp only [IntKind.wrap_i64] at *; omega)) kI))
    ·exact fun _ _ h => os rfl ((yl_load1 Try.ty9 rfl (h.dt 6 23 rfl rfl rfl) ((Cells.ex eC23 h.ex) 0 _ rfl) kI))
    ·exact fun _ _ h => os rfl ((yl_sneq (a := (p_a.getD k4 d_Str)) (b := (p_b.getD k4 d_Str)) rfl (h.dt 3 20 rfl rfl rfl) (h.dt 7 24 rfl rfl rfl) kI))
    ·intro fl77 fh78 L74 w75 hp76
     have hE79 := hp76.ex
     have hE79z := Ex.size hE79
     refine SeqR.done (tn (CW.sub (Sub.cons (d := 0) (hp76.old 0 _ rfl rfl) (Sub.cons (d := 1) (hp76.old 1 _ rfl rfl) (Sub.cons (d := 5) (hp76.old 5 _ rfl rfl) (Sub.cons (d := 25) (hp76.nt 8 25 rfl rfl rfl) (Sub.nil _))))) (bcase ((p_a.getD k4 d_Str) == (p_b.getD k4 d_Str)) (fun hb84 => ?_) (fun hb84 => ?_))))
     ·refine CW.cond_f rfl (not_t hb84) (CW.skip (bn (tn (CW.region (sd rfl (yl_move rfl rfl (sd rfl (yl_inc rfl rfl rfl (by omega) (sd rfl (yl_assign rfl rfl (SeqR.done ?_)))))))))))
      refine tn ?_
      have hB85 : B_l_eqStringS_0 p_a p_b k4 () = .cont () := by simp only [B_l_eqStringS_0, hb3, hb84, cond_true, cond_false, loopE_done, loopE_ret]
      exact ⟨p_a.length - (k4 + 1), by omega, k4 + 1, rfl, hlt21, (by omega), rfl, rfl, rfl, (RdS.ex good_Str hf17 hE79), (RdS.ex good_Str hf18 hE79), (Ex.trans hf19 hE79), (loopM.cont hlt21 hB85).symm.trans hI12⟩
     ·refine CW.cond_t rfl (not_f hb84) (CW.seq (CW.region (sd rfl (yl_assign rfl rfl (SeqR.done (tn (CW.ret (br (tr ?_)))))))))
      refine tr ?_
      have hB90 : B_l_eqStringS_0 p_a p_b k4 () = .ret false := by simp only [B_l_eqStringS_0, hb3, hb84, cond_true, cond_false, loopE_done, loopE_ret]
      have hL89 : loopM (B_l_eqStringS_0 p_a p_b) (p_a.length - 0) 0 () = .ret false := hI12.symm.trans (loopM.ret hlt21 hB90)
      refine br (tr (rr rfl (.cons rfl .nil) ?_))
      have hM91 : (l_eqStringS p_a p_b) = (false) := by simp only [l_eqStringS, hb3, hb84, hL89, cond_true, cond_false, loopE_done, loopE_ret]
      rw [hM91]
      exact ⟨rfl, (Ex.trans hf19 hE79)⟩
   ·refine CW.seq (CW.seq (CW.region (sd rfl (yl_move rfl rfl (sd rfl (yl_move rfl rfl (sd rfl (yl_len Try.un52 rfl rfl (sd rfl (yl_lss rfl rfl rfl (SeqR.done (tn ?_))))))))))))
    refine CW.cond_f rfl (lt_f hlt21) (CW.exit (tx (tx ?_)))
    have hL93 : loopM (B_l_eqStringS_0 p_a p_b) (p_a.length - 0) 0 () = .done () := hI12.symm.trans (loopM.stop hlt21)
    refine bx (tn (CW.seq (CW.region (sd rfl (yl_assign rfl rfl (SeqR.done (tn (CW.ret (rr rfl (.cons rfl .nil) ?_)))))))))
    have hM94 : (l_eqStringS p_a p_b) = (true) := by simp only [l_eqStringS, hb3, hL93, cond_true, cond_false, loopE_done, loopE_ret]
    rw [hM94]
    exact ⟨rfl, hf19⟩
 ·have hb3p := dec_f hb3
  refine CW.cond_t rfl (not_f hb3) (CW.seq (CW.region (sd rfl (yl_assign rfl rfl (SeqR.done (tn (CW.ret (tr (rr rfl (.cons rfl .nil) ?_)))))))))
  have hM95 : (l_eqStringS p_a p_b) = (false) := by simp only [l_eqStringS, hb3, cond_true, cond_false, loopE_done, loopE_ret]
  rw [hM95]
  exact ⟨rfl, (Ex.refl w)⟩
set_option maxRecDepth 100000 in
set_option maxHeartbeats 2000000 in
theorem c_l_eqIdx {w : World} (p_a : DIdx) (p_b : DIdx) : Cal Try.prog 171 #[.agg #[.string (bs (p_a.Name)), .int .i64 (p_a.Col), .int .i64 (p_a.Stage)], .agg #[.string (bs (p_b.Name)), .int .i64 (p_b.Col), .int .i64 (p_b.Stage)]] w fun v w' => v = .bool ((l_eqIdx p_a p_b)) ∧ Ex w w' := by
 refine Cal.of (vs := [.agg #[.string (bs (p_a.Name)), .int .i64 (p_a.Col), .int .i64 (p_a.Stage)], .agg #[.string (bs (p_b.Name)), .int .i64 (p_b.Col), .int .i64 (p_b.Stage)]]) Try.func171 rfl Try.ntmps171 rfl (CW.seq (CW.region (sd rfl (yl_box (cs := [.string (bs (p_a.Name)), .int .i64 (p_a.Col), .int .i64 (p_a.Stage)]) rfl rfl rfl ?_))))
 intro b1 w2 hs3 hz4 hB5 hE6
 refine sd rfl (yl_box (cs := [.string (bs (p_b.Name)), .int .i64 (p_b.Col), .int .i64 (p_b.Stage)]) rfl rfl rfl ?_)
 intro b7 w8 hs9 hz10 hB11 hE12
 refine sd rfl (yl_assign rfl rfl (SeqR.done (tn (CW.seq (CW.seq (CW.region (sd rfl (yl_fieldAddr Try.fd152_0 rfl rfl ?_))))))))
 have q13 := Box.ex hB5 hE12
 refine sd rfl (yl_load1 Try.ty9 rfl rfl ((q13.cell 0).trans rfl) (sd rfl (yl_fieldAddr Try.fd152_0 rfl rfl (sd rfl (yl_load1 Try.ty9 rfl rfl ((hB11.cell 0).trans rfl) (sd rfl (yl_sneq (a := p_a.Name) (b := p_b.Name) rfl rfl rfl (SeqR.done (tn (bcase (p_a.Name == p_b.Name) (fun hb14 => ?_) (fun hb14 => ?_)))))))))))
 ·refine CW.cond_f rfl (not_t hb14) (CW.skip (tn (CW.seq (CW.seq (CW.region (sd rfl (yl_fieldAddr Try.fd152_1 rfl rfl (sd rfl (yl_load1 Try.ty3 rfl rfl ((q13.cell 1).trans rfl) (sd rfl (yl_fieldAddr Try.fd152_1 rfl rfl ?_)))))))))))
  refine sd rfl (yl_load1 Try.ty3 rfl rfl ((hB11.cell 1).trans rfl) (sd rfl (yl_neq rfl rfl rfl (SeqR.done (tn (bcase (decide (p_a.Col = p_b.Col)) (fun hb15 => ?_) (fun hb15 => ?_)))))))
  ·have hb15p := dec_t hb15
   refine CW.cond_f rfl (not_t hb15) (CW.skip (tn (CW.seq (CW.seq (CW.region (sd rfl (yl_fieldAddr Try.fd152_2 rfl rfl (sd rfl (yl_load1 Try.ty3 rfl rfl ((q13.cell 2).trans rfl) (sd rfl (yl_fieldAddr Try.fd152_2 rfl rfl ?_)))))))))))
   refine sd rfl (yl_load1 Try.ty3 rfl rfl ((hB11.cell 2).trans rfl) (sd rfl (yl_neq rfl rfl rfl (SeqR.done (tn (bcase (decide (p_a.Stage = p_b.Stage)) (fun hb16 => ?_) (fun hb16 => ?_)))))))
   ·have hb16p := dec_t hb16
    refine CW.cond_f rfl (not_t hb16) (CW.skip (tn (CW.seq (CW.region (sd rfl (yl_assign rfl rfl (SeqR.done (tn (CW.ret ?_)))))))))
    refine rr rfl (.cons rfl .nil) ?_
    have hM17 : (l_eqIdx p_a p_b) = (true) := by simp only [l_eqIdx, hb14, hb15, hb16, cond_true, cond_false, loopE_done, loopE_ret]
    rw [hM17]
    exact ⟨rfl, (Ex.trans (Ex.trans (Ex.refl w) hE6) hE12)⟩
   ·have hb16p := dec_f hb16
    refine CW.cond_t rfl (not_f hb16) (CW.seq (CW.region (sd rfl (yl_assign rfl rfl (SeqR.done (tn (CW.ret (tr (rr rfl (.cons rfl .nil) ?_)))))))))
    have hM20 : (l_eqIdx p_a p_b) = (false) := by simp only [l_eqIdx, hb14, hb15, hb16, cond_true, cond_false, loopE_done, loopE_ret]
    rw [hM20]
    exact ⟨rfl, (Ex.trans (Ex.trans (Ex.refl w) hE6) hE12)⟩
  ·have hb15p := dec_f hb15
   refine CW.cond_t rfl (not_f hb15) (CW.seq (CW.region (sd rfl (yl_assign rfl rfl (SeqR.done (tn (CW.ret (tr (rr rfl (.cons rfl .nil) ?_)))))))))
   have hM23 : (l_eqIdx p_a p_b) = (false) := by simp only [l_eqIdx, hb14, hb15, cond_true, cond_false, loopE_done, loopE_ret]
   rw [hM23]
   exact ⟨rfl, (Ex.trans (Ex.trans (Ex.refl w) hE6) hE12)⟩
 ·refine CW.cond_t rfl (not_f hb14) (CW.seq (CW.region (sd rfl (yl_assign rfl rfl (SeqR.done (tn (CW.ret (tr (rr rfl (.cons rfl .nil) ?_)))))))))
  have hM26 : (l_eqIdx p_a p_b) = (false) := by simp only [l_eqIdx, hb14, cond_true, cond_false, loopE_done, loopE_ret]
  rw [hM26]
  exact ⟨rfl, (Ex.trans (Ex.trans (Ex.refl w) hE6) hE12)⟩
set_option maxRecDepth 100000 in
set_option maxHeartbeats 2000000 in
theorem c_l_eqIdxS {A1 : Option Addr} {c1 : Nat} {A2 : Option Addr} {c2 : Nat} {w : World} (p_a : List DIdx) (p_b : List DIdx) (h1 : RdS w (Iv 0 w.heap.size) (RF e_Idx) 3 A1 p_a.length c1 p_a) (h2 : RdS w (Iv 0 w.heap.size) (RF e_Idx) 3 A2 p_b.length c2 p_b) : Cal Try.prog 112 #[.slice A1 p_a.length c1, .slice A2 p_b.length c2] w fun v w' => v = .bool ((l_eqIdxS p_a p_b)) ∧ Ex w w' := by
 refine Cal.of (vs := [.slice A1 p_a.length c1, .slice A2 p_b.length c2]) Try.func112 rfl Try.ntmps112 rfl (CW.seq (CW.region (sd rfl (yl_assign rfl rfl (SeqR.done (tn (CW.seq (CW.seq (CW.region ?_)))))))))
 refine sd rfl (yl_move rfl rfl (sd rfl (yl_len Try.un63 rfl rfl (sd rfl (yl_move rfl rfl (sd rfl (yl_len Try.un63 rfl rfl (sd rfl (yl_neq rfl rfl rfl (SeqR.done (tn (bcase (decide ((p_a.length : Int) = (p_b.length : Int))) (fun hb3 => ?_) (fun hb3 => ?_)))))))))))))
 ·have hb3p := dec_t hb3
  refine CW.cond_f rfl (not_t hb3) (CW.skip (tn (CW.seq (CW.seq (CW.region (sd rfl (yl_assign rfl rfl (SeqR.done (tn ?_)))))))))
  refine CW.block (CW.loop (fun m5 L6 w7 => ∃ (k4 : Nat), m5 = p_a.length - k4 ∧ k4 ≤ p_a.length ∧ w.heap.size ≤ w7.heap.size ∧ lkp L6 0 = some (.slice A1 p_a.length c1) ∧ lkp L6 1 = some (.slice A2 p_b.length c2) ∧ lkp L6 5 = some (.int .i64 ((k4 : Int))) ∧ RdS w7 (Iv 0 w.heap.size) (RF e_Idx) 3 A1 p_a.length c1 p_a ∧ RdS w7 (Iv 0 w.heap.size) (RF e_Idx) 3 A2 p_b.length c2 p_b ∧ Ex w w7 ∧ loopM (B_l_eqIdxS_0 p_a p_b) (p_a.length - k4) k4 () = loopM (B_l_eqIdxS_0 p_a p_b) (p_a.length - 0) 0 ()) (p_a.length - 0) ?_ ?_)
  ·exact ⟨0, rfl, (by omega), Nat.le_refl _, rfl, rfl, rfl, h1, h2, (Ex.refl w), rfl⟩
  ·rintro m8 L9 w10 ⟨k4, rfl, hk11, hsz13, hl14, hl15, hl16, hf17, hf18, hf19, hI12⟩
   refine CW.sub (Sub.cons hl14 (Sub.cons hl15 (Sub.cons hl16 (Sub.nil _)))) ?_
   have hf19z := Ex.size hf19
   have hbg20 := RdS.big hf17
   rcases Nat.lt_or_ge k4 p_a.length with hlt21 | hlt21
   ·refine CW.seq (CW.seq (CW.region (sd rfl (yl_move rfl rfl (sd rfl (yl_move rfl rfl (sd rfl (yl_len Try.un63 rfl rfl (sd rfl (yl_lss rfl rfl rfl (SeqR.done (tn ?_))))))))))))
    refine CW.cond_t rfl (lt_t hlt21) (CW.skip (tn (CW.seq (CW.block (CW.seq ?_)))))
    obtain ⟨eb22, eo22, ec22, eA22, eS22, ebl22, el22, eR22, eC22⟩ := RdS.atD hf17 d_Idx (i := k4) (by first | omega | assumption)
    obtain rfl := eR22
    have eC22 : Cells w10 eb22 (eo22 + k4 * 3) [.string (bs ((p_a.getD k4 d_Idx).Name)), .int .i64 ((p_a.getD k4 d_Idx).Col), .int .i64 ((p_a.getD k4 d_Idx).Stage)] := eC22
    obtain ⟨eb23, eo23, ec23, eA23, eS23, ebl23, el23, eR23, eC23⟩ := RdS.atD hf18 d_Idx (i := k4) (by first | omega | assumption)
    obtain rfl := eR23
    have eC23 : Cells w10 eb23 (eo23 + k4 * 3) [.string (bs ((p_b.getD k4 d_Idx).Name)), .int .i64 ((p_b.getD k4 d_Idx).Col), .int .i64 ((p_b.getD k4 d_Idx).Stage)] := eC23
    refine CW.drawsI 10 (vgetI [DetI (.slice A1 p_a.length c1), DetI (.int .i64 ((k4 : Int))), DetI (.pointer (some ⟨eb22, eo22 + k4 * 3, none⟩)), DetI (.agg #[.string (bs ((p_a.getD k4 d_Idx).Name)), .int .i64 ((p_a.getD k4 d_Idx).Col), .int .i64 ((p_a.getD k4 d_Idx).Stage)]), DetI (.slice A2 p_b.length c2), DetI (.int .i64 ((k4 : Int))), DetI (.pointer (some ⟨eb23, eo23 + k4 * 3, none⟩)), DetI (.agg #[.string (bs ((p_b.getD k4 d_Idx).Name)), .int .i64 ((p_b.getD k4 d_Idx).Col), .int .i64 ((p_b.getD k4 d_Idx).Stage)]), DetI (.bool ((l_eqIdx (p_a.getD k4 d_Idx) (p_b.getD k4 d_Idx)))), DetI (.bool (!(l_eqIdx (p_a.getD k4 d_Idx) (p_b.getD k4 d_Idx))))]) Try.follows rfl rfl rfl rfl rfl rfl (vgetI_stable ⟨StableI.det _, StableI.det _, StableI.det _, StableI.det _, StableI.det _, StableI.det _, StableI.det _, StableI.det _, StableI.det _, StableI.det _, trivial⟩) ⟨?_, ?_, ?_, ?_, ?_, ?_, ?_, ?_, ?_, ?_, trivial⟩ ?_
    ·exact fun _ _ h => os rfl ((yl_move rfl (h.old 0 _ rfl rfl) kI))
    ·exact fun _ _ h => os rfl ((yl_move rfl (h.old 5 _ rfl rfl) kI))
    ·intro L35 w36 hi37
     have hE38 := hi37.ex
     have hE38z := Ex.size hE38
     exact os rfl ((yl_indexAddrN Try.un63 Try.ty152 rfl (hi37.dt 0 17 rfl rfl rfl) (hi37.dt 1 18 rfl rfl rfl) eA22 (by first | omega | assumption | (simp only [IntKind.wrap_i64] at *; omega)) kI))
    ·exact fun _ _ h => os rfl ((yl_loadN (cs := [.string (bs ((p_a.getD k4 d_Idx).Name)), .int .i64 ((p_a.getD k4 d_Idx).Col), .int .i64 ((p_a.getD k4 d_Idx).Stage)]) Try.ty152 rfl (h.dt 2 19 rfl rfl rfl) (Cells.ex eC22 h.ex) rfl kI))
    ·exact fun _ _ h => os rfl ((yl_move rfl (h.old 1 _ rfl rfl) kI))
    ·exact fun _ _ h => os rfl ((yl_move rfl (h.old 5 _ rfl rfl) kI))
    ·intro L57 w58 hi59
     have hE60 := hi59.ex
     have hE60z := Ex.size hE60
     exact os rfl ((yl_indexAddrN Try.un63 Try.ty152 rfl (hi59.dt 4 21 rfl rfl rfl) (hi59.dt 5 22 rfl rfl rfl) eA23 (by first | omega | assumption | (simp only [IntKind.wrap_i64] at *; omega)) kI))
    ·exact fun _ _ h => os rfl ((yl_loadN (cs := [.string (bs ((p_b.getD k4 d_Idx).Name)), .int .i64 ((p_b.getD k4 d_Idx).Col), .int .i64 ((p_b.getD k4 d_Idx).Stage)]) Try.ty152 rfl (h.dt 6 23 rfl rfl rfl) (Cells.ex eC23 h.ex) rfl kI))
    ·intro L69 w70 hi71
     refine OpR.op' rfl (yl_call Try.en171 rfl (opvs_cons (hi71.dt 3 20 rfl rfl rfl) (opvs_cons (hi71.dt 7 24 rfl rfl rfl) opvs_nil)) (Cal.mono (c_l_eqIdx (p_a.getD k4 d_Idx) (p_b.getD k4 d_Idx)) ?_))
     rintro v76 w75 ⟨rfl, hE77⟩
     exact ⟨rfl, hE77⟩
    ·exact fun _ _ h => os rfl ((yl_not rfl (h.dt 8 25 rfl rfl rfl) kI))
    ·intro fl86 fh87 L83 w84 hp85
     have hE88 := hp85.ex
     have hE88z := Ex.size hE88
     refine SeqR.done (tn (CW.sub (Sub.cons (d := 0) (hp85.old 0 _ rfl rfl) (Sub.cons (d := 1) (hp85.old 1 _ rfl rfl) (Sub.cons (d := 5) (hp85.old 5 _ rfl rfl) (Sub.cons (d := 26) (hp85.nt 9 26 rfl rfl rfl) (Sub.nil _))))) (bcase (l_eqIdx (p_a.getD k4 d_Idx) (p_b.getD k4 d_Idx)) (fun hb93 => ?_) (fun hb93 => ?_))))
     ·refine CW.cond_f rfl (not_t hb93) (CW.skip (bn (tn (CW.region (sd rfl (yl_move rfl rfl (sd rfl (yl_inc rfl rfl rfl (by omega) (sd rfl (yl_assign rfl rfl (SeqR.done ?_)))))))))))
      refine tn ?_
      have hB94 : B_l_eqIdxS_0 p_a p_b k4 () = .cont () := by simp only [B_l_eqIdxS_0, hb3, hb93, cond_true, cond_false, loopE_done, loopE_ret]
      exact ⟨p_a.length - (k4 + 1), by omega, k4 + 1, rfl, hlt21, (by omega), rfl, rfl, rfl, (RdS.ex good_Idx hf17 hE88), (RdS.ex good_Idx hf18 hE88), (Ex.trans hf19 hE88), (loopM.cont hlt21 hB94).symm.trans hI12⟩
     ·refine CW.cond_t rfl (not_f hb93) (CW.seq (CW.region (sd rfl (yl_assign rfl rfl (SeqR.done (tn (CW.ret (br (tr ?_)))))))))
      refine tr ?_
      have hB99 : B_l_eqIdxS_0 p_a p_b k4 () = .ret false := by simp only [B_l_eqIdxS_0, hb3, hb93, cond_true, cond_false, loopE_done, loopE_ret]
      have hL98 : loopM (B_l_eqIdxS_0 p_a p_b) (p_a.length - 0) 0 () = .ret false := hI12.symm.trans (loopM.ret hlt21 hB99)
      refine br (tr (rr rfl (.cons rfl .nil) ?_))
      have hM100 : (l_eqIdxS p_a p_b) = (false) := by simp only [l_eqIdxS, hb3, hb93, hL98, cond_true, cond_false, loopE_done, loopE_ret]
      rw [hM100]
      exact ⟨rfl, (Ex.trans hf19 hE88)⟩
   ·refine CW.seq (CW.seq (CW.region (sd rfl (yl_move rfl rfl (sd rfl (yl_move rfl rfl (sd rfl (yl_len Try.un63 rfl rfl (sd rfl (yl_lss rfl rfl rfl (SeqR.done (tn ?_))))))))))))
    refine CW.cond_f rfl (lt_f hlt21) (CW.exit (tx (tx ?_)))
    have hL102 : loopM (B_l_eqIdxS_0 p_a p_b) (p_a.length - 0) 0 () = .done () := hI12.symm.trans (loopM.stop hlt21)
    refine bx (tn (CW.seq (CW.region (sd rfl (yl_assign rfl rfl (SeqR.done (tn (CW.ret (rr rfl (.cons rfl .nil) ?_)))))))))
    have hM103 : (l_eqIdxS p_a p_b) = (true) := by simp only [l_eqIdxS, hb3, hL102, cond_true, cond_false, loopE_done, loopE_ret]
    rw [hM103]
    exact ⟨rfl, hf19⟩
 ·have hb3p := dec_f hb3
  refine CW.cond_t rfl (not_f hb3) (CW.seq (CW.region (sd rfl (yl_assign rfl rfl (SeqR.done (tn (CW.ret (tr (rr rfl (.cons rfl .nil) ?_)))))))))
  have hM104 : (l_eqIdxS p_a p_b) = (false) := by simp only [l_eqIdxS, hb3, cond_true, cond_false, loopE_done, loopE_ret]
  rw [hM104]
  exact ⟨rfl, (Ex.refl w)⟩
set_option maxRecDepth 100000 in
set_option maxHeartbeats 2000000 in
theorem c_l_eqTable {A1 : Option Addr} {c1 : Nat} {A2 : Option Addr} {c2 : Nat} {A3 : Option Addr} {c3 : Nat} {A4 : Option Addr} {c4 : Nat} {w : World} (p_a : DTable) (p_b : DTable) (h1 : RdS w (Iv 0 w.heap.size) (RF e_Str) 1 A1 p_a.Cols.length c1 p_a.Cols) (h2 : RdS w (Iv 0 w.heap.size) (RF e_Idx) 3 A2 p_a.Idxs.length c2 p_a.Idxs) (h3 : RdS w (Iv 0 w.heap.size) (RF e_Str) 1 A3 p_b.Cols.length c3 p_b.Cols) (h4 : RdS w (Iv 0 w.heap.size) (RF e_Idx) 3 A4 p_b.Idxs.length c4 p_b.Idxs) : Cal Try.prog 39 #[.agg #[.string (bs (p_a.Name)), .slice A1 p_a.Cols.length c1, .slice A2 p_a.Idxs.length c2], .agg #[.string (bs (p_b.Name)), .slice A3 p_b.Cols.length c3, .slice A4 p_b.Idxs.length c4]] w fun v w' => v = .bool ((l_eqTable p_a p_b)) ∧ Ex w w' := by
 refine Cal.of (vs := [.agg #[.string (bs (p_a.Name)), .slice A1 p_a.Cols.length c1, .slice A2 p_a.Idxs.length c2], .agg #[.string (bs (p_b.Name)), .slice A3 p_b.Cols.length c3, .slice A4 p_b.Idxs.length c4]]) Try.func39 rfl Try.ntmps39 rfl (CW.seq (CW.region (sd rfl (yl_box (cs := [.string (bs (p_a.Name)), .slice A1 p_a.Cols.length c1, .slice A2 p_a.Idxs.length c2]) rfl rfl rfl ?_))))
 intro b5 w6 hs7 hz8 hB9 hE10
 refine sd rfl (yl_box (cs := [.string (bs (p_b.Name)), .slice A3 p_b.Cols.length c3, .slice A4 p_b.Idxs.length c4]) rfl rfl rfl ?_)
 intro b11 w12 hs13 hz14 hB15 hE16
 refine sd rfl (yl_assign rfl rfl (SeqR.done (tn (CW.seq (CW.seq (CW.region (sd rfl (yl_fieldAddr Try.fd65_0 rfl rfl ?_))))))))
 have q17 := Box.ex hB9 hE16
 refine sd rfl (yl_load1 Try.ty9 rfl rfl ((q17.cell 0).trans rfl) (sd rfl (yl_fieldAddr Try.fd65_0 rfl rfl (sd rfl (yl_load1 Try.ty9 rfl rfl ((hB15.cell 0).trans rfl) (sd rfl (yl_sneq (a := p_a.Name) (b := p_b.Name) rfl rfl rfl (SeqR.done (tn (bcase (p_a.Name == p_b.Name) (fun hb18 => ?_) (fun hb18 => ?_)))))))))))
 ·refine CW.cond_f rfl (not_t hb18) (CW.skip (tn (CW.seq (CW.seq (CW.region (sd rfl (yl_fieldAddr Try.fd65_1 rfl rfl (sd rfl (yl_load1 Try.ty52 rfl rfl ((q17.cell 1).trans rfl) (sd rfl (yl_fieldAddr Try.fd65_1 rfl rfl ?_)))))))))))
  refine sd rfl (yl_load1 Try.ty52 rfl rfl ((hB15.cell 1).trans rfl) (sd rfl (yl_call Try.en51 rfl (opvs_cons rfl (opvs_cons rfl opvs_nil)) (Cal.mono (c_l_eqStringS p_a.Cols p_b.Cols (RdS.up (RdS.ex good_Str (RdS.ex good_Str h1 hE10) hE16) good_Str) (RdS.up (RdS.ex good_Str (RdS.ex good_Str h3 hE10) hE16) good_Str)) ?_))))
  rintro v24 w23 ⟨rfl, hE25⟩
  have hE25z := Ex.size hE25
  refine sd rfl (yl_not rfl rfl (SeqR.done (tn (bcase (l_eqStringS p_a.Cols p_b.Cols) (fun hb26 => ?_) (fun hb26 => ?_)))))
  ·refine CW.cond_f rfl (not_t hb26) (CW.skip (tn (CW.seq (CW.seq (CW.region (sd rfl (yl_fieldAddr Try.fd65_2 rfl rfl (sd rfl (yl_load1 Try.ty63 rfl rfl (((Box.ex q17 hE25).cell 2).trans rfl) (sd rfl (yl_fieldAddr Try.fd65_2 rfl rfl ?_)))))))))))
   refine sd rfl (yl_load1 Try.ty63 rfl rfl (((Box.ex hB15 hE25).cell 2).trans rfl) (sd rfl (yl_call Try.en112 rfl (opvs_cons rfl (opvs_cons rfl opvs_nil)) (Cal.mono (c_l_eqIdxS p_a.Idxs p_b.Idxs (RdS.up (RdS.ex good_Idx (RdS.ex good_Idx (RdS.ex good_Idx h2 hE10) hE16) hE25) good_Idx) (RdS.up (RdS.ex good_Idx (RdS.ex good_Idx (RdS.ex good_Idx h4 hE10) hE16) hE25) good_Idx)) ?_))))
   rintro v36 w35 ⟨rfl, hE37⟩
   have hE37z := Ex.size hE37
   refine sd rfl (yl_not rfl rfl (SeqR.done (tn (bcase (l_eqIdxS p_a.Idxs p_b.Idxs) (fun hb38 => ?_) (fun hb38 => ?_)))))
   ·refine CW.cond_f rfl (not_t hb38) (CW.skip (tn (CW.seq (CW.region (sd rfl (yl_assign rfl rfl (SeqR.done (tn (CW.ret ?_)))))))))
    refine rr rfl (.cons rfl .nil) ?_
    have hM39 : (l_eqTable p_a p_b) = (true) := by simp only [l_eqTable, hb18, hb26, hb38, cond_true, cond_false, loopE_done, loopE_ret]
    rw [hM39]
    exact ⟨rfl, (Ex.trans (Ex.trans (Ex.trans (Ex.trans (Ex.refl w) hE10) hE16) hE25) hE37)⟩
   ·refine CW.cond_t rfl (not_f hb38) (CW.seq (CW.region (sd rfl (yl_assign rfl rfl (SeqR.done (tn (CW.ret (tr (rr rfl (.cons rfl .nil) ?_)))))))))
    have hM44 : (l_eqTable p_a p_b) = (false) := by simp only [l_eqTable, hb18, hb26, hb38, cond_true, cond_false, loopE_done, loopE_ret]
    rw [hM44]
    exact ⟨rfl, (Ex.trans (Ex.trans (Ex.trans (Ex.trans (Ex.refl w) hE10) hE16) hE25) hE37)⟩
  ·refine CW.cond_t rfl (not_f hb26) (CW.seq (CW.region (sd rfl (yl_assign rfl rfl (SeqR.done (tn (CW.ret (tr (rr rfl (.cons rfl .nil) ?_)))))))))
   have hM49 : (l_eqTable p_a p_b) = (false) := by simp only [l_eqTable, hb18, hb26, cond_true, cond_false, loopE_done, loopE_ret]
   rw [hM49]
   exact ⟨rfl, (Ex.trans (Ex.trans (Ex.trans (Ex.refl w) hE10) hE16) hE25)⟩
 ·refine CW.cond_t rfl (not_f hb18) (CW.seq (CW.region (sd rfl (yl_assign rfl rfl (SeqR.done (tn (CW.ret (tr (rr rfl (.cons rfl .nil) ?_)))))))))
  have hM53 : (l_eqTable p_a p_b) = (false) := by simp only [l_eqTable, hb18, cond_true, cond_false, loopE_done, loopE_ret]
  rw [hM53]
  exact ⟨rfl, (Ex.trans (Ex.trans (Ex.refl w) hE10) hE16)⟩
set_option maxRecDepth 100000 in
set_option maxHeartbeats 2000000 in
theorem c_l_markText {w : World} (p_k : Int) (pre0 : p_k ≤ 9223372036854775807) : Cal Try.prog 95 #[.int .i64 (p_k)] w fun v w' => v = .string (bs ((l_markText p_k))) ∧ Ex w w' := by
 refine Cal.of (vs := [.int .i64 (p_k)]) Try.func95 rfl Try.ntmps95 rfl (CW.seq (CW.region (sd rfl (yl_assign rfl rfl (SeqR.done (tn (CW.seq (CW.seq (CW.region ?_)))))))))
 refine sd rfl (yl_move rfl rfl (sd rfl (yl_leq rfl rfl rfl (SeqR.done (tn (bcase (decide (p_k ≤ 0)) (fun hb1 => ?_) (fun hb1 => ?_)))))))
 ·have hb1p := dec_t hb1
  refine CW.cond_t rfl hb1 (CW.seq (CW.region (sd rfl (yl_assign rfl rfl (SeqR.done (tn (CW.ret (tr (rr rfl (.cons rfl .nil) ?_)))))))))
  have hM2 : (l_markText p_k) = (([109, 48] : Str)) := by simp only [l_markText, hb1, cond_true, cond_false, loopE_done, loopE_ret]
  rw [hM2]
  exact ⟨rfl, (Ex.refl w)⟩
 ·have hb1p := dec_f hb1
  refine CW.cond_f rfl hb1 (CW.skip (tn (CW.seq (CW.region (sd rfl (yl_assign rfl rfl (SeqR.done (tn (CW.seq ?_)))))))))
  refine CW.block (CW.loop (fun m18 L19 w20 => ∃ (x16 : Int) (x17 : Str), (((x16).toNat + 1) / 2) < m18 ∧ w.heap.size ≤ w20.heap.size ∧ lkp L19 0 = some (.int .i64 (x16)) ∧ lkp L19 3 = some (.string (bs (x17))) ∧ Ex w w20 ∧ x17.length + 1 * (((x16).toNat + 1) / 2) ≤ 0 + 1 * (((p_k).toNat + 1) / 2) ∧ x16 ≤ 9223372036854775807 ∧ loopW (B_l_markText_0 p_k) m18 (x16, x17) = loopW (B_l_markText_0 p_k) ((((p_k).toNat + 1) / 2) + 1) (p_k, ([] : Str))) ((((p_k).toNat + 1) / 2) + 1) ?_ ?_)
  ·exact ⟨p_k, ([] : Str), Nat.lt_succ_self _, Nat.le_refl _, rfl, rfl, (Ex.refl w), (by first | (simp; done) | (first | omega | (simp only [List.length_append, List.length_cons, List.length_nil, List.length_set, toS_length]; omega))), (by first | omega | assumption | (simp only [IntKind.wrap_i64] at *; omega)), rfl⟩
  ·rintro m21 L22 w23 ⟨x16, x17, hk24, hsz26, hl27, hl28, hf29, hln30, hv31, hI25⟩
   refine CW.sub (Sub.cons hl27 (Sub.cons hl28 (Sub.nil _))) ?_
   have hf29z := Ex.size hf29
   refine CW.seq (CW.seq (CW.region (sd rfl (yl_move rfl rfl (sd rfl (yl_gtr rfl rfl rfl (SeqR.done (tn (bcase (decide (0 < x16)) (fun hb32 => ?_) (fun hb32 => ?_))))))))))
   ·have hb32p := dec_t hb32
    refine CW.cond_t rfl hb32 (CW.skip (tn (CW.block (CW.seq (CW.region (sd rfl (yl_move rfl rfl (sd rfl (yl_rem rfl rfl rfl (by decide) (sd rfl (yl_add rfl rfl rfl ?_)))))))))))
    refine sd rfl (yl_conv Try.un3 Try.un5 rfl rfl (sd rfl (yl_buildSlice (cs := [.int .u8 (IntKind.wrap .u8 (IntKind.wrap .i64 (48 + (Int.tmod x16 10))))]) Try.un197 Try.ty5 (by decide) rfl (opvs_cons rfl opvs_nil) (by kernel_rfl) ?_)))
    intro b33 w34 hs35 hz36 hB37 hE38
    have hO39 : OwnL w34 b33 (b33 + 1) 5 1 (RF e_U8) (some ⟨b33, 0, none⟩) 1 1 ([IntKind.wrap .u8 (IntKind.wrap .i64 (48 + (Int.tmod x16 10)))] : List Int) := OwnL.of_box (S := fun _ => False) hB37 (Nat.le_refl _) (Nat.lt_succ_self _) (EncL.cons (c := [.int .u8 (IntKind.wrap .u8 (IntKind.wrap .i64 (48 + (Int.tmod x16 10))))]) rfl rfl EncL.nil) (Nat.le_of_ble_eq_true rfl) (fun h => h) (fun _ h => False.elim h)
    refine sd rfl (yl_toS Try.un197 Try.un5 Try.un9 rfl rfl (OwnL.rd good_U8 hO39) (sd rfl (yl_move rfl rfl ?_)))
    have hol41 : (toS ([IntKind.wrap .u8 (IntKind.wrap .i64 (48 + (Int.tmod x16 10)))] : List Int)).length ≤ 1073741824 := (okS_toS (Nat.le_of_ble_eq_true rfl))
    refine sd rfl (yl_sadd (a := (toS ([IntKind.wrap .u8 (IntKind.wrap .i64 (48 + (Int.tmod x16 10)))] : List Int))) (b := x17) rfl rfl rfl (by first | omega | (simp only [List.length_append, List.length_cons, List.length_nil, List.length_take, List.length_drop, toS_length]; omega)) (sd rfl (yl_assign rfl rfl (SeqR.done (tn (CW.region (sd rfl (yl_move rfl rfl (sd rfl (yl_quo rfl rfl rfl (by decide) (sd rfl (yl_assign rfl rfl (SeqR.done ?_)))))))))))))
    refine bn (tn ?_)
    have hB42 : B_l_markText_0 p_k (x16, x17) = .cont (IntKind.wrap .i64 (Int.tdiv x16 10), (toS ([IntKind.wrap .u8 (IntKind.wrap .i64 (48 + (Int.tmod x16 10)))] : List Int)) ++ x17) := by simp only [B_l_markText_0, hb1, hb32, cond_true, cond_false, loopE_done, loopE_ret]
    have hmu44 : (((IntKind.wrap .i64 (Int.tdiv x16 10)).toNat + 1) / 2) < (((x16).toNat + 1) / 2) := by (have hq := wtd (n := x16) (c := 10) (by decide) (by omega) (by omega); omega)
    exact ⟨m21 - 1, by omega, IntKind.wrap .i64 (Int.tdiv x16 10), (toS ([IntKind.wrap .u8 (IntKind.wrap .i64 (48 + (Int.tmod x16 10)))] : List Int)) ++ x17, (by omega), (by omega), rfl, rfl, (Ex.trans hf29 hE38), (by first | omega | (simp only [List.length_append, List.length_cons, List.length_nil, List.length_set, toS_length]; omega)), (by (have hq := wtd (n := x16) (c := 10) (by decide) (by omega) (by omega); omega)), (loopW.cont hk24 hB42).symm.trans hI25⟩
   ·have hb32p := dec_f hb32
    refine CW.cond_f rfl hb32 (CW.exit (tx (tx ?_)))
    have hB46 : B_l_markText_0 p_k (x16, x17) = .brk (x16, x17) := by simp only [B_l_markText_0, hb1, hb32, cond_true, cond_false, loopE_done, loopE_ret]
    have hL45 : loopW (B_l_markText_0 p_k) ((((p_k).toNat + 1) / 2) + 1) (p_k, ([] : Str)) = .done (x16, x17) := hI25.symm.trans (loopW.brk hk24 hB46)
    refine bx (tn (CW.seq (CW.region (sd rfl (yl_move rfl rfl (sd rfl (yl_sadd (a := ([109] : Str)) (b := x17) rfl rfl rfl (by first | omega | (simp only [List.length_append, List.length_cons, List.length_nil, List.length_take, List.length_drop, toS_length]; omega)) (sd rfl (yl_assign rfl rfl (SeqR.done (tn ?_)))))))))))
    refine CW.ret (rr rfl (.cons rfl .nil) ?_)
    have hM47 : (l_markText p_k) = (([109] : Str) ++ x17) := by simp only [l_markText, hb1, hb32, hL45, cond_true, cond_false, loopE_done, loopE_ret]
    rw [hM47]
    exact ⟨rfl, hf29⟩
set_option maxRecDepth 100000 in
set_option maxHeartbeats 2000000 in
theorem c_l_markStringS {A1 : Option Addr} {c1 : Nat} {lo1 hi1 : Nat} {w : World} (p_a : List Str) (p_k : Int) (h1 : OwnL w lo1 hi1 9 1 (RF e_Str) A1 p_a.length c1 p_a) (hrn2 : (0 ≤ lo1 ∧ lo1 ≤ hi1 ∧ hi1 ≤ w.heap.size)) (pre0 : p_k ≤ 9223372036854775807) : Cal Try.prog 54 #[.slice A1 p_a.length c1, .int .i64 (p_k)] w fun v w' => v = .int .i64 ((l_markStringS p_a p_k).1) ∧ OwnL w' lo1 hi1 9 1 (RF e_Str) A1 p_a.length c1 ((l_markStringS p_a p_k).2) ∧ Mut [(lo1, hi1)] w w' := by
 refine Cal.of (vs := [.slice A1 p_a.length c1, .int .i64 (p_k)]) Try.func54 rfl Try.ntmps54 rfl (CW.seq (CW.region (sd rfl (yl_assign rfl rfl (SeqR.done (tn (CW.seq (CW.seq (CW.region ?_)))))))))
 refine sd rfl (yl_assign rfl rfl (SeqR.done (tn (CW.block (CW.loop (fun m16 L17 w18 => ∃ (k3 : Nat) (x14 : Int) (x15 : List Str), m16 = p_a.length - k3 ∧ k3 ≤ p_a.length ∧ w.heap.size ≤ w18.heap.size ∧ lkp L17 0 = some (.slice A1 p_a.length c1) ∧ lkp L17 1 = some (.int .i64 (x14)) ∧ lkp L17 5 = some (.int .i64 ((k3 : Int))) ∧ OwnL w18 lo1 hi1 9 1 (RF e_Str) A1 p_a.length c1 x15 ∧ Mut [(lo1, hi1)] w w18 ∧ x14 ≤ 9223372036854775807 ∧ loopM (B_l_markStringS_0 p_a p_k) (p_a.length - k3) k3 (x14, x15) = loopM (B_l_markStringS_0 p_a p_k) (p_a.length - 0) 0 (p_k, p_a)) (p_a.length - 0) ?_ ?_)))))
 ·exact ⟨0, p_k, p_a, rfl, (by omega), Nat.le_refl _, rfl, rfl, rfl, h1, (Mut.refl (l := [(lo1, hi1)]) w), (by first | omega | assumption | (simp only [IntKind.wrap_i64] at *; omega)), rfl⟩
 ·rintro m19 L20 w21 ⟨k3, x14, x15, rfl, hk22, hsz24, hl25, hl26, hl27, hf28, hf29, hv30, hI23⟩
  refine CW.sub (Sub.cons hl25 (Sub.cons hl26 (Sub.cons hl27 (Sub.nil _)))) ?_
  have hf29z := Mut.size hf29
  have hbg31 := RdS.big (OwnL.rd good_Str hf28)
  rcases Nat.lt_or_ge k3 p_a.length with hlt33 | hlt33
  ·refine CW.seq (CW.seq (CW.region (sd rfl (yl_move rfl rfl (sd rfl (yl_move rfl rfl (sd rfl (yl_len Try.un52 rfl rfl (sd rfl (yl_lss rfl rfl rfl (SeqR.done (tn ?_))))))))))))
   refine CW.cond_t rfl (lt_t hlt33) (CW.skip (tn (CW.seq (CW.block (CW.seq (CW.region (sd rfl (yl_move rfl rfl (sd rfl (yl_move rfl rfl ?_))))))))))
   refine sd rfl (yl_move rfl rfl (sd rfl (yl_call Try.en95 rfl (opvs_cons rfl opvs_nil) (Cal.mono (c_l_markText x14 (by first | omega | assumption | (simp only [IntKind.wrap_i64] at *; omega))) ?_))))
   rintro v35 w34 ⟨rfl, hE36⟩
   have hE36z := Ex.size hE36
   have q38 := OwnL.ex good_Str hf28 hE36
   obtain ⟨eb39, eo39, ec39, eA39, eS39, ebl39, el39, eR39, eC39⟩ := RdS.atD (OwnL.rd good_Str q38) d_Str (i := k3) (by first | omega | assumption)
   obtain rfl := eR39
   have eC39 : Cells w34 eb39 (eo39 + k3 * 1) [.string (bs ((x15.getD k3 d_Str)))] := eC39
   refine sd rfl (yl_indexAddrN Try.un52 Try.ty9 rfl rfl rfl eA39 (by first | omega | assumption | (simp only [IntKind.wrap_i64] at *; omega)) ?_)
   have hrg40 := OwnL.rng q38 (i := k3) (by first | omega | assumption | (simp only [IntKind.wrap_i64] at *; omega)) eb39 (by rw [eA39]; rfl)
   refine SeqR.u rfl rfl (yl_storeF (off := eo39) (i := k3) (d := 0) (dx := d_Str) (x' := (l_markText x14)) (vs := [.string (bs ((l_markText x14)))]) Try.ty9 rfl q38 eA39 rfl rfl rfl rfl rfl (by first | omega | assumption | (simp only [IntKind.wrap_i64] at *; omega)) (Nat.le_of_ble_eq_true rfl) rfl rfl ?_)
   intro w41 hB42 hO43
   have hO43z := hO43.size
   refine SeqR.done (tn (CW.region (sd rfl (yl_move rfl rfl (sd rfl (yl_add rfl rfl rfl (sd rfl (yl_assign rfl rfl (SeqR.done (bn (tn ?_)))))))))))
   refine CW.region (sd rfl (yl_move rfl rfl (sd rfl (yl_inc rfl rfl rfl (by omega) (sd rfl (yl_assign rfl rfl (SeqR.done (tn ?_))))))))
   have hB44 : B_l_markStringS_0 p_a p_k k3 (x14, x15) = .cont (IntKind.wrap .i64 (x14 + 1), (x15.set k3 (l_markText x14))) := by simp only [B_l_markStringS_0, cond_true, cond_false, loopE_done, loopE_ret]
   exact ⟨p_a.length - (k3 + 1), by omega, k3 + 1, IntKind.wrap .i64 (x14 + 1), (x15.set k3 (l_markText x14)), rfl, hlt33, (by omega), rfl, rfl, rfl, hB42, (Mut.only (Mut.ex hf29 hE36) hO43 (by simp only [InR, or_false]; omega)), (by first | omega | assumption | (simp only [IntKind.wrap_i64] at *; omega)), (loopM.cont hlt33 hB44).symm.trans hI23⟩
  ·refine CW.seq (CW.seq (CW.region (sd rfl (yl_move rfl rfl (sd rfl (yl_move rfl rfl (sd rfl (yl_len Try.un52 rfl rfl (sd rfl (yl_lss rfl rfl rfl (SeqR.done (tn ?_))))))))))))
   refine CW.cond_f rfl (lt_f hlt33) (CW.exit (tx (tx ?_)))
   have hL47 : loopM (B_l_markStringS_0 p_a p_k) (p_a.length - 0) 0 (p_k, p_a) = .done (x14, x15) := hI23.symm.trans (loopM.stop hlt33)
   refine bx (tn (CW.seq (CW.region (sd rfl (yl_move rfl rfl (sd rfl (yl_assign rfl rfl (SeqR.done (tn (CW.ret ?_))))))))))
   refine rr rfl (.cons rfl .nil) ?_
   have hM48 : (l_markStringS p_a p_k) = ((x14, x15)) := by simp only [l_markStringS, hL47, cond_true, cond_false, loopE_done, loopE_ret]
   rw [hM48]
   exact ⟨rfl, hf28, hf29⟩
set_option maxRecDepth 100000 in
set_option maxHeartbeats 2000000 in
theorem c_l_markIdxS {A1 : Option Addr} {c1 : Nat} {lo1 hi1 : Nat} {w : World} (p_a : List DIdx) (p_k : Int) (h1 : OwnL w lo1 hi1 152 3 (RF e_Idx) A1 p_a.length c1 p_a) (hrn2 : (0 ≤ lo1 ∧ lo1 ≤ hi1 ∧ hi1 ≤ w.heap.size)) (pre0 : p_k ≤ 9223372036854775807) : Cal Try.prog 113 #[.slice A1 p_a.length c1, .int .i64 (p_k)] w fun v w' => v = .int .i64 ((l_markIdxS p_a p_k).1) ∧ OwnL w' lo1 hi1 152 3 (RF e_Idx) A1 p_a.length c1 ((l_markIdxS p_a p_k).2) ∧ Mut [(lo1, hi1)] w w' := by
 refine Cal.of (vs := [.slice A1 p_a.length c1, .int .i64 (p_k)]) Try.func113 rfl Try.ntmps113 rfl (CW.seq (CW.region (sd rfl (yl_assign rfl rfl (SeqR.done (tn (CW.seq (CW.seq (CW.region ?_)))))))))
 refine sd rfl (yl_assign rfl rfl (SeqR.done (tn (CW.block (CW.loop (fun m28 L29 w30 => ∃ (k3 : Nat) (x26 : Int) (x27 : List DIdx), m28 = p_a.length - k3 ∧ k3 ≤ p_a.length ∧ w.heap.size ≤ w30.heap.size ∧ lkp L29 0 = some (.slice A1 p_a.length c1) ∧ lkp L29 1 = some (.int .i64 (x26)) ∧ lkp L29 5 = some (.int .i64 ((k3 : Int))) ∧ OwnL w30 lo1 hi1 152 3 (RF e_Idx) A1 p_a.length c1 x27 ∧ Mut [(lo1, hi1)] w w30 ∧ x26 ≤ 9223372036854775807 ∧ loopM (B_l_markIdxS_0 p_a p_k) (p_a.length - k3) k3 (x26, x27) = loopM (B_l_markIdxS_0 p_a p_k) (p_a.length - 0) 0 (p_k, p_a)) (p_a.length - 0) ?_ ?_)))))
 ·exact ⟨0, p_k, p_a, rfl, (by omega), Nat.le_refl _, rfl, rfl, rfl, h1, (Mut.refl (l := [(lo1, hi1)]) w), (by first | omega | assumption | (simp only [IntKind.wrap_i64] at *; omega)), rfl⟩
 ·rintro m31 L32 w33 ⟨k3, x26, x27, rfl, hk34, hsz36, hl37, hl38, hl39, hf40, hf41, hv42, hI35⟩
  refine CW.sub (Sub.cons hl37 (Sub.cons hl38 (Sub.cons hl39 (Sub.nil _)))) ?_
  have hf41z := Mut.size hf41
  have hbg43 := RdS.big (OwnL.rd good_Idx hf40)
  rcases Nat.lt_or_ge k3 p_a.length with hlt45 | hlt45
  ·refine CW.seq (CW.seq (CW.region (sd rfl (yl_move rfl rfl (sd rfl (yl_move rfl rfl (sd rfl (yl_len Try.un63 rfl rfl (sd rfl (yl_lss rfl rfl rfl (SeqR.done (tn ?_))))))))))))
   refine CW.cond_t rfl (lt_t hlt45) (CW.skip (tn (CW.seq (CW.block (CW.seq (CW.region (sd rfl (yl_move rfl rfl (sd rfl (yl_move rfl rfl ?_))))))))))
   refine sd rfl (yl_move rfl rfl (sd rfl (yl_call Try.en95 rfl (opvs_cons rfl opvs_nil) (Cal.mono (c_l_markText x26 (by first | omega | assumption | (simp only [IntKind.wrap_i64] at *; omega))) ?_))))
   rintro v47 w46 ⟨rfl, hE48⟩
   have hE48z := Ex.size hE48
   have q50 := OwnL.ex good_Idx hf40 hE48
   obtain ⟨eb51, eo51, ec51, eA51, eS51, ebl51, el51, eR51, eC51⟩ := RdS.atD (OwnL.rd good_Idx q50) d_Idx (i := k3) (by first | omega | assumption)
   obtain rfl := eR51
   have eC51 : Cells w46 eb51 (eo51 + k3 * 3) [.string (bs ((x27.getD k3 d_Idx).Name)), .int .i64 ((x27.getD k3 d_Idx).Col), .int .i64 ((x27.getD k3 d_Idx).Stage)] := eC51
   refine sd rfl (yl_indexAddrN Try.un63 Try.ty152 rfl rfl rfl eA51 (by first | omega | assumption | (simp only [IntKind.wrap_i64] at *; omega)) (sd rfl (yl_fieldAddr Try.fd152_0 rfl rfl ?_)))
   have hrg52 := OwnL.rng q50 (i := k3) (by first | omega | assumption | (simp only [IntKind.wrap_i64] at *; omega)) eb51 (by rw [eA51]; rfl)
   refine SeqR.u rfl rfl (yl_storeF (off := eo51) (i := k3) (d := 0) (dx := d_Idx) (x' := (⟨(l_markText x26), (x27.getD k3 d_Idx).Col, (x27.getD k3 d_Idx).Stage⟩ : DIdx)) (vs := [.string (bs ((l_markText x26)))]) Try.ty9 rfl q50 eA51 rfl rfl rfl rfl rfl (by first | omega | assumption | (simp only [IntKind.wrap_i64] at *; omega)) (Nat.le_of_ble_eq_true rfl) rfl rfl ?_)
   intro w53 hB54 hO55
   have hO55z := hO55.size
   refine SeqR.done (tn (CW.seq (CW.region (sd rfl (yl_move rfl rfl (sd rfl (yl_add rfl rfl rfl (sd rfl (yl_assign rfl rfl (SeqR.done (tn ?_)))))))))))
   refine CW.seq (CW.region (sd rfl (yl_move rfl rfl (sd rfl (yl_move rfl rfl (sd rfl (yl_move rfl rfl ?_)))))))
   obtain ⟨eb57, eo57, ec57, eA57, eS57, ebl57, el57, eR57, eC57⟩ := RdS.atD (OwnL.rd good_Idx hB54) d_Idx (i := k3) (by first | omega | assumption)
   obtain rfl := eR57
   have eC57 : Cells w53 eb57 (eo57 + k3 * 3) [.string (bs (((x27.set k3 (⟨(l_markText x26), (x27.getD k3 d_Idx).Col, (x27.getD k3 d_Idx).Stage⟩ : DIdx)).getD k3 d_Idx).Name)), .int .i64 (((x27.set k3 (⟨(l_markText x26), (x27.getD k3 d_Idx).Col, (x27.getD k3 d_Idx).Stage⟩ : DIdx)).getD k3 d_Idx).Col), .int .i64 (((x27.set k3 (⟨(l_markText x26), (x27.getD k3 d_Idx).Col, (x27.getD k3 d_Idx).Stage⟩ : DIdx)).getD k3 d_Idx).Stage)] := eC57
   refine sd rfl (yl_indexAddrN Try.un63 Try.ty152 rfl rfl rfl eA57 (by first | omega | assumption | (simp only [IntKind.wrap_i64] at *; omega)) (sd rfl (yl_fieldAddr Try.fd152_1 rfl rfl ?_)))
   have hrg58 := OwnL.rng hB54 (i := k3) (by first | omega | assumption | (simp only [IntKind.wrap_i64] at *; omega)) eb57 (by rw [eA57]; rfl)
   refine SeqR.u rfl rfl (yl_storeF (off := eo57) (i := k3) (d := 1) (dx := d_Idx) (x' := (⟨((x27.set k3 (⟨(l_markText x26), (x27.getD k3 d_Idx).Col, (x27.getD k3 d_Idx).Stage⟩ : DIdx)).getD k3 d_Idx).Name, IntKind.wrap .i64 (x26 + 1), ((x27.set k3 (⟨(l_markText x26), (x27.getD k3 d_Idx).Col, (x27.getD k3 d_Idx).Stage⟩ : DIdx)).getD k3 d_Idx).Stage⟩ : DIdx)) (vs := [.int .i64 (IntKind.wrap .i64 (x26 + 1))]) Try.ty3 rfl hB54 eA57 rfl rfl rfl rfl rfl (by first | omega | assumption | (simp only [IntKind.wrap_i64] at *; omega)) (Nat.le_of_ble_eq_true rfl) rfl rfl ?_)
   intro w59 hB60 hO61
   have hO61z := hO61.size
   refine SeqR.done (tn (CW.seq (CW.region (sd rfl (yl_move rfl rfl (sd rfl (yl_add rfl rfl rfl (sd rfl (yl_assign rfl rfl (SeqR.done (tn ?_)))))))))))
   refine CW.seq (CW.region (sd rfl (yl_move rfl rfl (sd rfl (yl_move rfl rfl (sd rfl (yl_move rfl rfl ?_)))))))
   obtain ⟨eb63, eo63, ec63, eA63, eS63, ebl63, el63, eR63, eC63⟩ := RdS.atD (OwnL.rd good_Idx hB60) d_Idx (i := k3) (by first | omega | assumption)
   obtain rfl := eR63
   have eC63 : Cells w59 eb63 (eo63 + k3 * 3) [.string (bs ((((x27.set k3 (⟨(l_markText x26), (x27.getD k3 d_Idx).Col, (x27.getD k3 d_Idx).Stage⟩ : DIdx)).set k3 (⟨((x27.set k3 (⟨(l_markText x26), (x27.getD k3 d_Idx).Col, (x27.getD k3 d_Idx).Stage⟩ : DIdx)).getD k3 d_Idx).Name, IntKind.wrap .i64 (x26 + 1), ((x27.set k3 (⟨(l_markText x26), (x27.getD k3 d_Idx).Col, (x27.getD k3 d_Idx).Stage⟩ : DIdx)).getD k3 d_Idx).Stage⟩ : DIdx)).getD k3 d_Idx).Name)), .int .i64 ((((x27.set k3 (⟨(l_markText x26), (x27.getD k3 d_Idx).Col, (x27.getD k3 d_Idx).Stage⟩ : DIdx)).set k3 (⟨((x27.set k3 (⟨(l_markText x26), (x27.getD k3 d_Idx).Col, (x27.getD k3 d_Idx).Stage⟩ : DIdx)).getD k3 d_Idx).Name, IntKind.wrap .i64 (x26 + 1), ((x27.set k3 (⟨(l_markText x26), (x27.getD k3 d_Idx).Col, (x27.getD k3 d_Idx).Stage⟩ : DIdx)).getD k3 d_Idx).Stage⟩ : DIdx)).getD k3 d_Idx).Col), .int .i64 ((((x27.set k3 (⟨(l_markText x26), (x27.getD k3 d_Idx).Col, (x27.getD k3 d_Idx).Stage⟩ : DIdx)).set k3 (⟨((x27.set k3 (⟨(l_markText x26), (x27.getD k3 d_Idx).Col, (x27.getD k3 d_Idx).Stage⟩ : DIdx)).getD k3 d_Idx).Name, IntKind.wrap .i64 (x26 + 1), ((x27.set k3 (⟨(l_markText x26), (x27.getD k3 d_Idx).Col, (x27.getD k3 d_Idx).Stage⟩ : DIdx)).getD k3 d_Idx).Stage⟩ : DIdx)).getD k3 d_Idx).Stage)] := eC63
   refine sd rfl (yl_indexAddrN Try.un63 Try.ty152 rfl rfl rfl eA63 (by first | omega | assumption | (simp only [IntKind.wrap_i64] at *; omega)) (sd rfl (yl_fieldAddr Try.fd152_2 rfl rfl ?_)))
   have hrg64 := OwnL.rng hB60 (i := k3) (by first | omega | assumption | (simp only [IntKind.wrap_i64] at *; omega)) eb63 (by rw [eA63]; rfl)
   refine SeqR.u rfl rfl (yl_storeF (off := eo63) (i := k3) (d := 2) (dx := d_Idx) (x' := (⟨(((x27.set k3 (⟨(l_markText x26), (x27.getD k3 d_Idx).Col, (x27.getD k3 d_Idx).Stage⟩ : DIdx)).set k3 (⟨((x27.set k3 (⟨(l_markText x26), (x27.getD k3 d_Idx).Col, (x27.getD k3 d_Idx).Stage⟩ : DIdx)).getD k3 d_Idx).Name, IntKind.wrap .i64 (x26 + 1), ((x27.set k3 (⟨(l_markText x26), (x27.getD k3 d_Idx).Col, (x27.getD k3 d_Idx).Stage⟩ : DIdx)).getD k3 d_Idx).Stage⟩ : DIdx)).getD k3 d_Idx).Name, (((x27.set k3 (⟨(l_markText x26), (x27.getD k3 d_Idx).Col, (x27.getD k3 d_Idx).Stage⟩ : DIdx)).set k3 (⟨((x27.set k3 (⟨(l_markText x26), (x27.getD k3 d_Idx).Col, (x27.getD k3 d_Idx).Stage⟩ : DIdx)).getD k3 d_Idx).Name, IntKind.wrap .i64 (x26 + 1), ((x27.set k3 (⟨(l_markText x26), (x27.getD k3 d_Idx).Col, (x27.getD k3 d_Idx).Stage⟩ : DIdx)).getD k3 d_Idx).Stage⟩ : DIdx)).getD k3 d_Idx).Col, IntKind.wrap .i64 ((IntKind.wrap .i64 (x26 + 1)) + 1)⟩ : DIdx)) (vs := [.int .i64 (IntKind.wrap .i64 ((IntKind.wrap .i64 (x26 + 1)) + 1))]) Try.ty3 rfl hB60 eA63 rfl rfl rfl rfl rfl (by first | omega | assumption | (simp only [IntKind.wrap_i64] at *; omega)) (Nat.le_of_ble_eq_true rfl) rfl rfl ?_)
   intro w65 hB66 hO67
   have hO67z := hO67.size
   refine SeqR.done (tn (CW.region (sd rfl (yl_move rfl rfl (sd rfl (yl_add rfl rfl rfl (sd rfl (yl_assign rfl rfl (SeqR.done (bn (tn ?_)))))))))))
   refine CW.region (sd rfl (yl_move rfl rfl (sd rfl (yl_inc rfl rfl rfl (by omega) (sd rfl (yl_assign rfl rfl (SeqR.done (tn ?_))))))))
   have hB68 : B_l_markIdxS_0 p_a p_k k3 (x26, x27) = .cont (IntKind.wrap .i64 ((IntKind.wrap .i64 ((IntKind.wrap .i64 (x26 + 1)) + 1)) + 1), (((x27.set k3 (⟨(l_markText x26), (x27.getD k3 d_Idx).Col, (x27.getD k3 d_Idx).Stage⟩ : DIdx)).set k3 (⟨((x27.set k3 (⟨(l_markText x26), (x27.getD k3 d_Idx).Col, (x27.getD k3 d_Idx).Stage⟩ : DIdx)).getD k3 d_Idx).Name, IntKind.wrap .i64 (x26 + 1), ((x27.set k3 (⟨(l_markText x26), (x27.getD k3 d_Idx).Col, (x27.getD k3 d_Idx).Stage⟩ : DIdx)).getD k3 d_Idx).Stage⟩ : DIdx)).set k3 (⟨(((x27.set k3 (⟨(l_markText x26), (x27.getD k3 d_Idx).Col, (x27.getD k3 d_Idx).Stage⟩ : DIdx)).set k3 (⟨((x27.set k3 (⟨(l_markText x26), (x27.getD k3 d_Idx).Col, (x27.getD k3 d_Idx).Stage⟩ : DIdx)).getD k3 d_Idx).Name, IntKind.wrap .i64 (x26 + 1), ((x27.set k3 (⟨(l_markText x26), (x27.getD k3 d_Idx).Col, (x27.getD k3 d_Idx).Stage⟩ : DIdx)).getD k3 d_Idx).Stage⟩ : DIdx)).getD k3 d_Idx).Name, (((x27.set k3 (⟨(l_markText x26), (x27.getD k3 d_Idx).Col, (x27.getD k3 d_Idx).Stage⟩ : DIdx)).set k3 (⟨((x27.set k3 (⟨(l_markText x26), (x27.getD k3 d_Idx).Col, (x27.getD k3 d_Idx).Stage⟩ : DIdx)).getD k3 d_Idx).Name, IntKind.wrap .i64 (x26 + 1), ((x27.set k3 (⟨(l_markText x26), (x27.getD k3 d_Idx).Col, (x27.getD k3 d_Idx).Stage⟩ : DIdx)).getD k3 d_Idx).Stage⟩ : DIdx)).getD k3 d_Idx).Col, IntKind.wrap .i64 ((IntKind.wrap .i64 (x26 + 1)) + 1)⟩ : DIdx))) := by simp only [B_l_markIdxS_0, cond_true, cond_false, loopE_done, loopE_ret]
   exact ⟨p_a.length - (k3 + 1), by omega, k3 + 1, IntKind.wrap .i64 ((IntKind.wrap .i64 ((IntKind.wrap .i64 (x26 + 1)) + 1)) + 1), (((x27.set k3 (⟨(l_markText x26), (x27.getD k3 d_Idx).Col, (x27.getD k3 d_Idx).Stage⟩ : DIdx)).set k3 (⟨((x27.set k3 (⟨(l_markText x26), (x27.getD k3 d_Idx).Col, (x27.getD k3 d_Idx).Stage⟩ : DIdx)).getD k3 d_Idx).Name, IntKind.wrap .i64 (x26 + 1), ((x27.set k3 (⟨(l_markText x26), (x27.getD k3 d_Idx).Col, (x27.getD k3 d_Idx).Stage⟩ : DIdx)).getD k3 d_Idx).Stage⟩ : DIdx)).set k3 (⟨(((x27.set k3 (⟨(l_markText x26), (x27.getD k3 d_Idx).Col, (x27.getD k3 d_Idx).Stage⟩ : DIdx)).set k3 (⟨((x27.set k3 (⟨(l_markText x26), (x27.getD k3 d_Idx).Col, (x27.getD k3 d_Idx).Stage⟩ : DIdx)).getD k3 d_Idx).Name, IntKind.wrap .i64 (x26 + 1), ((x27.set k3 (⟨(l_markText x26), (x27.getD k3 d_Idx).Col, (x27.getD k3 d_Idx).Stage⟩ : DIdx)).getD k3 d_Idx).Stage⟩ : DIdx)).getD k3 d_Idx).Name, (((x27.set k3 (⟨(l_markText x26), (x27.getD k3 d_Idx).Col, (x27.getD k3 d_Idx).Stage⟩ : DIdx)).set k3 (⟨((x27.set k3 (⟨(l_markText x26), (x27.getD k3 d_Idx).Col, (x27.getD k3 d_Idx).Stage⟩ : DIdx)).getD k3 d_Idx).Name, IntKind.wrap .i64 (x26 + 1), ((x27.set k3 (⟨(l_markText x26), (x27.getD k3 d_Idx).Col, (x27.getD k3 d_Idx).Stage⟩ : DIdx)).getD k3 d_Idx).Stage⟩ : DIdx)).getD k3 d_Idx).Col, IntKind.wrap .i64 ((IntKind.wrap .i64 (x26 + 1)) + 1)⟩ : DIdx)), rfl, hlt45, (by omega), rfl, rfl, rfl, hB66, (Mut.only (Mut.only (Mut.only (Mut.ex hf41 hE48) hO55 (by simp only [InR, or_false]; omega)) hO61 (by simp only [InR, or_false]; omega)) hO67 (by simp only [InR, or_false]; omega)), (by first | omega | assumption | (simp only [IntKind.wrap_i64] at *; omega)), (loopM.cont hlt45 hB68).symm.trans hI35⟩
  ·refine CW.seq (CW.seq (CW.region (sd rfl (yl_move rfl rfl (sd rfl (yl_move rfl rfl (sd rfl (yl_len Try.un63 rfl rfl (sd rfl (yl_lss rfl rfl rfl (SeqR.done (tn ?_))))))))))))
   refine CW.cond_f rfl (lt_f hlt45) (CW.exit (tx (tx ?_)))
   have hL73 : loopM (B_l_markIdxS_0 p_a p_k) (p_a.length - 0) 0 (p_k, p_a) = .done (x26, x27) := hI35.symm.trans (loopM.stop hlt45)
   refine bx (tn (CW.seq (CW.region (sd rfl (yl_move rfl rfl (sd rfl (yl_assign rfl rfl (SeqR.done (tn (CW.ret ?_))))))))))
   refine rr rfl (.cons rfl .nil) ?_
   have hM74 : (l_markIdxS p_a p_k) = ((x26, x27)) := by simp only [l_markIdxS, hL73, cond_true, cond_false, loopE_done, loopE_ret]
   rw [hM74]
   exact ⟨rfl, hf40, hf41⟩
set_option maxRecDepth 100000 in
set_option maxHeartbeats 2000000 in
theorem c_l_markTable {A1 : Option Addr} {c1 : Nat} {lo1 hi1 : Nat} {A2 : Option Addr} {c2 : Nat} {lo2 hi2 : Nat} {w : World} (p_a : DTable) (p_k : Int) (h1 : OwnL w lo1 hi1 9 1 (RF e_Str) A1 p_a.Cols.length c1 p_a.Cols) (h2 : OwnL w lo2 hi2 152 3 (RF e_Idx) A2 p_a.Idxs.length c2 p_a.Idxs) (hrn3 : (0 ≤ lo1 ∧ lo1 ≤ hi1 ∧ hi1 ≤ w.heap.size)) (hrn4 : (0 ≤ lo2 ∧ lo2 ≤ hi2 ∧ hi2 ≤ w.heap.size)) (hrn5 : (hi1 ≤ lo2 ∨ hi2 ≤ lo1)) (pre0 : p_k ≤ 9223372036854775807) : Cal Try.prog 41 #[.agg #[.string (bs (p_a.Name)), .slice A1 p_a.Cols.length c1, .slice A2 p_a.Idxs.length c2], .int .i64 (p_k)] w fun v w' => v = .int .i64 ((l_markTable p_a p_k).1) ∧ OwnL w' lo1 hi1 9 1 (RF e_Str) A1 p_a.Cols.length c1 ((l_markTable p_a p_k).2.Cols) ∧ OwnL w' lo2 hi2 152 3 (RF e_Idx) A2 p_a.Idxs.length c2 ((l_markTable p_a p_k).2.Idxs) ∧ Mut [(lo1, hi1), (lo2, hi2)] w w' := by
 refine Cal.of (vs := [.agg #[.string (bs (p_a.Name)), .slice A1 p_a.Cols.length c1, .slice A2 p_a.Idxs.length c2], .int .i64 (p_k)]) Try.func41 rfl Try.ntmps41 rfl (CW.seq (CW.region (sd rfl (yl_box (cs := [.string (bs (p_a.Name)), .slice A1 p_a.Cols.length c1, .slice A2 p_a.Idxs.length c2]) rfl rfl rfl ?_))))
 intro b6 w7 hs8 hz9 hB10 hE11
 refine sd rfl (yl_assign rfl rfl (SeqR.done (tn (CW.seq (CW.region (sd rfl (yl_fieldAddr Try.fd65_1 rfl rfl (sd rfl (yl_load1 Try.ty52 rfl rfl ((hB10.cell 1).trans rfl) (sd rfl (yl_move rfl rfl (sd rfl (yl_call Try.en54 rfl (opvs_cons rfl (opvs_cons rfl opvs_nil)) (Cal.mono (c_l_markStringS p_a.Cols p_k (OwnL.ex good_Str h1 hE11) (by omega) (by first | omega | assumption | (simp only [IntKind.wrap_i64] at *; omega))) ?_))))))))))))))
 rintro v14 w13 ⟨rfl, h16, hm15⟩
 have hm15z := Mut.size hm15
 have hrf17 := rf_markStringS p_a.Cols p_k (by first | omega | assumption | (simp only [IntKind.wrap_i64] at *; omega))
 refine sd rfl (yl_assign rfl rfl (SeqR.done (tn (CW.seq (CW.region (sd rfl (yl_fieldAddr Try.fd65_2 rfl rfl (sd rfl (yl_load1 Try.ty63 rfl rfl (((Box.mut hB10 hm15 (fun k hk => by simp only [InR, or_false] at hk; omega)).cell 2).trans rfl) (sd rfl (yl_move rfl rfl (sd rfl (yl_call Try.en113 rfl (opvs_cons rfl (opvs_cons rfl opvs_nil)) (Cal.mono (c_l_markIdxS p_a.Idxs ((l_markStringS p_a.Cols p_k).1) (OwnL.mut good_Idx (OwnL.ex good_Idx h2 hE11) hm15 (fun k hk => by simp only [InR, or_false] at hk; omega)) (by omega) (by first | omega | assumption | (simp only [IntKind.wrap_i64] at *; omega))) ?_))))))))))))))
 rintro v22 w21 ⟨rfl, h24, hm23⟩
 have hm23z := Mut.size hm23
 have hrf25 := rf_markIdxS p_a.Idxs ((l_markStringS p_a.Cols p_k).1) (by first | omega | assumption | (simp only [IntKind.wrap_i64] at *; omega))
 refine sd rfl (yl_assign rfl rfl (SeqR.done (tn (CW.seq (CW.region (sd rfl (yl_move rfl rfl (sd rfl (yl_assign rfl rfl (SeqR.done (tn ?_)))))))))))
 refine CW.ret (rr rfl (.cons rfl .nil) ?_)
 have hM26 : (l_markTable p_a p_k) = (((l_markIdxS p_a.Idxs ((l_markStringS p_a.Cols p_k).1)).1, (⟨p_a.Name, (l_markStringS p_a.Cols p_k).2, (l_markIdxS p_a.Idxs ((l_markStringS p_a.Cols p_k).1)).2⟩ : DTable))) := by simp only [l_markTable, cond_true, cond_false, loopE_done, loopE_ret]
 rw [hM26]
 exact ⟨rfl, (OwnL.mut good_Str h16 hm23 (fun k hk => by simp only [InR, or_false] at hk; omega)), h24, (Mut.mut (Mut.mut (Mut.ex (Mut.refl (l := [(lo1, hi1), (lo2, hi2)]) w) hE11) hm15 (fun k hk => by simp only [InR, or_false] at hk ⊢; omega)) hm23 (fun k hk => by simp only [InR, or_false] at hk ⊢; omega))⟩
set_option maxRecDepth 100000 in
set_option maxHeartbeats 2000000 in
theorem c_l_markOpS {A1 : Option Addr} {c1 : Nat} {lo1 hi1 : Nat} {w : World} (p_a : List DOp) (p_k : Int) (h1 : OwnL w lo1 hi1 163 4 (RF e_Op) A1 p_a.length c1 p_a) (hrn2 : (0 ≤ lo1 ∧ lo1 ≤ hi1 ∧ hi1 ≤ w.heap.size)) (pre0 : p_k ≤ 9223372036854775807) : Cal Try.prog 43 #[.slice A1 p_a.length c1, .int .i64 (p_k)] w fun v w' => v = .int .i64 ((l_markOpS p_a p_k).1) ∧ OwnL w' lo1 hi1 163 4 (RF e_Op) A1 p_a.length c1 ((l_markOpS p_a p_k).2) ∧ Mut [(lo1, hi1)] w w' := by
 refine Cal.of (vs := [.slice A1 p_a.length c1, .int .i64 (p_k)]) Try.func43 rfl Try.ntmps43 rfl (CW.seq (CW.region (sd rfl (yl_assign rfl rfl (SeqR.done (tn (CW.seq (CW.seq (CW.region ?_)))))))))
 refine sd rfl (yl_assign rfl rfl (SeqR.done (tn (CW.block (CW.loop (fun m37 L38 w39 => ∃ (k3 : Nat) (x35 : Int) (x36 : List DOp), m37 = p_a.length - k3 ∧ k3 ≤ p_a.length ∧ w.heap.size ≤ w39.heap.size ∧ lkp L38 0 = some (.slice A1 p_a.length c1) ∧ lkp L38 1 = some (.int .i64 (x35)) ∧ lkp L38 5 = some (.int .i64 ((k3 : Int))) ∧ OwnL w39 lo1 hi1 163 4 (RF e_Op) A1 p_a.length c1 x36 ∧ Mut [(lo1, hi1)] w w39 ∧ x35 ≤ 9223372036854775807 ∧ loopM (B_l_markOpS_0 p_a p_k) (p_a.length - k3) k3 (x35, x36) = loopM (B_l_markOpS_0 p_a p_k) (p_a.length - 0) 0 (p_k, p_a)) (p_a.length - 0) ?_ ?_)))))
 ·exact ⟨0, p_k, p_a, rfl, (by omega), Nat.le_refl _, rfl, rfl, rfl, h1, (Mut.refl (l := [(lo1, hi1)]) w), (by first | omega | assumption | (simp only [IntKind.wrap_i64] at *; omega)), rfl⟩
 ·rintro m40 L41 w42 ⟨k3, x35, x36, rfl, hk43, hsz45, hl46, hl47, hl48, hf49, hf50, hv51, hI44⟩
  refine CW.sub (Sub.cons hl46 (Sub.cons hl47 (Sub.cons hl48 (Sub.nil _)))) ?_
  have hf50z := Mut.size hf50
  have hbg52 := RdS.big (OwnL.rd good_Op hf49)
  rcases Nat.lt_or_ge k3 p_a.length with hlt54 | hlt54
  ·refine CW.seq (CW.seq (CW.region (sd rfl (yl_move rfl rfl (sd rfl (yl_move rfl rfl (sd rfl (yl_len Try.un60 rfl rfl (sd rfl (yl_lss rfl rfl rfl (SeqR.done (tn ?_))))))))))))
   refine CW.cond_t rfl (lt_t hlt54) (CW.skip (tn (CW.seq (CW.block (CW.seq (CW.region (sd rfl (yl_move rfl rfl (sd rfl (yl_move rfl rfl ?_))))))))))
   refine sd rfl (yl_move rfl rfl ?_)
   obtain ⟨eb56, eo56, ec56, eA56, eS56, ebl56, el56, eR56, eC56⟩ := RdS.atD (OwnL.rd good_Op hf49) d_Op (i := k3) (by first | omega | assumption)
   obtain rfl := eR56
   have eC56 : Cells w42 eb56 (eo56 + k3 * 4) [.int .i64 ((x36.getD k3 d_Op).Kind), .string (bs ((x36.getD k3 d_Op).Key)), .string (bs ((x36.getD k3 d_Op).Val)), .int .i64 ((x36.getD k3 d_Op).By)] := eC56
   refine sd rfl (yl_indexAddrN Try.un60 Try.ty163 rfl rfl rfl eA56 (by first | omega | assumption | (simp only [IntKind.wrap_i64] at *; omega)) (sd rfl (yl_fieldAddr Try.fd163_0 rfl rfl ?_)))
   have hrg57 := OwnL.rng hf49 (i := k3) (by first | omega | assumption | (simp only [IntKind.wrap_i64] at *; omega)) eb56 (by rw [eA56]; rfl)
   refine SeqR.u rfl rfl (yl_storeF (off := eo56) (i := k3) (d := 0) (dx := d_Op) (x' := (⟨x35, (x36.getD k3 d_Op).Key, (x36.getD k3 d_Op).Val, (x36.getD k3 d_Op).By⟩ : DOp)) (vs := [.int .i64 (x35)]) Try.ty3 rfl hf49 eA56 rfl rfl rfl rfl rfl (by first | omega | assumption | (simp only [IntKind.wrap_i64] at *; omega)) (Nat.le_of_ble_eq_true rfl) rfl rfl ?_)
   intro w58 hB59 hO60
   have hO60z := hO60.size
   refine SeqR.done (tn (CW.seq (CW.region (sd rfl (yl_move rfl rfl (sd rfl (yl_add rfl rfl rfl (sd rfl (yl_assign rfl rfl (SeqR.done (tn ?_)))))))))))
   refine CW.seq (CW.region (sd rfl (yl_move rfl rfl (sd rfl (yl_move rfl rfl (sd rfl (yl_move rfl rfl (sd rfl (yl_call Try.en95 rfl (opvs_cons rfl opvs_nil) (Cal.mono (c_l_markText (IntKind.wrap .i64 (x35 + 1)) (by first | omega | assumption | (simp only [IntKind.wrap_i64] at *; omega))) ?_))))))))))
   rintro v62 w61 ⟨rfl, hE63⟩
   have hE63z := Ex.size hE63
   have q65 := OwnL.ex good_Op hB59 hE63
   obtain ⟨eb66, eo66, ec66, eA66, eS66, ebl66, el66, eR66, eC66⟩ := RdS.atD (OwnL.rd good_Op q65) d_Op (i := k3) (by first | omega | assumption)
   obtain rfl := eR66
   have eC66 : Cells w61 eb66 (eo66 + k3 * 4) [.int .i64 (((x36.set k3 (⟨x35, (x36.getD k3 d_Op).Key, (x36.getD k3 d_Op).Val, (x36.getD k3 d_Op).By⟩ : DOp)).getD k3 d_Op).Kind), .string (bs (((x36.set k3 (⟨x35, (x36.getD k3 d_Op).Key, (x36.getD k3 d_Op).Val, (x36.getD k3 d_Op).By⟩ : DOp)).getD k3 d_Op).Key)), .string (bs (((x36.set k3 (⟨x35, (x36.getD k3 d_Op).Key, (x36.getD k3 d_Op).Val, (x36.getD k3 d_Op).By⟩ : DOp)).getD k3 d_Op).Val)), .int .i64 (((x36.set k3 (⟨x35, (x36.getD k3 d_Op).Key, (x36.getD k3 d_Op).Val, (x36.getD k3 d_Op).By⟩ : DOp)).getD k3 d_Op).By)] := eC66
   refine sd rfl (yl_indexAddrN Try.un60 Try.ty163 rfl rfl rfl eA66 (by first | omega | assumption | (simp only [IntKind.wrap_i64] at *; omega)) (sd rfl (yl_fieldAddr Try.fd163_1 rfl rfl ?_)))
   have hrg67 := OwnL.rng q65 (i := k3) (by first | omega | assumption | (simp only [IntKind.wrap_i64] at *; omega)) eb66 (by rw [eA66]; rfl)
   refine SeqR.u rfl rfl (yl_storeF (off := eo66) (i := k3) (d := 1) (dx := d_Op) (x' := (⟨((x36.set k3 (⟨x35, (x36.getD k3 d_Op).Key, (x36.getD k3 d_Op).Val, (x36.getD k3 d_Op).By⟩ : DOp)).getD k3 d_Op).Kind, (l_markText (IntKind.wrap .i64 (x35 + 1))), ((x36.set k3 (⟨x35, (x36.getD k3 d_Op).Key, (x36.getD k3 d_Op).Val, (x36.getD k3 d_Op).By⟩ : DOp)).getD k3 d_Op).Val, ((x36.set k3 (⟨x35, (x36.getD k3 d_Op).Key, (x36.getD k3 d_Op).Val, (x36.getD k3 d_Op).By⟩ : DOp)).getD k3 d_Op).By⟩ : DOp)) (vs := [.string (bs ((l_markText (IntKind.wrap .i64 (x35 + 1)))))]) Try.ty9 rfl q65 eA66 rfl rfl rfl rfl rfl (by first | omega | assumption | (simp only [IntKind.wrap_i64] at *; omega)) (Nat.le_of_ble_eq_true rfl) rfl rfl ?_)
   intro w68 hB69 hO70
   have hO70z := hO70.size
   refine SeqR.done (tn (CW.seq (CW.region (sd rfl (yl_move rfl rfl (sd rfl (yl_add rfl rfl rfl (sd rfl (yl_assign rfl rfl (SeqR.done (tn ?_)))))))))))
   refine CW.seq (CW.region (sd rfl (yl_move rfl rfl (sd rfl (yl_move rfl rfl (sd rfl (yl_move rfl rfl (sd rfl (yl_call Try.en95 rfl (opvs_cons rfl opvs_nil) (Cal.mono (c_l_markText (IntKind.wrap .i64 ((IntKind.wrap .i64 (x35 + 1)) + 1)) (by first | omega | assumption | (simp only [IntKind.wrap_i64] at *; omega))) ?_))))))))))
   rintro v72 w71 ⟨rfl, hE73⟩
   have hE73z := Ex.size hE73
   have q75 := OwnL.ex good_Op hB69 hE73
   obtain ⟨eb76, eo76, ec76, eA76, eS76, ebl76, el76, eR76, eC76⟩ := RdS.atD (OwnL.rd good_Op q75) d_Op (i := k3) (by first | omega | assumption)
   obtain rfl := eR76
   have eC76 : Cells w71 eb76 (eo76 + k3 * 4) [.int .i64 ((((x36.set k3 (⟨x35, (x36.getD k3 d_Op).Key, (x36.getD k3 d_Op).Val, (x36.getD k3 d_Op).By⟩ : DOp)).set k3 (⟨((x36.set k3 (⟨x35, (x36.getD k3 d_Op).Key, (x36.getD k3 d_Op).Val, (x36.getD k3 d_Op).By⟩ : DOp)).getD k3 d_Op).Kind, (l_markText (IntKind.wrap .i64 (x35 + 1))), ((x36.set k3 (⟨x35, (x36.getD k3 d_Op).Key, (x36.getD k3 d_Op).Val, (x36.getD k3 d_Op).By⟩ : DOp)).getD k3 d_Op).Val, ((x36.set k3 (⟨x35, (x36.getD k3 d_Op).Key, (x36.getD k3 d_Op).Val, (x36.getD k3 d_Op).By⟩ : DOp)).getD k3 d_Op).By⟩ : DOp)).getD k3 d_Op).Kind), .string (bs ((((x36.set k3 (⟨x35, (x36.getD k3 d_Op).Key, (x36.getD k3 d_Op).Val, (x36.getD k3 d_Op).By⟩ : DOp)).set k3 (⟨((x36.set k3 (⟨x35, (x36.getD k3 d_Op).Key, (x36.getD k3 d_Op).Val, (x36.getD k3 d_Op).By⟩ : DOp)).getD k3 d_Op).Kind, (l_markText (IntKind.wrap .i64 (x35 + 1))), ((x36.set k3 (⟨x35, (x36.getD k3 d_Op).Key, (x36.getD k3 d_Op).Val, (x36.getD k3 d_Op).By⟩ : DOp)).getD k3 d_Op).Val, ((x36.set k3 (⟨x35, (x36.getD k3 d_Op).Key, (x36.getD k3 d_Op).Val, (x36.getD k3 d_Op).By⟩ : DOp)).getD k3 d_Op).By⟩ : DOp)).getD k3 d_Op).Key)), .string (bs ((((x36.set k3 (⟨x35, (x36.getD k3 d_Op).Key, (x36.getD k3 d_Op).Val, (x36.getD k3 d_Op).By⟩ : DOp)).set k3 (⟨((x36.set k3 (⟨x35, (x36.getD k3 d_Op).Key, (x36.getD k3 d_Op).Val, (x36.getD k3 d_Op).By⟩ : DOp)).getD k3 d_Op).Kind, (l_markText (IntKind.wrap .i64 (x35 + 1))), ((x36.set k3 (⟨x35, (x36.getD k3 d_Op).Key, (x36.getD k3 d_Op).Val, (x36.getD k3 d_Op).By⟩ : DOp)).getD k3 d_Op).Val, ((x36.set k3 (⟨x35, (x36.getD k3 d_Op).Key, (x36.getD k3 d_Op).Val, (x36.getD k3 d_Op).By⟩ : DOp)).getD k3 d_Op).By⟩ : DOp)).getD k3 d_Op).Val)), .int .i64 ((((x36.set k3 (⟨x35, (x36.getD k3 d_Op).Key, (x36.getD k3 d_Op).Val, (x36.getD k3 d_Op).By⟩ : DOp)).set k3 (⟨((x36.set k3 (⟨x35, (x36.getD k3 d_Op).Key, (x36.getD k3 d_Op).Val, (x36.getD k3 d_Op).By⟩ : DOp)).getD k3 d_Op).Kind, (l_markText (IntKind.wrap .i64 (x35 + 1))), ((x36.set k3 (⟨x35, (x36.getD k3 d_Op).Key, (x36.getD k3 d_Op).Val, (x36.getD k3 d_Op).By⟩ : DOp)).getD k3 d_Op).Val, ((x36.set k3 (⟨x35, (x36.getD k3 d_Op).Key, (x36.getD k3 d_Op).Val, (x36.getD k3 d_Op).By⟩ : DOp)).getD k3 d_Op).By⟩ : DOp)).getD k3 d_Op).By)] := eC76
   refine sd rfl (yl_indexAddrN Try.un60 Try.ty163 rfl rfl rfl eA76 (by first | omega | assumption | (simp only [IntKind.wrap_i64] at *; omega)) (sd rfl (yl_fieldAddr Try.fd163_2 rfl rfl ?_)))
   have hrg77 := OwnL.rng q75 (i := k3) (by first | omega | assumption | (simp only [IntKind.wrap_i64] at *; omega)) eb76 (by rw [eA76]; rfl)
   refine SeqR.u rfl rfl (yl_storeF (off := eo76) (i := k3) (d := 2) (dx := d_Op) (x' := (⟨(((x36.set k3 (⟨x35, (x36.getD k3 d_Op).Key, (x36.getD k3 d_Op).Val, (x36.getD k3 d_Op).By⟩ : DOp)).set k3 (⟨((x36.set k3 (⟨x35, (x36.getD k3 d_Op).Key, (x36.getD k3 d_Op).Val, (x36.getD k3 d_Op).By⟩ : DOp)).getD k3 d_Op).Kind, (l_markText (IntKind.wrap .i64 (x35 + 1))), ((x36.set k3 (⟨x35, (x36.getD k3 d_Op).Key, (x36.getD k3 d_Op).Val, (x36.getD k3 d_Op).By⟩ : DOp)).getD k3 d_Op).Val, ((x36.set k3 (⟨x35, (x36.getD k3 d_Op).Key, (x36.getD k3 d_Op).Val, (x36.getD k3 d_Op).By⟩ : DOp)).getD k3 d_Op).By⟩ : DOp)).getD k3 d_Op).Kind, (((x36.set k3 (⟨x35, (x36.getD k3 d_Op).Key, (x36.getD k3 d_Op).Val, (x36.getD k3 d_Op).By⟩ : DOp)).set k3 (⟨((x36.set k3 (⟨x35, (x36.getD k3 d_Op).Key, (x36.getD k3 d_Op).Val, (x36.getD k3 d_Op).By⟩ : DOp)).getD k3 d_Op).Kind, (l_markText (IntKind.wrap .i64 (x35 + 1))), ((x36.set k3 (⟨x35, (x36.getD k3 d_Op).Key, (x36.getD k3 d_Op).Val, (x36.getD k3 d_Op).By⟩ : DOp)).getD k3 d_Op).Val, ((x36.set k3 (⟨x35, (x36.getD k3 d_Op).Key, (x36.getD k3 d_Op).Val, (x36.getD k3 d_Op).By⟩ : DOp)).getD k3 d_Op).By⟩ : DOp)).getD k3 d_Op).Key, (l_markText (IntKind.wrap .i64 ((IntKind.wrap .i64 (x35 + 1)) + 1))), (((x36.set k3 (⟨x35, (x36.getD k3 d_Op).Key, (x36.getD k3 d_Op).Val, (x36.getD k3 d_Op).By⟩ : DOp)).set k3 (⟨((x36.set k3 (⟨x35, (x36.getD k3 d_Op).Key, (x36.getD k3 d_Op).Val, (x36.getD k3 d_Op).By⟩ : DOp)).getD k3 d_Op).Kind, (l_markText (IntKind.wrap .i64 (x35 + 1))), ((x36.set k3 (⟨x35, (x36.getD k3 d_Op).Key, (x36.getD k3 d_Op).Val, (x36.getD k3 d_Op).By⟩ : DOp)).getD k3 d_Op).Val, ((x36.set k3 (⟨x35, (x36.getD k3 d_Op).Key, (x36.getD k3 d_Op).Val, (x36.getD k3 d_Op).By⟩ : DOp)).getD k3 d_Op).By⟩ : DOp)).getD k3 d_Op).By⟩ : DOp)) (vs := [.string (bs ((l_markText (IntKind.wrap .i64 ((IntKind.wrap .i64 (x35 + 1)) + 1)))))]) Try.ty9 rfl q75 eA76 rfl rfl rfl rfl rfl (by first | omega | assumption | (simp only [IntKind.wrap_i64] at *; omega)) (Nat.le_of_ble_eq_true rfl) rfl rfl ?_)
   intro w78 hB79 hO80
   have hO80z := hO80.size
   refine SeqR.done (tn (CW.seq (CW.region (sd rfl (yl_move rfl rfl (sd rfl (yl_add rfl rfl rfl (sd rfl (yl_assign rfl rfl (SeqR.done (tn ?_)))))))))))
   refine CW.seq (CW.region (sd rfl (yl_move rfl rfl (sd rfl (yl_move rfl rfl (sd rfl (yl_move rfl rfl ?_)))))))
   obtain ⟨eb82, eo82, ec82, eA82, eS82, ebl82, el82, eR82, eC82⟩ := RdS.atD (OwnL.rd good_Op hB79) d_Op (i := k3) (by first | omega | assumption)
   obtain rfl := eR82
   have eC82 : Cells w78 eb82 (eo82 + k3 * 4) [.int .i64 (((((x36.set k3 (⟨x35, (x36.getD k3 d_Op).Key, (x36.getD k3 d_Op).Val, (x36.getD k3 d_Op).By⟩ : DOp)).set k3 (⟨((x36.set k3 (⟨x35, (x36.getD k3 d_Op).Key, (x36.getD k3 d_Op).Val, (x36.getD k3 d_Op).By⟩ : DOp)).getD k3 d_Op).Kind, (l_markText (IntKind.wrap .i64 (x35 + 1))), ((x36.set k3 (⟨x35, (x36.getD k3 d_Op).Key, (x36.getD k3 d_Op).Val, (x36.getD k3 d_Op).By⟩ : DOp)).getD k3 d_Op).Val, ((x36.set k3 (⟨x35, (x36.getD k3 d_Op).Key, (x36.getD k3 d_Op).Val, (x36.getD k3 d_Op).By⟩ : DOp)).getD k3 d_Op).By⟩ : DOp)).set k3 (⟨(((x36.set k3 (⟨x35, (x36.getD k3 d_Op).Key, (x36.getD k3 d_Op).Val, (x36.getD k3 d_Op).By⟩ : DOp)).set k3 (⟨((x36.set k3 (⟨x35, (x36.getD k3 d_Op).Key, (x36.getD k3 d_Op).Val, (x36.getD k3 d_Op).By⟩ : DOp)).getD k3 d_Op).Kind, (l_markText (IntKind.wrap .i64 (x35 + 1))), ((x36.set k3 (⟨x35, (x36.getD k3 d_Op).Key, (x36.getD k3 d_Op).Val, (x36.getD k3 d_Op).By⟩ : DOp)).getD k3 d_Op).Val, ((x36.set k3 (⟨x35, (x36.getD k3 d_Op).Key, (x36.getD k3 d_Op).Val, (x36.getD k3 d_Op).By⟩ : DOp)).getD k3 d_Op).By⟩ : DOp)).getD k3 d_Op).Kind, (((x36.set k3 (⟨x35, (x36.getD k3 d_Op).Key, (x36.getD k3 d_Op).Val, (x36.getD k3 d_Op).By⟩ : DOp)).set k3 (⟨((x36.set k3 (⟨x35, (x36.getD k3 d_Op).Key, (x36.getD k3 d_Op).Val, (x36.getD k3 d_Op).By⟩ : DOp)).getD k3 d_Op).Kind, (l_markText (IntKind.wrap .i64 (x35 + 1))), ((x36.set k3 (⟨x35, (x36.getD k3 d_Op).Key, (x36.getD k3 d_Op).Val, (x36.getD k3 d_Op).By⟩ : DOp)).getD k3 d_Op).Val, ((x36.set k3 (⟨x35, (x36.getD k3 d_Op).Key, (x36.getD k3 d_Op).Val, (x36.getD k3 d_Op).By⟩ : DOp)).getD k3 d_Op).By⟩ : DOp)).getD k3 d_Op).Key, (l_markText (IntKind.wrap .i64 ((IntKind.wrap .i64 (x35 + 1)) + 1))), (((x36.set k3 (⟨x35, (x36.getD k3 d_Op).Key, (x36.getD k3 d_Op).Val, (x36.getD k3 d_Op).By⟩ : DOp)).set k3 (⟨((x36.set k3 (⟨x35, (x36.getD k3 d_Op).Key, (x36.getD k3 d_Op).Val, (x36.getD k3 d_Op).By⟩ : DOp)).getD k3 d_Op).Kind, (l_markText (IntKind.wrap .i64 (x35 + 1))), ((x36.set k3 (⟨x35, (x36.getD k3 d_Op).Key, (x36.getD k3 d_Op).Val, (x36.getD k3 d_Op).By⟩ : DOp)).getD k3 d_Op).Val, ((x36.set k3 (⟨x35, (x36.getD k3 d_Op).Key, (x36.getD k3 d_Op).Val, (x36.getD k3 d_Op).By⟩ : DOp)).getD k3 d_Op).By⟩ : DOp)).getD k3 d_Op).By⟩ : DOp)).getD k3 d_Op).Kind), .string (bs (((((x36.set k3 (⟨x35, (x36.getD k3 d_Op).Key, (x36.getD k3 d_Op).Val, (x36.getD k3 d_Op).By⟩ : DOp)).set k3 (⟨((x36.set k3 (⟨x35, (x36.getD k3 d_Op).Key, (x36.getD k3 d_Op).Val, (x36.getD k3 d_Op).By⟩ : DOp)).getD k3 d_Op).Kind, (l_markText (IntKind.wrap .i64 (x35 + 1))), ((x36.set k3 (⟨x35, (x36.getD k3 d_Op).Key, (x36.getD k3 d_Op).Val, (x36.getD k3 d_Op).By⟩ : DOp)).getD k3 d_Op).Val, ((x36.set k3 (⟨x35, (x36.getD k3 d_Op).Key, (x36.getD k3 d_Op).Val, (x36.getD k3 d_Op).By⟩ : DOp)).getD k3 d_Op).By⟩ : DOp)).set k3 (⟨(((x36.set k3 (⟨x35, (x36.getD k3 d_Op).Key, (x36.getD k3 d_Op).Val, (x36.getD k3 d_Op).By⟩ : DOp)).set k3 (⟨((x36.set k3 (⟨x35, (x36.getD k3 d_Op).Key, (x36.getD k3 d_Op).Val, (x36.getD k3 d_Op).By⟩ : DOp)).getD k3 d_Op).Kind, (l_markText (IntKind.wrap .i64 (x35 + 1))), ((x36.set k3 (⟨x35, (x36.getD k3 d_Op).Key, (x36.getD k3 d_Op).Val, (x36.getD k3 d_Op).By⟩ : DOp)).getD k3 d_Op).Val, ((x36.set k3 (⟨x35, (x36.getD k3 d_Op).Key, (x36.getD k3 d_Op).Val, (x36.getD k3 d_Op).By⟩ : DOp)).getD k3 d_Op).By⟩ : DOp)).getD k3 d_Op).Kind, (((x36.set k3 (⟨x35, (x36.getD k3 d_Op).Key, (x36.getD k3 d_Op).Val, (x36.getD k3 d_Op).By⟩ : DOp)).set k3 (⟨((x36.set k3 (⟨x35, (x36.getD k3 d_Op).Key, (x36.getD k3 d_Op).Val, (x36.getD k3 d_Op).By⟩ : DOp)).getD k3 d_Op).Kind, (l_markText (IntKind.wrap .i64 (x35 + 1))), ((x36.set k3 (⟨x35, (x36.getD k3 d_Op).Key, (x36.getD k3 d_Op).Val, (x36.getD k3 d_Op).By⟩ : DOp)).getD k3 d_Op).Val, ((x36.set k3 (⟨x35, (x36.getD k3 d_Op).Key, (x36.getD k3 d_Op).Val, (x36.getD k3 d_Op).By⟩ : DOp)).getD k3 d_Op).By⟩ : DOp)).getD k3 d_Op).Key, (l_markText (IntKind.wrap .i64 ((IntKind.wrap .i64 (x35 + 1)) + 1))), (((x36.set k3 (⟨x35, (x36.getD k3 d_Op).Key, (x36.getD k3 d_Op).Val, (x36.getD k3 d_Op).By⟩ : DOp)).set k3 (⟨((x36.set k3 (⟨x35, (x36.getD k3 d_Op).Key, (x36.getD k3 d_Op).Val, (x36.getD k3 d_Op).By⟩ : DOp)).getD k3 d_Op).Kind, (l_markText (IntKind.wrap .i64 (x35 + 1))), ((x36.set k3 (⟨x35, (x36.getD k3 d_Op).Key, (x36.getD k3 d_Op).Val, (x36.getD k3 d_Op).By⟩ : DOp)).getD k3 d_Op).Val, ((x36.set k3 (⟨x35, (x36.getD k3 d_Op).Key, (x36.getD k3 d_Op).Val, (x36.getD k3 d_Op).By⟩ : DOp)).getD k3 d_Op).By⟩ : DOp)).getD k3 d_Op).By⟩ : DOp)).getD k3 d_Op).Key)), .string (bs (((((x36.set k3 (⟨x35, (x36.getD k3 d_Op).Key, (x36.getD k3 d_Op).Val, (x36.getD k3 d_Op).By⟩ : DOp)).set k3 (⟨((x36.set k3 (⟨x35, (x36.getD k3 d_Op).Key, (x36.getD k3 d_Op).Val, (x36.getD k3 d_Op).By⟩ : DOp)).getD k3 d_Op).Kind, (l_markText (IntKind.wrap .i64 (x35 + 1))), ((x36.set k3 (⟨x35, (x36.getD k3 d_Op).Key, (x36.getD k3 d_Op).Val, (x36.getD k3 d_Op).By⟩ : DOp)).getD k3 d_Op).Val, ((x36.set k3 (⟨x35, (x36.getD k3 d_Op).Key, (x36.getD k3 d_Op).Val, (x36.getD k3 d_Op).By⟩ : DOp)).getD k3 d_Op).By⟩ : DOp)).set k3 (⟨(((x36.set k3 (⟨x35, (x36.getD k3 d_Op).Key, (x36.getD k3 d_Op).Val, (x36.getD k3 d_Op).By⟩ : DOp)).set k3 (⟨((x36.set k3 (⟨x35, (x36.getD k3 d_Op).Key, (x36.getD k3 d_Op).Val, (x36.getD k3 d_Op).By⟩ : DOp)).getD k3 d_Op).Kind, (l_markText (IntKind.wrap .i64 (x35 + 1))), ((x36.set k3 (⟨x35, (x36.getD k3 d_Op).Key, (x36.getD k3 d_Op).Val, (x36.getD k3 d_Op).By⟩ : DOp)).getD k3 d_Op).Val, ((x36.set k3 (⟨x35, (x36.getD k3 d_Op).Key, (x36.getD k3 d_Op).Val, (x36.getD k3 d_Op).By⟩ : DOp)).getD k3 d_Op).By⟩ : DOp)).getD k3 d_Op).Kind, (((x36.set k3 (⟨x35, (x36.getD k3 d_Op).Key, (x36.getD k3 d_Op).Val, (x36.getD k3 d_Op).By⟩ : DOp)).set k3 (⟨((x36.set k3 (⟨x35, (x36.getD k3 d_Op).Key, (x36.getD k3 d_Op).Val, (x36.getD k3 d_Op).By⟩ : DOp)).getD k3 d_Op).Kind, (l_markText (IntKind.wrap .i64 (x35 + 1))), ((x36.set k3 (⟨x35, (x36.getD k3 d_Op).Key, (x36.getD k3 d_Op).Val, (x36.getD k3 d_Op).By⟩ : DOp)).getD k3 d_Op).Val, ((x36.set k3 (⟨x35, (x36.getD k3 d_Op).Key, (x36.getD k3 d_Op).Val, (x36.getD k3 d_Op).By⟩ : DOp)).getD k3 d_Op).By⟩ : DOp)).getD k3 d_Op).Key, (l_markText (IntKind.wrap .i64 ((IntKind.wrap .i64 (x35 + 1)) + 1))), (((x36.set k3 (⟨x35, (x36.getD k3 d_Op).Key, (x36.getD k3 d_Op).Val, (x36.getD k3 d_Op).By⟩ : DOp)).set k3 (⟨((x36.set k3 (⟨x35, (x36.getD k3 d_Op).Key, (x36.getD k3 d_Op).Val, (x36.getD k3 d_Op).By⟩ : DOp)).getD k3 d_Op).Kind, (l_markText (IntKind.wrap .i64 (x35 + 1))), ((x36.set k3 (⟨x35, (x36.getD k3 d_Op).Key, (x36.getD k3 d_Op).Val, (x36.getD k3 d_Op).By⟩ : DOp)).getD k3 d_Op).Val, ((x36.set k3 (⟨x35, (x36.getD k3 d_Op).Key, (x36.getD k3 d_Op).Val, (x36.getD k3 d_Op).By⟩ : DOp)).getD k3 d_Op).By⟩ : DOp)).getD k3 d_Op).By⟩ : DOp)).getD k3 d_Op).Val)), .int .i64 (((((x36.set k3 (⟨x35, (x36.getD k3 d_Op).Key, (x36.getD k3 d_Op).Val, (x36.getD k3 d_Op).By⟩ : DOp)).set k3 (⟨((x36.set k3 (⟨x35, (x36.getD k3 d_Op).Key, (x36.getD k3 d_Op).Val, (x36.getD k3 d_Op).By⟩ : DOp)).getD k3 d_Op).Kind, (l_markText (IntKind.wrap .i64 (x35 + 1))), ((x36.set k3 (⟨x35, (x36.getD k3 d_Op).Key, (x36.getD k3 d_Op).Val, (x36.getD k3 d_Op).By⟩ : DOp)).getD k3 d_Op).Val, ((x36.set k3 (⟨x35, (x36.getD k3 d_Op).Key, (x36.getD k3 d_Op).Val, (x36.getD k3 d_Op).By⟩ : DOp)).getD k3 d_Op).By⟩ : DOp)).set k3 (⟨(((x36.set k3 (⟨x35, (x36.getD k3 d_Op).Key, (x36.getD k3 d_Op).Val, (x36.getD k3 d_Op).By⟩ : DOp)).set k3 (⟨((x36.set k3 (⟨x35, (x36.getD k3 d_Op).Key, (x36.getD k3 d_Op).Val, (x36.getD k3 d_Op).By⟩ : DOp)).getD k3 d_Op).Kind, (l_markText (IntKind.wrap .i64 (x35 + 1))), ((x36.set k3 (⟨x35, (x36.getD k3 d_Op).Key, (x36.getD k3 d_Op).Val, (x36.getD k3 d_Op).By⟩ : DOp)).getD k3 d_Op).Val, ((x36.set k3 (⟨x35, (x36.getD k3 d_Op).Key, (x36.getD k3 d_Op).Val, (x36.getD k3 d_Op).By⟩ : DOp)).getD k3 d_Op).By⟩ : DOp)).getD k3 d_Op).Kind, (((x36.set k3 (⟨x35, (x36.getD k3 d_Op).Key, (x36.getD k3 d_Op).Val, (x36.getD k3 d_Op).By⟩ : DOp)).set k3 (⟨((x36.set k3 (⟨x35, (x36.getD k3 d_Op).Key, (x36.getD k3 d_Op).Val, (x36.getD k3 d_Op).By⟩ : DOp)).getD k3 d_Op).Kind, (l_markText (IntKind.wrap .i64 (x35 + 1))), ((x36.set k3 (⟨x35, (x36.getD k3 d_Op).Key, (x36.getD k3 d_Op).Val, (x36.getD k3 d_Op).By⟩ : DOp)).getD k3 d_Op).Val, ((x36.set k3 (⟨x35, (x36.getD k3 d_Op).Key, (x36.getD k3 d_Op).Val, (x36.getD k3 d_Op).By⟩ : DOp)).getD k3 d_Op).By⟩ : DOp)).getD k3 d_Op).Key, (l_markText (IntKind.wrap .i64 ((IntKind.wrap .i64 (x35 + 1)) + 1))), (((x36.set k3 (⟨x35, (x36.getD k3 d_Op).Key, (x36.getD k3 d_Op).Val, (x36.getD k3 d_Op).By⟩ : DOp)).set k3 (⟨((x36.set k3 (⟨x35, (x36.getD k3 d_Op).Key, (x36.getD k3 d_Op).Val, (x36.getD k3 d_Op).By⟩ : DOp)).getD k3 d_Op).Kind, (l_markText (IntKind.wrap .i64 (x35 + 1))), ((x36.set k3 (⟨x35, (x36.getD k3 d_Op).Key, (x36.getD k3 d_Op).Val, (x36.getD k3 d_Op).By⟩ : DOp)).getD k3 d_Op).Val, ((x36.set k3 (⟨x35, (x36.getD k3 d_Op).Key, (x36.getD k3 d_Op).Val, (x36.getD k3 d_Op).By⟩ : DOp)).getD k3 d_Op).By⟩ : DOp)).getD k3 d_Op).By⟩ : DOp)).getD k3 d_Op).By)] := eC82
   refine sd rfl (yl_indexAddrN Try.un60 Try.ty163 rfl rfl rfl eA82 (by first | omega | assumption | (simp only [IntKind.wrap_i64] at *; omega)) (sd rfl (yl_fieldAddr Try.fd163_3 rfl rfl ?_)))
   have hrg83 := OwnL.rng hB79 (i := k3) (by first | omega | assumption | (simp only [IntKind.wrap_i64] at *; omega)) eb82 (by rw [eA82]; rfl)
   refine SeqR.u rfl rfl (yl_storeF (off := eo82) (i := k3) (d := 3) (dx := d_Op) (x' := (⟨((((x36.set k3 (⟨x35, (x36.getD k3 d_Op).Key, (x36.getD k3 d_Op).Val, (x36.getD k3 d_Op).By⟩ : DOp)).set k3 (⟨((x36.set k3 (⟨x35, (x36.getD k3 d_Op).Key, (x36.getD k3 d_Op).Val, (x36.getD k3 d_Op).By⟩ : DOp)).getD k3 d_Op).Kind, (l_markText (IntKind.wrap .i64 (x35 + 1))), ((x36.set k3 (⟨x35, (x36.getD k3 d_Op).Key, (x36.getD k3 d_Op).Val, (x36.getD k3 d_Op).By⟩ : DOp)).getD k3 d_Op).Val, ((x36.set k3 (⟨x35, (x36.getD k3 d_Op).Key, (x36.getD k3 d_Op).Val, (x36.getD k3 d_Op).By⟩ : DOp)).getD k3 d_Op).By⟩ : DOp)).set k3 (⟨(((x36.set k3 (⟨x35, (x36.getD k3 d_Op).Key, (x36.getD k3 d_Op).Val, (x36.getD k3 d_Op).By⟩ : DOp)).set k3 (⟨((x36.set k3 (⟨x35, (x36.getD k3 d_Op).Key, (x36.getD k3 d_Op).Val, (x36.getD k3 d_Op).By⟩ : DOp)).getD k3 d_Op).Kind, (l_markText (IntKind.wrap .i64 (x35 + 1))), ((x36.set k3 (⟨x35, (x36.getD k3 d_Op).Key, (x36.getD k3 d_Op).Val, (x36.getD k3 d_Op).By⟩ : DOp)).getD k3 d_Op).Val, ((x36.set k3 (⟨x35, (x36.getD k3 d_Op).Key, (x36.getD k3 d_Op).Val, (x36.getD k3 d_Op).By⟩ : DOp)).getD k3 d_Op).By⟩ : DOp)).getD k3 d_Op).Kind, (((x36.set k3 (⟨x35, (x36.getD k3 d_Op).Key, (x36.getD k3 d_Op).Val, (x36.getD k3 d_Op).By⟩ : DOp)).set k3 (⟨((x36.set k3 (⟨x35, (x36.getD k3 d_Op).Key, (x36.getD k3 d_Op).Val, (x36.getD k3 d_Op).By⟩ : DOp)).getD k3 d_Op).Kind, (l_markText (IntKind.wrap .i64 (x35 + 1))), ((x36.set k3 (⟨x35, (x36.getD k3 d_Op).Key, (x36.getD k3 d_Op).Val, (x36.getD k3 d_Op).By⟩ : DOp)).getD k3 d_Op).Val, ((x36.set k3 (⟨x35, (x36.getD k3 d_Op).Key, (x36.getD k3 d_Op).Val, (x36.getD k3 d_Op).By⟩ : DOp)).getD k3 d_Op).By⟩ : DOp)).getD k3 d_Op).Key, (l_markText (IntKind.wrap .i64 ((IntKind.wrap .i64 (x35 + 1)) + 1))), (((x36.set k3 (⟨x35, (x36.getD k3 d_Op).Key, (x36.getD k3 d_Op).Val, (x36.getD k3 d_Op).By⟩ : DOp)).set k3 (⟨((x36.set k3 (⟨x35, (x36.getD k3 d_Op).Key, (x36.getD k3 d_Op).Val, (x36.getD k3 d_Op).By⟩ : DOp)).getD k3 d_Op).Kind, (l_markText (IntKind.wrap .i64 (x35 + 1))), ((x36.set k3 (⟨x35, (x36.getD k3 d_Op).Key, (x36.getD k3 d_Op).Val, (x36.getD k3 d_Op).By⟩ : DOp)).getD k3 d_Op).Val, ((x36.set k3 (⟨x35, (x36.getD k3 d_Op).Key, (x36.getD k3 d_Op).Val, (x36.getD k3 d_Op).By⟩ : DOp)).getD k3 d_Op).By⟩ : DOp)).getD k3 d_Op).By⟩ : DOp)).getD k3 d_Op).Kind, ((((x36.set k3 (⟨x35, (x36.getD k3 d_Op).Key, (x36.getD k3 d_Op).Val, (x36.getD k3 d_Op).By⟩ : DOp)).set k3 (⟨((x36.set k3 (⟨x35, (x36.getD k3 d_Op).Key, (x36.getD k3 d_Op).Val, (x36.getD k3 d_Op).By⟩ : DOp)).getD k3 d_Op).Kind, (l_markText (IntKind.wrap .i64 (x35 + 1))), ((x36.set k3 (⟨x35, (x36.getD k3 d_Op).Key, (x36.getD k3 d_Op).Val, (x36.getD k3 d_Op).By⟩ : DOp)).getD k3 d_Op).Val, ((x36.set k3 (⟨x35, (x36.getD k3 d_Op).Key, (x36.getD k3 d_Op).Val, (x36.getD k3 d_Op).By⟩ : DOp)).getD k3 d_Op).By⟩ : DOp)).set k3 (⟨(((x36.set k3 (⟨x35, (x36.getD k3 d_Op).Key, (x36.getD k3 d_Op).Val, (x36.getD k3 d_Op).By⟩ : DOp)).set k3 (⟨((x36.set k3 (⟨x35, (x36.getD k3 d_Op).Key, (x36.getD k3 d_Op).Val, (x36.getD k3 d_Op).By⟩ : DOp)).getD k3 d_Op).Kind, (l_markText (IntKind.wrap .i64 (x35 + 1))), ((x36.set k3 (⟨x35, (x36.getD k3 d_Op).Key, (x36.getD k3 d_Op).Val, (x36.getD k3 d_Op).By⟩ : DOp)).getD k3 d_Op).Val, ((x36.set k3 (⟨x35, (x36.getD k3 d_Op).Key, (x36.getD k3 d_Op).Val, (x36.getD k3 d_Op).By⟩ : DOp)).getD k3 d_Op).By⟩ : DOp)).getD k3 d_Op).Kind, (((x36.set k3 (⟨x35, (x36.getD k3 d_Op).Key, (x36.getD k3 d_Op).Val, (x36.getD k3 d_Op).By⟩ : DOp)).set k3 (⟨((x36.set k3 (⟨x35, (x36.getD k3 d_Op).Key, (x36.getD k3 d_Op).Val, (x36.getD k3 d_Op).By⟩ : DOp)).getD k3 d_Op).Kind, (l_markText (IntKind.wrap .i64 (x35 + 1))), ((x36.set k3 (⟨x35, (x36.getD k3 d_Op).Key, (x36.getD k3 d_Op).Val, (x36.getD k3 d_Op).By⟩ : DOp)).getD k3 d_Op).Val, ((x36.set k3 (⟨x35, (x36.getD k3 d_Op).Key, (x36.getD k3 d_Op).Val, (x36.getD k3 d_Op).By⟩ : DOp)).getD k3 d_Op).By⟩ : DOp)).getD k3 d_Op).Key, (l_markText (IntKind.wrap .i64 ((IntKind.wrap .i64 (x35 + 1)) + 1))), (((x36.set k3 (⟨x35, (x36.getD k3 d_Op).Key, (x36.getD k3 d_Op).Val, (x36.getD k3 d_Op).By⟩ : DOp)).set k3 (⟨((x36.set k3 (⟨x35, (x36.getD k3 d_Op).Key, (x36.getD k3 d_Op).Val, (x36.getD k3 d_Op).By⟩ : DOp)).getD k3 d_Op).Kind, (l_markText (IntKind.wrap .i64 (x35 + 1))), ((x36.set k3 (⟨x35, (x36.getD k3 d_Op).Key, (x36.getD k3 d_Op).Val, (x36.getD k3 d_Op).By⟩ : DOp)).getD k3 d_Op).Val, ((x36.set k3 (⟨x35, (x36.getD k3 d_Op).Key, (x36.getD k3 d_Op).Val, (x36.getD k3 d_Op).By⟩ : DOp)).getD k3 d_Op).By⟩ : DOp)).getD k3 d_Op).By⟩ : DOp)).getD k3 d_Op).Key, ((((x36.set k3 (⟨x35, (x36.getD k3 d_Op).Key, (x36.getD k3 d_Op).Val, (x36.getD k3 d_Op).By⟩ : DOp)).set k3 (⟨((x36.set k3 (⟨x35, (x36.getD k3 d_Op).Key, (x36.getD k3 d_Op).Val, (x36.getD k3 d_Op).By⟩ : DOp)).getD k3 d_Op).Kind, (l_markText (IntKind.wrap .i64 (x35 + 1))), ((x36.set k3 (⟨x35, (x36.getD k3 d_Op).Key, (x36.getD k3 d_Op).Val, (x36.getD k3 d_Op).By⟩ : DOp)).getD k3 d_Op).Val, ((x36.set k3 (⟨x35, (x36.getD k3 d_Op).Key, (x36.getD k3 d_Op).Val, (x36.getD k3 d_Op).By⟩ : DOp)).getD k3 d_Op).By⟩ : DOp)).set k3 (⟨(((x36.set k3 (⟨x35, (x36.getD k3 d_Op).Key, (x36.getD k3 d_Op).Val, (x36.getD k3 d_Op).By⟩ : DOp)).set k3 (⟨((x36.set k3 (⟨x35, (x36.getD k3 d_Op).Key, (x36.getD k3 d_Op).Val, (x36.getD k3 d_Op).By⟩ : DOp)).getD k3 d_Op).Kind, (l_markText (IntKind.wrap .i64 (x35 + 1))), ((x36.set k3 (⟨x35, (x36.getD k3 d_Op).Key, (x36.getD k3 d_Op).Val, (x36.getD k3 d_Op).By⟩ : DOp)).getD k3 d_Op).Val, ((x36.set k3 (⟨x35, (x36.getD k3 d_Op).Key, (x36.getD k3 d_Op).Val, (x36.getD k3 d_Op).By⟩ : DOp)).getD k3 d_Op).By⟩ : DOp)).getD k3 d_Op).Kind, (((x36.set k3 (⟨x35, (x36.getD k3 d_Op).Key, (x36.getD k3 d_Op).Val, (x36.getD k3 d_Op).By⟩ : DOp)).set k3 (⟨((x36.set k3 (⟨x35, (x36.getD k3 d_Op).Key, (x36.getD k3 d_Op).Val, (x36.getD k3 d_Op).By⟩ : DOp)).getD k3 d_Op).Kind, (l_markText (IntKind.wrap .i64 (x35 + 1))), ((x36.set k3 (⟨x35, (x36.getD k3 d_Op).Key, (x36.getD k3 d_Op).Val, (x36.getD k3 d_Op).By⟩ : DOp)).getD k3 d_Op).Val, ((x36.set k3 (⟨x35, (x36.getD k3 d_Op).Key, (x36.getD k3 d_Op).Val, (x36.getD k3 d_Op).By⟩ : DOp)).getD k3 d_Op).By⟩ : DOp)).getD k3 d_Op).Key, (l_markText (IntKind.wrap .i64 ((IntKind.wrap .i64 (x35 + 1)) + 1))), (((x36.set k3 (⟨x35, (x36.getD k3 d_Op).Key, (x36.getD k3 d_Op).Val, (x36.getD k3 d_Op).By⟩ : DOp)).set k3 (⟨((x36.set k3 (⟨x35, (x36.getD k3 d_Op).Key, (x36.getD k3 d_Op).Val, (x36.getD k3 d_Op).By⟩ : DOp)).getD k3 d_Op).Kind, (l_markText (IntKind.wrap .i64 (x35 + 1))), ((x36.set k3 (⟨x35, (x36.getD k3 d_Op).Key, (x36.getD k3 d_Op).Val, (x36.getD k3 d_Op).By⟩ : DOp)).getD k3 d_Op).Val, ((x36.set k3 (⟨x35, (x36.getD k3 d_Op).Key, (x36.getD k3 d_Op).Val, (x36.getD k3 d_Op).By⟩ : DOp)).getD k3 d_Op).By⟩ : DOp)).getD k3 d_Op).By⟩ : DOp)).getD k3 d_Op).Val, IntKind.wrap .i64 ((IntKind.wrap .i64 ((IntKind.wrap .i64 (x35 + 1)) + 1)) + 1)⟩ : DOp)) (vs := [.int .i64 (IntKind.wrap .i64 ((IntKind.wrap .i64 ((IntKind.wrap .i64 (x35 + 1)) + 1)) + 1))]) Try.ty3 rfl hB79 eA82 rfl rfl rfl rfl rfl (by first | omega | assumption | (simp only [IntKind.wrap_i64] at *; omega)) (Nat.le_of_ble_eq_true rfl) rfl rfl ?_)
   intro w84 hB85 hO86
   have hO86z := hO86.size
   refine SeqR.done (tn (CW.region (sd rfl (yl_move rfl rfl (sd rfl (yl_add rfl rfl rfl (sd rfl (yl_assign rfl rfl (SeqR.done (bn (tn ?_)))))))))))
   refine CW.region (sd rfl (yl_move rfl rfl (sd rfl (yl_inc rfl rfl rfl (by omega) (sd rfl (yl_assign rfl rfl (SeqR.done (tn ?_))))))))
   have hB87 : B_l_markOpS_0 p_a p_k k3 (x35, x36) = .cont (IntKind.wrap .i64 ((IntKind.wrap .i64 ((IntKind.wrap .i64 ((IntKind.wrap .i64 (x35 + 1)) + 1)) + 1)) + 1), ((((x36.set k3 (⟨x35, (x36.getD k3 d_Op).Key, (x36.getD k3 d_Op).Val, (x36.getD k3 d_Op).By⟩ : DOp)).set k3 (⟨((x36.set k3 (⟨x35, (x36.getD k3 d_Op).Key, (x36.getD k3 d_Op).Val, (x36.getD k3 d_Op).By⟩ : DOp)).getD k3 d_Op).Kind, (l_markText (IntKind.wrap .i64 (x35 + 1))), ((x36.set k3 (⟨x35, (x36.getD k3 d_Op).Key, (x36.getD k3 d_Op).Val, (x36.getD k3 d_Op).By⟩ : DOp)).getD k3 d_Op).Val, ((x36.set k3 (⟨x35, (x36.getD k3 d_Op).Key, (x36.getD k3 d_Op).Val, (x36.getD k3 d_Op).By⟩ : DOp)).getD k3 d_Op).By⟩ : DOp)).set k3 (⟨(((x36.set k3 (⟨x35, (x36.getD k3 d_Op).Key, (x36.getD k3 d_Op).Val, (x36.getD k3 d_Op).By⟩ : DOp)).set k3 (⟨((x36.set k3 (⟨x35, (x36.getD k3 d_Op).Key, (x36.getD k3 d_Op).Val, (x36.getD k3 d_Op).By⟩ : DOp)).getD k3 d_Op).Kind, (l_markText (IntKind.wrap .i64 (x35 + 1))), ((x36.set k3 (⟨x35, (x36.getD k3 d_Op).Key, (x36.getD k3 d_Op).Val, (x36.getD k3 d_Op).By⟩ : DOp)).getD k3 d_Op).Val, ((x36.set k3 (⟨x35, (x36.getD k3 d_Op).Key, (x36.getD k3 d_Op).Val, (x36.getD k3 d_Op).By⟩ : DOp)).getD k3 d_Op).By⟩ : DOp)).getD k3 d_Op).Kind, (((x36.set k3 (⟨x35, (x36.getD k3 d_Op).Key, (x36.getD k3 d_Op).Val, (x36.getD k3 d_Op).By⟩ : DOp)).set k3 (⟨((x36.set k3 (⟨x35, (x36.getD k3 d_Op).Key, (x36.getD k3 d_Op).Val, (x36.getD k3 d_Op).By⟩ : DOp)).getD k3 d_Op).Kind, (l_markText (IntKind.wrap .i64 (x35 + 1))), ((x36.set k3 (⟨x35, (x36.getD k3 d_Op).Key, (x36.getD k3 d_Op).Val, (x36.getD k3 d_Op).By⟩ : DOp)).getD k3 d_Op).Val, ((x36.set k3 (⟨x35, (x36.getD k3 d_Op).Key, (x36.getD k3 d_Op).Val, (x36.getD k3 d_Op).By⟩ : DOp)).getD k3 d_Op).By⟩ : DOp)).getD k3 d_Op).Key, (l_markText (IntKind.wrap .i64 ((IntKind.wrap .i64 (x35 + 1)) + 1))), (((x36.set k3 (⟨x35, (x36.getD k3 d_Op).Key, (x36.getD k3 d_Op).Val, (x36.getD k3 d_Op).By⟩ : DOp)).set k3 (⟨((x36.set k3 (⟨x35, (x36.getD k3 d_Op).Key, (x36.getD k3 d_Op).Val, (x36.getD k3 d_Op).By⟩ : DOp)).getD k3 d_Op).Kind, (l_markText (IntKind.wrap .i64 (x35 + 1))), ((x36.set k3 (⟨x35, (x36.getD k3 d_Op).Key, (x36.getD k3 d_Op).Val, (x36.getD k3 d_Op).By⟩ : DOp)).getD k3 d_Op).Val, ((x36.set k3 (⟨x35, (x36.getD k3 d_Op).Key, (x36.getD k3 d_Op).Val, (x36.getD k3 d_Op).By⟩ : DOp)).getD k3 d_Op).By⟩ : DOp)).getD k3 d_Op).By⟩ : DOp)).set k3 (⟨((((x36.set k3 (⟨x35, (x36.getD k3 d_Op).Key, (x36.getD k3 d_Op).Val, (x36.getD k3 d_Op).By⟩ : DOp)).set k3 (⟨((x36.set k3 (⟨x35, (x36.getD k3 d_Op).Key, (x36.getD k3 d_Op).Val, (x36.getD k3 d_Op).By⟩ : DOp)).getD k3 d_Op).Kind, (l_markText (IntKind.wrap .i64 (x35 + 1))), ((x36.set k3 (⟨x35, (x36.getD k3 d_Op).Key, (x36.getD k3 d_Op).Val, (x36.getD k3 d_Op).By⟩ : DOp)).getD k3 d_Op).Val, ((x36.set k3 (⟨x35, (x36.getD k3 d_Op).Key, (x36.getD k3 d_Op).Val, (x36.getD k3 d_Op).By⟩ : DOp)).getD k3 d_Op).By⟩ : DOp)).set k3 (⟨(((x36.set k3 (⟨x35, (x36.getD k3 d_Op).Key, (x36.getD k3 d_Op).Val, (x36.getD k3 d_Op).By⟩ : DOp)).set k3 (⟨((x36.set k3 (⟨x35, (x36.getD k3 d_Op).Key, (x36.getD k3 d_Op).Val, (x36.getD k3 d_Op).By⟩ : DOp)).getD k3 d_Op).Kind, (l_markText (IntKind.wrap .i64 (x35 + 1))), ((x36.set k3 (⟨x35, (x36.getD k3 d_Op).Key, (x36.getD k3 d_Op).Val, (x36.getD k3 d_Op).By⟩ : DOp)).getD k3 d_Op).Val, ((x36.set k3 (⟨x35, (x36.getD k3 d_Op).Key, (x36.getD k3 d_Op).Val, (x36.getD k3 d_Op).By⟩ : DOp)).getD k3 d_Op).By⟩ : DOp)).getD k3 d_Op).Kind, (((x36.set k3 (⟨x35, (x36.getD k3 d_Op).Key, (x36.getD k3 d_Op).Val, (x36.getD k3 d_Op).By⟩ : DOp)).set k3 (⟨((x36.set k3 (⟨x35, (x36.getD k3 d_Op).Key, (x36.getD k3 d_Op).Val, (x36.getD k3 d_Op).By⟩ : DOp)).getD k3 d_Op).Kind, (l_markText (IntKind.wrap .i64 (x35 + 1))), ((x36.set k3 (⟨x35, (x36.getD k3 d_Op).Key, (x36.getD k3 d_Op).Val, (x36.getD k3 d_Op).By⟩ : DOp)).getD k3 d_Op).Val, ((x36.set k3 (⟨x35, (x36.getD k3 d_Op).Key, (x36.getD k3 d_Op).Val, (x36.getD k3 d_Op).By⟩ : DOp)).getD k3 d_Op).By⟩ : DOp)).getD k3 d_Op).Key, (l_markText (IntKind.wrap .i64 ((IntKind.wrap .i64 (x35 + 1)) + 1))), (((x36.set k3 (⟨x35, (x36.getD k3 d_Op).Key, (x36.getD k3 d_Op).Val, (x36.getD k3 d_Op).By⟩ : DOp)).set k3 (⟨((x36.set k3 (⟨x35, (x36.getD k3 d_Op).Key, (x36.getD k3 d_Op).Val, (x36.getD k3 d_Op).By⟩ : DOp)).getD k3 d_Op).Kind, (l_markText (IntKind.wrap .i64 (x35 + 1))), ((x36.set k3 (⟨x35, (x36.getD k3 d_Op).Key, (x36.getD k3 d_Op).Val, (x36.getD k3 d_Op).By⟩ : DOp)).getD k3 d_Op).Val, ((x36.set k3 (⟨x35, (x36.getD k3 d_Op).Key, (x36.getD k3 d_Op).Val, (x36.getD k3 d_Op).By⟩ : DOp)).getD k3 d_Op).By⟩ : DOp)).getD k3 d_Op).By⟩ : DOp)).getD k3 d_Op).Kind, ((((x36.set k3 (⟨x35, (x36.getD k3 d_Op).Key, (x36.getD k3 d_Op).Val, (x36.getD k3 d_Op).By⟩ : DOp)).set k3 (⟨((x36.set k3 (⟨x35, (x36.getD k3 d_Op).Key, (x36.getD k3 d_Op).Val, (x36.getD k3 d_Op).By⟩ : DOp)).getD k3 d_Op).Kind, (l_markText (IntKind.wrap .i64 (x35 + 1))), ((x36.set k3 (⟨x35, (x36.getD k3 d_Op).Key, (x36.getD k3 d_Op).Val, (x36.getD k3 d_Op).By⟩ : DOp)).getD k3 d_Op).Val, ((x36.set k3 (⟨x35, (x36.getD k3 d_Op).Key, (x36.getD k3 d_Op).Val, (x36.getD k3 d_Op).By⟩ : DOp)).getD k3 d_Op).By⟩ : DOp)).set k3 (⟨(((x36.set k3 (⟨x35, (x36.getD k3 d_Op).Key, (x36.getD k3 d_Op).Val, (x36.getD k3 d_Op).By⟩ : DOp)).set k3 (⟨((x36.set k3 (⟨x35, (x36.getD k3 d_Op).Key, (x36.getD k3 d_Op).Val, (x36.getD k3 d_Op).By⟩ : DOp)).getD k3 d_Op).Kind, (l_markText (IntKind.wrap .i64 (x35 + 1))), ((x36.set k3 (⟨x35, (x36.getD k3 d_Op).Key, (x36.getD k3 d_Op).Val, (x36.getD k3 d_Op).By⟩ : DOp)).getD k3 d_Op).Val, ((x36.set k3 (⟨x35, (x36.getD k3 d_Op).Key, (x36.getD k3 d_Op).Val, (x36.getD k3 d_Op).By⟩ : DOp)).getD k3 d_Op).By⟩ : DOp)).getD k3 d_Op).Kind, (((x36.set k3 (⟨x35, (x36.getD k3 d_Op).Key, (x36.getD k3 d_Op).Val, (x36.getD k3 d_Op).By⟩ : DOp)).set k3 (⟨((x36.set k3 (⟨x35, (x36.getD k3 d_Op).Key, (x36.getD k3 d_Op).Val, (x36.getD k3 d_Op).By⟩ : DOp)).getD k3 d_Op).Kind, (l_markText (IntKind.wrap .i64 (x35 + 1))), ((x36.set k3 (⟨x35, (x36.getD k3 d_Op).Key, (x36.getD k3 d_Op).Val, (x36.getD k3 d_Op).By⟩ : DOp)).getD k3 d_Op).Val, ((x36.set k3 (⟨x35, (x36.getD k3 d_Op).Key, (x36.getD k3 d_Op).Val, (x36.getD k3 d_Op).By⟩ : DOp)).getD k3 d_Op).By⟩ : DOp)).getD k3 d_Op).Key, (l_markText (IntKind.wrap .i64 ((IntKind.wrap .i64 (x35 + 1)) + 1))), (((x36.set k3 (⟨x35, (x36.getD k3 d_Op).Key, (x36.getD k3 d_Op).Val, (x36.getD k3 d_Op).By⟩ : DOp)).set k3 (⟨((x36.set k3 (⟨x35, (x36.getD k3 d_Op).Key, (x36.getD k3 d_Op).Val, (x36.getD k3 d_Op).By⟩ : DOp)).getD k3 d_Op).Kind, (l_markText (IntKind.wrap .i64 (x35 + 1))), ((x36.set k3 (⟨x35, (x36.getD k3 d_Op).Key, (x36.getD k3 d_Op).Val, (x36.getD k3 d_Op).By⟩ : DOp)).getD k3 d_Op).Val, ((x36.set k3 (⟨x35, (x36.getD k3 d_Op).Key, (x36.getD k3 d_Op).Val, (x36.getD k3 d_Op).By⟩ : DOp)).getD k3 d_Op).By⟩ : DOp)).getD k3 d_Op).By⟩ : DOp)).getD k3 d_Op).Key, ((((x36.set k3 (⟨x35, (x36.getD k3 d_Op).Key, (x36.getD k3 d_Op).Val, (x36.getD k3 d_Op).By⟩ : DOp)).set k3 (⟨((x36.set k3 (⟨x35, (x36.getD k3 d_Op).Key, (x36.getD k3 d_Op).Val, (x36.getD k3 d_Op).By⟩ : DOp)).getD k3 d_Op).Kind, (l_markText (IntKind.wrap .i64 (x35 + 1))), ((x36.set k3 (⟨x35, (x36.getD k3 d_Op).Key, (x36.getD k3 d_Op).Val, (x36.getD k3 d_Op).By⟩ : DOp)).getD k3 d_Op).Val, ((x36.set k3 (⟨x35, (x36.getD k3 d_Op).Key, (x36.getD k3 d_Op).Val, (x36.getD k3 d_Op).By⟩ : DOp)).getD k3 d_Op).By⟩ : DOp)).set k3 (⟨(((x36.set k3 (⟨x35, (x36.getD k3 d_Op).Key, (x36.getD k3 d_Op).Val, (x36.getD k3 d_Op).By⟩ : DOp)).set k3 (⟨((x36.set k3 (⟨x35, (x36.getD k3 d_Op).Key, (x36.getD k3 d_Op).Val, (x36.getD k3 d_Op).By⟩ : DOp)).getD k3 d_Op).Kind, (l_markText (IntKind.wrap .i64 (x35 + 1))), ((x36.set k3 (⟨x35, (x36.getD k3 d_Op).Key, (x36.getD k3 d_Op).Val, (x36.getD k3 d_Op).By⟩ : DOp)).getD k3 d_Op).Val, ((x36.set k3 (⟨x35, (x36.getD k3 d_Op).Key, (x36.getD k3 d_Op).Val, (x36.getD k3 d_Op).By⟩ : DOp)).getD k3 d_Op).By⟩ : DOp)).getD k3 d_Op).Kind, (((x36.set k3 (⟨x35, (x36.getD k3 d_Op).Key, (x36.getD k3 d_Op).Val, (x36.getD k3 d_Op).By⟩ : DOp)).set k3 (⟨((x36.set k3 (⟨x35, (x36.getD k3 d_Op).Key, (x36.getD k3 d_Op).Val, (x36.getD k3 d_Op).By⟩ : DOp)).getD k3 d_Op).Kind, (l_markText (IntKind.wrap .i64 (x35 + 1))), ((x36.set k3 (⟨x35, (x36.getD k3 d_Op).Key, (x36.getD k3 d_Op).Val, (x36.getD k3 d_Op).By⟩ : DOp)).getD k3 d_Op).Val, ((x36.set k3 (⟨x35, (x36.getD k3 d_Op).Key, (x36.getD k3 d_Op).Val, (x36.getD k3 d_Op).By⟩ : DOp)).getD k3 d_Op).By⟩ : DOp)).getD k3 d_Op).Key, (l_markText (IntKind.wrap .i64 ((IntKind.wrap .i64 (x35 + 1)) + 1))), (((x36.set k3 (⟨x35, (x36.getD k3 d_Op).Key, (x36.getD k3 d_Op).Val, (x36.getD k3 d_Op).By⟩ : DOp)).set k3 (⟨((x36.set k3 (⟨x35, (x36.getD k3 d_Op).Key, (x36.getD k3 d_Op).Val, (x36.getD k3 d_Op).By⟩ : DOp)).getD k3 d_Op).Kind, (l_markText (IntKind.wrap .i64 (x35 + 1))), ((x36.set k3 (⟨x35, (x36.getD k3 d_Op).Key, (x36.getD k3 d_Op).Val, (x36.getD k3 d_Op).By⟩ : DOp)).getD k3 d_Op).Val, ((x36.set k3 (⟨x35, (x36.getD k3 d_Op).Key, (x36.getD k3 d_Op).Val, (x36.getD k3 d_Op).By⟩ : DOp)).getD k3 d_Op).By⟩ : DOp)).getD k3 d_Op).By⟩ : DOp)).getD k3 d_Op).Val, IntKind.wrap .i64 ((IntKind.wrap .i64 ((IntKind.wrap .i64 (x35 + 1)) + 1)) + 1)⟩ : DOp))) := by simp only [B_l_markOpS_0, cond_true, cond_false, loopE_done, loopE_ret]
   exact ⟨p_a.length - (k3 + 1), by omega, k3 + 1, IntKind.wrap .i64 ((IntKind.wrap .i64 ((IntKind.wrap .i64 ((IntKind.wrap .i64 (x35 + 1)) + 1)) + 1)) + 1), ((((x36.set k3 (⟨x35, (x36.getD k3 d_Op).Key, (x36.getD k3 d_Op).Val, (x36.getD k3 d_Op).By⟩ : DOp)).set k3 (⟨((x36.set k3 (⟨x35, (x36.getD k3 d_Op).Key, (x36.getD k3 d_Op).Val, (x36.getD k3 d_Op).By⟩ : DOp)).getD k3 d_Op).Kind, (l_markText (IntKind.wrap .i64 (x35 + 1))), ((x36.set k3 (⟨x35, (x36.getD k3 d_Op).Key, (x36.getD k3 d_Op).Val, (x36.getD k3 d_Op).By⟩ : DOp)).getD k3 d_Op).Val, ((x36.set k3 (⟨x35, (x36.getD k3 d_Op).Key, (x36.getD k3 d_Op).Val, (x36.getD k3 d_Op).By⟩ : DOp)).getD k3 d_Op).By⟩ : DOp)).set k3 (⟨(((x36.set k3 (⟨x35, (x36.getD k3 d_Op).Key, (x36.getD k3 d_Op).Val, (x36.getD k3 d_Op).By⟩ : DOp)).set k3 (⟨((x36.set k3 (⟨x35, (x36.getD k3 d_Op).Key, (x36.getD k3 d_Op).Val, (x36.getD k3 d_Op).By⟩ : DOp)).getD k3 d_Op).Kind, (l_markText (IntKind.wrap .i64 (x35 + 1))), ((x36.set k3 (⟨x35, (x36.getD k3 d_Op).Key, (x36.getD k3 d_Op).Val, (x36.getD k3 d_Op).By⟩ : DOp)).getD k3 d_Op).Val, ((x36.set k3 (⟨x35, (x36.getD k3 d_Op).Key, (x36.getD k3 d_Op).Val, (x36.getD k3 d_Op).By⟩ : DOp)).getD k3 d_Op).By⟩ : DOp)).getD k3 d_Op).Kind, (((x36.set k3 (⟨x35, (x36.getD k3 d_Op).Key, (x36.getD k3 d_Op).Val, (x36.getD k3 d_Op).By⟩ : DOp)).set k3 (⟨((x36.set k3 (⟨x35, (x36.getD k3 d_Op).Key, (x36.getD k3 d_Op).Val, (x36.getD k3 d_Op).By⟩ : DOp)).getD k3 d_Op).Kind, (l_markText (IntKind.wrap .i64 (x35 + 1))), ((x36.set k3 (⟨x35, (x36.getD k3 d_Op).Key, (x36.getD k3 d_Op).Val, (x36.getD k3 d_Op).By⟩ : DOp)).getD k3 d_Op).Val, ((x36.set k3 (⟨x35, (x36.getD k3 d_Op).Key, (x36.getD k3 d_Op).Val, (x36.getD k3 d_Op).By⟩ : DOp)).getD k3 d_Op).By⟩ : DOp)).getD k3 d_Op).Key, (l_markText (IntKind.wrap .i64 ((IntKind.wrap .i64 (x35 + 1)) + 1))), (((x36.set k3 (⟨x35, (x36.getD k3 d_Op).Key, (x36.getD k3 d_Op).Val, (x36.getD k3 d_Op).By⟩ : DOp)).set k3 (⟨((x36.set k3 (⟨x35, (x36.getD k3 d_Op).Key, (x36.getD k3 d_Op).Val, (x36.getD k3 d_Op).By⟩ : DOp)).getD k3 d_Op).Kind, (l_markText (IntKind.wrap .i64 (x35 + 1))), ((x36.set k3 (⟨x35, (x36.getD k3 d_Op).Key, (x36.getD k3 d_Op).Val, (x36.getD k3 d_Op).By⟩ : DOp)).getD k3 d_Op).Val, ((x36.set k3 (⟨x35, (x36.getD k3 d_Op).Key, (x36.getD k3 d_Op).Val, (x36.getD k3 d_Op).By⟩ : DOp)).getD k3 d_Op).By⟩ : DOp)).getD k3 d_Op).By⟩ : DOp)).set k3 (⟨((((x36.set k3 (⟨x35, (x36.getD k3 d_Op).Key, (x36.getD k3 d_Op).Val, (x36.getD k3 d_Op).By⟩ : DOp)).set k3 (⟨((x36.set k3 (⟨x35, (x36.getD k3 d_Op).Key, (x36.getD k3 d_Op).Val, (x36.getD k3 d_Op).By⟩ : DOp)).getD k3 d_Op).Kind, (l_markText (IntKind.wrap .i64 (x35 + 1))), ((x36.set k3 (⟨x35, (x36.getD k3 d_Op).Key, (x36.getD k3 d_Op).Val, (x36.getD k3 d_Op).By⟩ : DOp)).getD k3 d_Op).Val, ((x36.set k3 (⟨x35, (x36.getD k3 d_Op).Key, (x36.getD k3 d_Op).Val, (x36.getD k3 d_Op).By⟩ : DOp)).getD k3 d_Op).By⟩ : DOp)).set k3 (⟨(((x36.set k3 (⟨x35, (x36.getD k3 d_Op).Key, (x36.getD k3 d_Op).Val, (x36.getD k3 d_Op).By⟩ : DOp)).set k3 (⟨((x36.set k3 (⟨x35, (x36.getD k3 d_Op).Key, (x36.getD k3 d_Op).Val, (x36.getD k3 d_Op).By⟩ : DOp)).getD k3 d_Op).Kind, (l_markText (IntKind.wrap .i64 (x35 + 1))), ((x36.set k3 (⟨x35, (x36.getD k3 d_Op).Key, (x36.getD k3 d_Op).Val, (x36.getD k3 d_Op).By⟩ : DOp)).getD k3 d_Op).Val, ((x36.set k3 (⟨x35, (x36.getD k3 d_Op).Key, (x36.getD k3 d_Op).Val, (x36.getD k3 d_Op).By⟩ : DOp)).getD k3 d_Op).By⟩ : DOp)).getD k3 d_Op).Kind, (((x36.set k3 (⟨x35, (x36.getD k3 d_Op).Key, (x36.getD k3 d_Op).Val, (x36.getD k3 d_Op).By⟩ : DOp)).set k3 (⟨((x36.set k3 (⟨x35, (x36.getD k3 d_Op).Key, (x36.getD k3 d_Op).Val, (x36.getD k3 d_Op).By⟩ : DOp)).getD k3 d_Op).Kind, (l_markText (IntKind.wrap .i64 (x35 + 1))), ((x36.set k3 (⟨x35, (x36.getD k3 d_Op).Key, (x36.getD k3 d_Op).Val, (x36.getD k3 d_Op).By⟩ : DOp)).getD k3 d_Op).Val, ((x36.set k3 (⟨x35, (x36.getD k3 d_Op).Key, (x36.getD k3 d_Op).Val, (x36.getD k3 d_Op).By⟩ : DOp)).getD k3 d_Op).By⟩ : DOp)).getD k3 d_Op).Key, (l_markText (IntKind.wrap .i64 ((IntKind.wrap .i64 (x35 + 1)) + 1))), (((x36.set k3 (⟨x35, (x36.getD k3 d_Op).Key, (x36.getD k3 d_Op).Val, (x36.getD k3 d_Op).By⟩ : DOp)).set k3 (⟨((x36.set k3 (⟨x35, (x36.getD k3 d_Op).Key, (x36.getD k3 d_Op).Val, (x36.getD k3 d_Op).By⟩ : DOp)).getD k3 d_Op).Kind, (l_markText (IntKind.wrap .i64 (x35 + 1))), ((x36.set k3 (⟨x35, (x36.getD k3 d_Op).Key, (x36.getD k3 d_Op).Val, (x36.getD k3 d_Op).By⟩ : DOp)).getD k3 d_Op).Val, ((x36.set k3 (⟨x35, (x36.getD k3 d_Op).Key, (x36.getD k3 d_Op).Val, (x36.getD k3 d_Op).By⟩ : DOp)).getD k3 d_Op).By⟩ : DOp)).getD k3 d_Op).By⟩ : DOp)).getD k3 d_Op).Kind, ((((x36.set k3 (⟨x35, (x36.getD k3 d_Op).Key, (x36.getD k3 d_Op).Val, (x36.getD k3 d_Op).By⟩ : DOp)).set k3 (⟨((x36.set k3 (⟨x35, (x36.getD k3 d_Op).Key, (x36.getD k3 d_Op).Val, (x36.getD k3 d_Op).By⟩ : DOp)).getD k3 d_Op).Kind, (l_markText (IntKind.wrap .i64 (x35 + 1))), ((x36.set k3 (⟨x35, (x36.getD k3 d_Op).Key, (x36.getD k3 d_Op).Val, (x36.getD k3 d_Op).By⟩ : DOp)).getD k3 d_Op).Val, ((x36.set k3 (⟨x35, (x36.getD k3 d_Op).Key, (x36.getD k3 d_Op).Val, (x36.getD k3 d_Op).By⟩ : DOp)).getD k3 d_Op).By⟩ : DOp)).set k3 (⟨(((x36.set k3 (⟨x35, (x36.getD k3 d_Op).Key, (x36.getD k3 d_Op).Val, (x36.getD k3 d_Op).By⟩ : DOp)).set k3 (⟨((x36.set k3 (⟨x35, (x36.getD k3 d_Op).Key, (x36.getD k3 d_Op).Val, (x36.getD k3 d_Op).By⟩ : DOp)).getD k3 d_Op).Kind, (l_markText (IntKind.wrap .i64 (x35 + 1))), ((x36.set k3 (⟨x35, (x36.getD k3 d_Op).Key, (x36.getD k3 d_Op).Val, (x36.getD k3 d_Op).By⟩ : DOp)).getD k3 d_Op).Val, ((x36.set k3 (⟨x35, (x36.getD k3 d_Op).Key, (x36.getD k3 d_Op).Val, (x36.getD k3 d_Op).By⟩ : DOp)).getD k3 d_Op).By⟩ : DOp)).getD k3 d_Op).Kind, (((x36.set k3 (⟨x35, (x36.getD k3 d_Op).Key, (x36.getD k3 d_Op).Val, (x36.getD k3 d_Op).By⟩ : DOp)).set k3 (⟨((x36.set k3 (⟨x35, (x36.getD k3 d_Op).Key, (x36.getD k3 d_Op).Val, (x36.getD k3 d_Op).By⟩ : DOp)).getD k3 d_Op).Kind, (l_markText (IntKind.wrap .i64 (x35 + 1))), ((x36.set k3 (⟨x35, (x36.getD k3 d_Op).Key, (x36.getD k3 d_Op).Val, (x36.getD k3 d_Op).By⟩ : DOp)).getD k3 d_Op).Val, ((x36.set k3 (⟨x35, (x36.getD k3 d_Op).Key, (x36.getD k3 d_Op).Val, (x36.getD k3 d_Op).By⟩ : DOp)).getD k3 d_Op).By⟩ : DOp)).getD k3 d_Op).Key, (l_markText (IntKind.wrap .i64 ((IntKind.wrap .i64 (x35 + 1)) + 1))), (((x36.set k3 (⟨x35, (x36.getD k3 d_Op).Key, (x36.getD k3 d_Op).Val, (x36.getD k3 d_Op).By⟩ : DOp)).set k3 (⟨((x36.set k3 (⟨x35, (x36.getD k3 d_Op).Key, (x36.getD k3 d_Op).Val, (x36.getD k3 d_Op).By⟩ : DOp)).getD k3 d_Op).Kind, (l_markText (IntKind.wrap .i64 (x35 + 1))), ((x36.set k3 (⟨x35, (x36.getD k3 d_Op).Key, (x36.getD k3 d_Op).Val, (x36.getD k3 d_Op).By⟩ : DOp)).getD k3 d_Op).Val, ((x36.set k3 (⟨x35, (x36.getD k3 d_Op).Key, (x36.getD k3 d_Op).Val, (x36.getD k3 d_Op).By⟩ : DOp)).getD k3 d_Op).By⟩ : DOp)).getD k3 d_Op).By⟩ : DOp)).getD k3 d_Op).Key, ((((x36.set k3 (⟨x35, (x36.getD k3 d_Op).Key, (x36.getD k3 d_Op).Val, (x36.getD k3 d_Op).By⟩ : DOp)).set k3 (⟨((x36.set k3 (⟨x35, (x36.getD k3 d_Op).Key, (x36.getD k3 d_Op).Val, (x36.getD k3 d_Op).By⟩ : DOp)).getD k3 d_Op).Kind, (l_markText (IntKind.wrap .i64 (x35 + 1))), ((x36.set k3 (⟨x35, (x36.getD k3 d_Op).Key, (x36.getD k3 d_Op).Val, (x36.getD k3 d_Op).By⟩ : DOp)).getD k3 d_Op).Val, ((x36.set k3 (⟨x35, (x36.getD k3 d_Op).Key, (x36.getD k3 d_Op).Val, (x36.getD k3 d_Op).By⟩ : DOp)).getD k3 d_Op).By⟩ : DOp)).set k3 (⟨(((x36.set k3 (⟨x35, (x36.getD k3 d_Op).Key, (x36.getD k3 d_Op).Val, (x36.getD k3 d_Op).By⟩ : DOp)).set k3 (⟨((x36.set k3 (⟨x35, (x36.getD k3 d_Op).Key, (x36.getD k3 d_Op).Val, (x36.getD k3 d_Op).By⟩ : DOp)).getD k3 d_Op).Kind, (l_markText (IntKind.wrap .i64 (x35 + 1))), ((x36.set k3 (⟨x35, (x36.getD k3 d_Op).Key, (x36.getD k3 d_Op).Val, (x36.getD k3 d_Op).By⟩ : DOp)).getD k3 d_Op).Val, ((x36.set k3 (⟨x35, (x36.getD k3 d_Op).Key, (x36.getD k3 d_Op).Val, (x36.getD k3 d_Op).By⟩ : DOp)).getD k3 d_Op).By⟩ : DOp)).getD k3 d_Op).Kind, (((x36.set k3 (⟨x35, (x36.getD k3 d_Op).Key, (x36.getD k3 d_Op).Val, (x36.getD k3 d_Op).By⟩ : DOp)).set k3 (⟨((x36.set k3 (⟨x35, (x36.getD k3 d_Op).Key, (x36.getD k3 d_Op).Val, (x36.getD k3 d_Op).By⟩ : DOp)).getD k3 d_Op).Kind, (l_markText (IntKind.wrap .i64 (x35 + 1))), ((x36.set k3 (⟨x35, (x36.getD k3 d_Op).Key, (x36.getD k3 d_Op).Val, (x36.getD k3 d_Op).By⟩ : DOp)).getD k3 d_Op).Val, ((x36.set k3 (⟨x35, (x36.getD k3 d_Op).Key, (x36.getD k3 d_Op).Val, (x36.getD k3 d_Op).By⟩ : DOp)).getD k3 d_Op).By⟩ : DOp)).getD k3 d_Op).Key, (l_markText (IntKind.wrap .i64 ((IntKind.wrap .i64 (x35 + 1)) + 1))), (((x36.set k3 (⟨x35, (x36.getD k3 d_Op).Key, (x36.getD k3 d_Op).Val, (x36.getD k3 d_Op).By⟩ : DOp)).set k3 (⟨((x36.set k3 (⟨x35, (x36.getD k3 d_Op).Key, (x36.getD k3 d_Op).Val, (x36.getD k3 d_Op).By⟩ : DOp)).getD k3 d_Op).Kind, (l_markText (IntKind.wrap .i64 (x35 + 1))), ((x36.set k3 (⟨x35, (x36.getD k3 d_Op).Key, (x36.getD k3 d_Op).Val, (x36.getD k3 d_Op).By⟩ : DOp)).getD k3 d_Op).Val, ((x36.set k3 (⟨x35, (x36.getD k3 d_Op).Key, (x36.getD k3 d_Op).Val, (x36.getD k3 d_Op).By⟩ : DOp)).getD k3 d_Op).By⟩ : DOp)).getD k3 d_Op).By⟩ : DOp)).getD k3 d_Op).Val, IntKind.wrap .i64 ((IntKind.wrap .i64 ((IntKind.wrap .i64 (x35 + 1)) + 1)) + 1)⟩ : DOp)), rfl, hlt54, (by omega), rfl, rfl, rfl, hB85, (Mut.only (Mut.only (Mut.ex (Mut.only (Mut.ex (Mut.only hf50 hO60 (by simp only [InR, or_false]; omega)) hE63) hO70 (by simp only [InR, or_false]; omega)) hE73) hO80 (by simp only [InR, or_false]; omega)) hO86 (by simp only [InR, or_false]; omega)), (by first | omega | assumption | (simp only [IntKind.wrap_i64] at *; omega)), (loopM.cont hlt54 hB87).symm.trans hI44⟩
  ·refine CW.seq (CW.seq (CW.region (sd rfl (yl_move rfl rfl (sd rfl (yl_move rfl rfl (sd rfl (yl_len Try.un60 rfl rfl (sd rfl (yl_lss rfl rfl rfl (SeqR.done (tn ?_))))))))))))
   refine CW.cond_f rfl (lt_f hlt54) (CW.exit (tx (tx ?_)))
   have hL94 : loopM (B_l_markOpS_0 p_a p_k) (p_a.length - 0) 0 (p_k, p_a) = .done (x35, x36) := hI44.symm.trans (loopM.stop hlt54)
   refine bx (tn (CW.seq (CW.region (sd rfl (yl_move rfl rfl (sd rfl (yl_assign rfl rfl (SeqR.done (tn (CW.ret ?_))))))))))
   refine rr rfl (.cons rfl .nil) ?_
   have hM95 : (l_markOpS p_a p_k) = ((x35, x36)) := by simp only [l_markOpS, hL94, cond_true, cond_false, loopE_done, loopE_ret]
   rw [hM95]
   exact ⟨rfl, hf49, hf50⟩
set_option maxRecDepth 100000 in
set_option maxHeartbeats 2000000 in
theorem c_l_heldOpS {A1 : Option Addr} {c1 : Nat} {w : World} (p_a : List DOp) (p_k : Int) (h1 : RdS w (Iv 0 w.heap.size) (RF e_Op) 4 A1 p_a.length c1 p_a) (pre0 : p_k ≤ 9223372036854775807) : Cal Try.prog 44 #[.slice A1 p_a.length c1, .int .i64 (p_k)] w fun v w' => v = .int .i64 ((l_heldOpS p_a p_k)) ∧ Ex w w' := by
 refine Cal.of (vs := [.slice A1 p_a.length c1, .int .i64 (p_k)]) Try.func44 rfl Try.ntmps44 rfl (CW.seq (CW.region (sd rfl (yl_assign rfl rfl (SeqR.done (tn (CW.seq (CW.seq (CW.region ?_)))))))))
 refine sd rfl (yl_assign rfl rfl (SeqR.done (tn (CW.block (CW.loop (fun m4 L5 w6 => ∃ (k2 : Nat) (x3 : Int), m4 = p_a.length - k2 ∧ k2 ≤ p_a.length ∧ w.heap.size ≤ w6.heap.size ∧ lkp L5 0 = some (.slice A1 p_a.length c1) ∧ lkp L5 1 = some (.int .i64 (x3)) ∧ lkp L5 5 = some (.int .i64 ((k2 : Int))) ∧ RdS w6 (Iv 0 w.heap.size) (RF e_Op) 4 A1 p_a.length c1 p_a ∧ Ex w w6 ∧ x3 ≤ 9223372036854775807 ∧ loopM (B_l_heldOpS_0 p_a p_k) (p_a.length - k2) k2 (x3) = loopM (B_l_heldOpS_0 p_a p_k) (p_a.length - 0) 0 (p_k)) (p_a.length - 0) ?_ ?_)))))
 ·exact ⟨0, p_k, rfl, (by omega), Nat.le_refl _, rfl, rfl, rfl, h1, (Ex.refl w), (by first | omega | assumption | (simp only [IntKind.wrap_i64] at *; omega)), rfl⟩
 ·rintro m7 L8 w9 ⟨k2, x3, rfl, hk10, hsz12, hl13, hl14, hl15, hf16, hf17, hv18, hI11⟩
  refine CW.sub (Sub.cons hl13 (Sub.cons hl14 (Sub.cons hl15 (Sub.nil _)))) ?_
  have hf17z := Ex.size hf17
  have hbg19 := RdS.big hf16
  rcases Nat.lt_or_ge k2 p_a.length with hlt20 | hlt20
  ·refine CW.seq (CW.seq (CW.region (sd rfl (yl_move rfl rfl (sd rfl (yl_move rfl rfl (sd rfl (yl_len Try.un60 rfl rfl (sd rfl (yl_lss rfl rfl rfl (SeqR.done (tn ?_))))))))))))
   refine CW.cond_t rfl (lt_t hlt20) (CW.skip (tn (CW.seq (CW.block (CW.seq (CW.seq (CW.region (sd rfl (yl_move rfl rfl ?_)))))))))
   refine sd rfl (yl_move rfl rfl ?_)
   obtain ⟨eb21, eo21, ec21, eA21, eS21, ebl21, el21, eR21, eC21⟩ := RdS.atD hf16 d_Op (i := k2) (by first | omega | assumption)
   obtain rfl := eR21
   have eC21 : Cells w9 eb21 (eo21 + k2 * 4) [.int .i64 ((p_a.getD k2 d_Op).Kind), .string (bs ((p_a.getD k2 d_Op).Key)), .string (bs ((p_a.getD k2 d_Op).Val)), .int .i64 ((p_a.getD k2 d_Op).By)] := eC21
   refine sd rfl (yl_indexAddrN Try.un60 Try.ty163 rfl rfl rfl eA21 (by first | omega | assumption | (simp only [IntKind.wrap_i64] at *; omega)) (sd rfl (yl_fieldAddr Try.fd163_0 rfl rfl (sd rfl (yl_load1 Try.ty3 rfl rfl (eC21 0 _ rfl) (sd rfl (yl_move rfl rfl (sd rfl (yl_neq rfl rfl rfl (SeqR.done (tn (bcase (decide (((p_a.getD k2 d_Op).Kind) = x3)) (fun hb22 => ?_) (fun hb22 => ?_)))))))))))))
   ·have hb22p := dec_t hb22
    refine CW.cond_f rfl (not_t hb22) (CW.skip (tn (CW.seq (CW.region (sd rfl (yl_move rfl rfl (sd rfl (yl_add rfl rfl rfl (sd rfl (yl_assign rfl rfl (SeqR.done ?_)))))))))))
    refine tn (CW.seq (CW.seq (CW.drawsI 8 (vgetI [DetI (.slice A1 p_a.length c1), DetI (.int .i64 ((k2 : Int))), DetI (.pointer (some ⟨eb21, eo21 + k2 * 4, none⟩)), DetI (.pointer (some ⟨eb21, eo21 + k2 * 4 + 1, none⟩)), DetI (.string (bs ((p_a.getD k2 d_Op).Key))), DetI (.int .i64 (IntKind.wrap .i64 (x3 + 1))), DetI (.string (bs ((l_markText (IntKind.wrap .i64 (x3 + 1)))))), DetI (.bool (!(((p_a.getD k2 d_Op).Key) == (l_markText (IntKind.wrap .i64 (x3 + 1))))))]) Try.follows rfl rfl rfl rfl rfl rfl (vgetI_stable ⟨StableI.det _, StableI.det _, StableI.det _, StableI.det _, StableI.det _, StableI.det _, StableI.det _, StableI.det _, trivial⟩) ⟨?_, ?_, ?_, ?_, ?_, ?_, ?_, ?_, trivial⟩ ?_)))
    ·exact fun _ _ h => os rfl ((yl_move rfl (h.old 0 _ rfl rfl) kI))
    ·exact fun _ _ h => os rfl ((yl_move rfl (h.old 5 _ rfl rfl) kI))
    ·intro L34 w35 hi36
     have hE37 := hi36.ex
     have hE37z := Ex.size hE37
     exact os rfl ((yl_indexAddrN Try.un60 Try.ty163 rfl (hi36.dt 0 21 rfl rfl rfl) (hi36.dt 1 22 rfl rfl rfl) eA21 (by first | omega | assumption | (simp only [IntKind.wrap_i64] at *; omega)) kI))
    ·exact fun _ _ h => os rfl ((yl_fieldAddr Try.fd163_1 rfl (h.dt 2 23 rfl rfl rfl) kI))
    ·exact fun _ _ h => os rfl ((yl_load1 Try.ty9 rfl (h.dt 3 24 rfl rfl rfl) ((Cells.ex eC21 h.ex) 1 _ rfl) kI))
    ·exact fun _ _ h => os rfl ((yl_move rfl (h.old 1 _ rfl rfl) kI))
    ·intro L56 w57 hi58
     have hE59 := hi58.ex
     have hE59z := Ex.size hE59
     refine OpR.op' rfl (yl_call Try.en95 rfl (opvs_cons (hi58.dt 5 26 rfl rfl rfl) opvs_nil) (Cal.mono (c_l_markText (IntKind.wrap .i64 (x3 + 1)) (by first | omega | assumption | (simp only [IntKind.wrap_i64] at *; omega))) ?_))
     rintro v62 w61 ⟨rfl, hE63⟩
     exact ⟨rfl, hE63⟩
    ·exact fun _ _ h => os rfl ((yl_sneq (a := ((p_a.getD k2 d_Op).Key)) (b := (l_markText (IntKind.wrap .i64 (x3 + 1)))) rfl (h.dt 4 25 rfl rfl rfl) (h.dt 6 27 rfl rfl rfl) kI))
    ·intro fl73 fh74 L70 w71 hp72
     have hE75 := hp72.ex
     have hE75z := Ex.size hE75
     refine SeqR.done (tn (CW.sub (Sub.cons (d := 0) (hp72.old 0 _ rfl rfl) (Sub.cons (d := 1) (hp72.old 1 _ rfl rfl) (Sub.cons (d := 5) (hp72.old 5 _ rfl rfl) (Sub.cons (d := 28) (hp72.nt 7 28 rfl rfl rfl) (Sub.nil _))))) (bcase (((p_a.getD k2 d_Op).Key) == (l_markText (IntKind.wrap .i64 (x3 + 1)))) (fun hb80 => ?_) (fun hb80 => ?_))))
     ·refine CW.cond_f rfl (not_t hb80) (CW.skip (tn (CW.seq (CW.region (sd rfl (yl_move rfl rfl (sd rfl (yl_add rfl rfl rfl (sd rfl (yl_assign rfl rfl (SeqR.done ?_)))))))))))
      refine tn (CW.seq (CW.seq ?_))
      have q81 := Cells.ex eC21 hE75
      refine CW.drawsI 8 (vgetI [DetI (.slice A1 p_a.length c1), DetI (.int .i64 ((k2 : Int))), DetI (.pointer (some ⟨eb21, eo21 + k2 * 4, none⟩)), DetI (.pointer (some ⟨eb21, eo21 + k2 * 4 + 2, none⟩)), DetI (.string (bs ((p_a.getD k2 d_Op).Val))), DetI (.int .i64 (IntKind.wrap .i64 ((IntKind.wrap .i64 (x3 + 1)) + 1))), DetI (.string (bs ((l_markText (IntKind.wrap .i64 ((IntKind.wrap .i64 (x3 + 1)) + 1)))))), DetI (.bool (!(((p_a.getD k2 d_Op).Val) == (l_markText (IntKind.wrap .i64 ((IntKind.wrap .i64 (x3 + 1)) + 1))))))]) Try.follows rfl rfl rfl rfl rfl rfl (vgetI_stable ⟨StableI.det _, StableI.det _, StableI.det _, StableI.det _, StableI.det _, StableI.det _, StableI.det _, StableI.det _, trivial⟩) ⟨?_, ?_, ?_, ?_, ?_, ?_, ?_, ?_, trivial⟩ ?_
      ·exact fun _ _ h => os rfl ((yl_move rfl (h.old 0 _ rfl rfl) kI))
      ·exact fun _ _ h => os rfl ((yl_move rfl (h.old 5 _ rfl rfl) kI))
      ·intro L93 w94 hi95
       have hE96 := hi95.ex
       have hE96z := Ex.size hE96
       exact os rfl ((yl_indexAddrN Try.un60 Try.ty163 rfl (hi95.dt 0 31 rfl rfl rfl) (hi95.dt 1 32 rfl rfl rfl) eA21 (by first | omega | assumption | (simp only [IntKind.wrap_i64] at *; omega)) kI))
      ·exact fun _ _ h => os rfl ((yl_fieldAddr Try.fd163_2 rfl (h.dt 2 33 rfl rfl rfl) kI))
      ·exact fun _ _ h => os rfl ((yl_load1 Try.ty9 rfl (h.dt 3 34 rfl rfl rfl) ((Cells.ex q81 h.ex) 2 _ rfl) kI))
      ·exact fun _ _ h => os rfl ((yl_move rfl (h.old 1 _ rfl rfl) kI))
      ·intro L115 w116 hi117
       have hE118 := hi117.ex
       have hE118z := Ex.size hE118
       refine OpR.op' rfl (yl_call Try.en95 rfl (opvs_cons (hi117.dt 5 36 rfl rfl rfl) opvs_nil) (Cal.mono (c_l_markText (IntKind.wrap .i64 ((IntKind.wrap .i64 (x3 + 1)) + 1)) (by first | omega | assumption | (simp only [IntKind.wrap_i64] at *; omega))) ?_))
       rintro v121 w120 ⟨rfl, hE122⟩
       exact ⟨rfl, hE122⟩
      ·exact fun _ _ h => os rfl ((yl_sneq (a := ((p_a.getD k2 d_Op).Val)) (b := (l_markText (IntKind.wrap .i64 ((IntKind.wrap .i64 (x3 + 1)) + 1)))) rfl (h.dt 4 35 rfl rfl rfl) (h.dt 6 37 rfl rfl rfl) kI))
      ·intro fl132 fh133 L129 w130 hp131
       have hE134 := hp131.ex
       have hE134z := Ex.size hE134
       refine SeqR.done (tn (CW.sub (Sub.cons (d := 0) (hp131.old 0 _ rfl rfl) (Sub.cons (d := 1) (hp131.old 1 _ rfl rfl) (Sub.cons (d := 5) (hp131.old 5 _ rfl rfl) (Sub.cons (d := 38) (hp131.nt 7 38 rfl rfl rfl) (Sub.nil _))))) (bcase (((p_a.getD k2 d_Op).Val) == (l_markText (IntKind.wrap .i64 ((IntKind.wrap .i64 (x3 + 1)) + 1)))) (fun hb139 => ?_) (fun hb139 => ?_))))
       ·refine CW.cond_f rfl (not_t hb139) (CW.skip (tn (CW.seq (CW.region (sd rfl (yl_move rfl rfl (sd rfl (yl_add rfl rfl rfl (sd rfl (yl_assign rfl rfl (SeqR.done ?_)))))))))))
        refine tn (CW.seq (CW.seq (CW.region (sd rfl (yl_move rfl rfl (sd rfl (yl_move rfl rfl (sd rfl (yl_indexAddrN Try.un60 Try.ty163 rfl rfl rfl eA21 (by first | omega | assumption | (simp only [IntKind.wrap_i64] at *; omega)) (sd rfl (yl_fieldAddr Try.fd163_3 rfl rfl (sd rfl (yl_load1 Try.ty3 rfl rfl ((Cells.ex q81 hE134) 3 _ rfl) ?_)))))))))))))
        refine sd rfl (yl_move rfl rfl (sd rfl (yl_neq rfl rfl rfl (SeqR.done (tn (bcase (decide (((p_a.getD k2 d_Op).By) = (IntKind.wrap .i64 ((IntKind.wrap .i64 ((IntKind.wrap .i64 (x3 + 1)) + 1)) + 1)))) (fun hb141 => ?_) (fun hb141 => ?_)))))))
        ·have hb141p := dec_t hb141
         refine CW.cond_f rfl (not_t hb141) (CW.skip (tn (CW.region (sd rfl (yl_move rfl rfl (sd rfl (yl_add rfl rfl rfl (sd rfl (yl_assign rfl rfl (SeqR.done (bn ?_)))))))))))
         refine tn (CW.region (sd rfl (yl_move rfl rfl (sd rfl (yl_inc rfl rfl rfl (by omega) (sd rfl (yl_assign rfl rfl (SeqR.done (tn ?_)))))))))
         have hB142 : B_l_heldOpS_0 p_a p_k k2 (x3) = .cont (IntKind.wrap .i64 ((IntKind.wrap .i64 ((IntKind.wrap .i64 ((IntKind.wrap .i64 (x3 + 1)) + 1)) + 1)) + 1)) := by simp only [B_l_heldOpS_0, hb22, hb80, hb139, hb141, cond_true, cond_false, loopE_done, loopE_ret]
         exact ⟨p_a.length - (k2 + 1), by omega, k2 + 1, IntKind.wrap .i64 ((IntKind.wrap .i64 ((IntKind.wrap .i64 ((IntKind.wrap .i64 (x3 + 1)) + 1)) + 1)) + 1), rfl, hlt20, (by omega), rfl, rfl, rfl, (RdS.ex good_Op (RdS.ex good_Op hf16 hE75) hE134), (Ex.trans (Ex.trans hf17 hE75) hE134), (by first | omega | assumption | (simp only [IntKind.wrap_i64] at *; omega)), (loopM.cont hlt20 hB142).symm.trans hI11⟩
        ·have hb141p := dec_f hb141
         refine CW.cond_t rfl (not_f hb141) (CW.seq (CW.region (sd rfl (yl_assign rfl rfl (SeqR.done (tn (CW.ret (tr (br ?_)))))))))
         refine tr (tr ?_)
         have hB148 : B_l_heldOpS_0 p_a p_k k2 (x3) = .ret (-1) := by simp only [B_l_heldOpS_0, hb22, hb80, hb139, hb141, cond_true, cond_false, loopE_done, loopE_ret]
         have hL147 : loopM (B_l_heldOpS_0 p_a p_k) (p_a.length - 0) 0 (p_k) = .ret (-1) := hI11.symm.trans (loopM.ret hlt20 hB148)
         refine br (tr (rr rfl (.cons rfl .nil) ?_))
         have hM149 : (l_heldOpS p_a p_k) = (-1) := by simp only [l_heldOpS, hb22, hb80, hb139, hb141, hL147, cond_true, cond_false, loopE_done, loopE_ret]
         rw [hM149]
         exact ⟨rfl, (Ex.trans (Ex.trans hf17 hE75) hE134)⟩
       ·refine CW.cond_t rfl (not_f hb139) (CW.seq (CW.region (sd rfl (yl_assign rfl rfl (SeqR.done (tn (CW.ret (tr (br ?_)))))))))
        refine tr (tr ?_)
        have hB153 : B_l_heldOpS_0 p_a p_k k2 (x3) = .ret (-1) := by simp only [B_l_heldOpS_0, hb22, hb80, hb139, cond_true, cond_false, loopE_done, loopE_ret]
        have hL152 : loopM (B_l_heldOpS_0 p_a p_k) (p_a.length - 0) 0 (p_k) = .ret (-1) := hI11.symm.trans (loopM.ret hlt20 hB153)
        refine br (tr (rr rfl (.cons rfl .nil) ?_))
        have hM154 : (l_heldOpS p_a p_k) = (-1) := by simp only [l_heldOpS, hb22, hb80, hb139, hL152, cond_true, cond_false, loopE_done, loopE_ret]
        rw [hM154]
        exact ⟨rfl, (Ex.trans (Ex.trans hf17 hE75) hE134)⟩
     ·refine CW.cond_t rfl (not_f hb80) (CW.seq (CW.region (sd rfl (yl_assign rfl rfl (SeqR.done (tn (CW.ret (tr (br ?_)))))))))
      refine tr (tr ?_)
      have hB158 : B_l_heldOpS_0 p_a p_k k2 (x3) = .ret (-1) := by simp only [B_l_heldOpS_0, hb22, hb80, cond_true, cond_false, loopE_done, loopE_ret]
      have hL157 : loopM (B_l_heldOpS_0 p_a p_k) (p_a.length - 0) 0 (p_k) = .ret (-1) := hI11.symm.trans (loopM.ret hlt20 hB158)
      refine br (tr (rr rfl (.cons rfl .nil) ?_))
      have hM159 : (l_heldOpS p_a p_k) = (-1) := by simp only [l_heldOpS, hb22, hb80, hL157, cond_true, cond_false, loopE_done, loopE_ret]
      rw [hM159]
      exact ⟨rfl, (Ex.trans hf17 hE75)⟩
   ·have hb22p := dec_f hb22
    refine CW.cond_t rfl (not_f hb22) (CW.seq (CW.region (sd rfl (yl_assign rfl rfl (SeqR.done (tn (CW.ret (tr (br ?_)))))))))
    refine tr (tr ?_)
    have hB162 : B_l_heldOpS_0 p_a p_k k2 (x3) = .ret (-1) := by simp only [B_l_heldOpS_0, hb22, cond_true, cond_false, loopE_done, loopE_ret]
    have hL161 : loopM (B_l_heldOpS_0 p_a p_k) (p_a.length - 0) 0 (p_k) = .ret (-1) := hI11.symm.trans (loopM.ret hlt20 hB162)
    refine br (tr (rr rfl (.cons rfl .nil) ?_))
    have hM163 : (l_heldOpS p_a p_k) = (-1) := by simp only [l_heldOpS, hb22, hL161, cond_true, cond_false, loopE_done, loopE_ret]
    rw [hM163]
    exact ⟨rfl, hf17⟩
  ·refine CW.seq (CW.seq (CW.region (sd rfl (yl_move rfl rfl (sd rfl (yl_move rfl rfl (sd rfl (yl_len Try.un60 rfl rfl (sd rfl (yl_lss rfl rfl rfl (SeqR.done (tn ?_))))))))))))
   refine CW.cond_f rfl (lt_f hlt20) (CW.exit (tx (tx ?_)))
   have hL164 : loopM (B_l_heldOpS_0 p_a p_k) (p_a.length - 0) 0 (p_k) = .done (x3) := hI11.symm.trans (loopM.stop hlt20)
   refine bx (tn (CW.seq (CW.region (sd rfl (yl_move rfl rfl (sd rfl (yl_assign rfl rfl (SeqR.done (tn (CW.ret ?_))))))))))
   refine rr rfl (.cons rfl .nil) ?_
   have hM165 : (l_heldOpS p_a p_k) = (x3) := by simp only [l_heldOpS, hL164, cond_true, cond_false, loopE_done, loopE_ret]
   rw [hM165]
   exact ⟨rfl, hf17⟩
set_option maxRecDepth 100000 in
set_option maxHeartbeats 2000000 in
theorem c_l_szRow {A1 : Option Addr} {c1 : Nat} {w : World} (p_a : DRow) (p_left : Int) (h1 : RdS w (Iv 0 w.heap.size) (RF e_Str) 1 A1 p_a.Vals.length c1 p_a.Vals) : Cal Try.prog 33 #[.agg #[.slice A1 p_a.Vals.length c1], .int .i64 (p_left)] w fun v w' => v = .int .i64 ((l_szRow p_a p_left)) ∧ Ex w w' := by
 refine Cal.of (vs := [.agg #[.slice A1 p_a.Vals.length c1], .int .i64 (p_left)]) Try.func33 rfl Try.ntmps33 rfl (CW.seq (CW.region (sd rfl (yl_box (cs := [.slice A1 p_a.Vals.length c1]) rfl rfl rfl ?_))))
 intro b2 w3 hs4 hz5 hB6 hE7
 refine sd rfl (yl_assign rfl rfl (SeqR.done (tn (CW.seq (CW.region (sd rfl (yl_fieldAddr Try.fd57_0 rfl rfl (sd rfl (yl_load1 Try.ty52 rfl rfl ((hB6.cell 0).trans rfl) (sd rfl (yl_move rfl rfl (sd rfl (yl_call Try.en101 rfl (opvs_cons rfl (opvs_cons rfl opvs_nil)) (Cal.mono (c_l_szStringS p_a.Vals p_left (RdS.up (RdS.ex good_Str h1 hE7) good_Str)) ?_))))))))))))))
 rintro v10 w9 ⟨rfl, hE11⟩
 have hE11z := Ex.size hE11
 refine sd rfl (yl_assign rfl rfl (SeqR.done (tn (CW.seq (CW.seq (CW.region (sd rfl (yl_move rfl rfl (sd rfl (yl_lss rfl rfl rfl (SeqR.done ?_)))))))))))
 refine tn (bcase (decide ((l_szStringS p_a.Vals p_left) < 0)) (fun hb12 => ?_) (fun hb12 => ?_))
 ·have hb12p := dec_t hb12
  refine CW.cond_t rfl hb12 (CW.seq (CW.region (sd rfl (yl_assign rfl rfl (SeqR.done (tn (CW.ret (tr (rr rfl (.cons rfl .nil) ?_)))))))))
  have hM13 : (l_szRow p_a p_left) = (-1) := by simp only [l_szRow, hb12, cond_true, cond_false, loopE_done, loopE_ret]
  rw [hM13]
  exact ⟨rfl, (Ex.trans (Ex.trans (Ex.refl w) hE7) hE11)⟩
 ·have hb12p := dec_f hb12
  refine CW.cond_f rfl hb12 (CW.skip (tn (CW.seq (CW.region (sd rfl (yl_move rfl rfl (sd rfl (yl_assign rfl rfl (SeqR.done (tn ?_))))))))))
  refine CW.ret (rr rfl (.cons rfl .nil) ?_)
  have hM16 : (l_szRow p_a p_left) = ((l_szStringS p_a.Vals p_left)) := by simp only [l_szRow, hb12, cond_true, cond_false, loopE_done, loopE_ret]
  rw [hM16]
  exact ⟨rfl, (Ex.trans (Ex.trans (Ex.refl w) hE7) hE11)⟩
set_option maxRecDepth 100000 in
set_option maxHeartbeats 2000000 in
theorem c_l_szRowAct {A1 : Option Addr} {c1 : Nat} {A2 : Option Addr} {c2 : Nat} {w : World} (p_a : DRowAct) (p_left : Int) (h1 : RdS w (Iv 0 w.heap.size) (RF e_Str) 1 A1 p_a.Old.Vals.length c1 p_a.Old.Vals) (h2 : RdS w (Iv 0 w.heap.size) (RF e_Str) 1 A2 p_a.New.Vals.length c2 p_a.New.Vals) : Cal Try.prog 56 #[.agg #[.int .i64 (p_a.Kind), .slice A1 p_a.Old.Vals.length c1, .slice A2 p_a.New.Vals.length c2], .int .i64 (p_left)] w fun v w' => v = .int .i64 ((l_szRowAct p_a p_left)) ∧ Ex w w' := by
 refine Cal.of (vs := [.agg #[.int .i64 (p_a.Kind), .slice A1 p_a.Old.Vals.length c1, .slice A2 p_a.New.Vals.length c2], .int .i64 (p_left)]) Try.func56 rfl Try.ntmps56 rfl (CW.seq (CW.region (sd rfl (yl_box (cs := [.int .i64 (p_a.Kind), .slice A1 p_a.Old.Vals.length c1, .slice A2 p_a.New.Vals.length c2]) rfl rfl rfl ?_))))
 intro b3 w4 hs5 hz6 hB7 hE8
 refine sd rfl (yl_assign rfl rfl (SeqR.done (tn (CW.seq (CW.region (sd rfl (yl_fieldAddr Try.fd89_1 rfl rfl (sd rfl (yl_loadN (cs := [.slice A1 p_a.Old.Vals.length c1]) Try.ty57 rfl rfl (hB7.cells (n := 1) rfl) rfl (sd rfl (yl_move rfl rfl (sd rfl (yl_call Try.en33 rfl (opvs_cons rfl (opvs_cons rfl opvs_nil)) (Cal.mono (c_l_szRow p_a.Old p_left (RdS.up (RdS.ex good_Str h1 hE8) good_Str)) ?_))))))))))))))
 rintro v11 w10 ⟨rfl, hE12⟩
 have hE12z := Ex.size hE12
 refine sd rfl (yl_assign rfl rfl (SeqR.done (tn (CW.seq (CW.seq (CW.region (sd rfl (yl_move rfl rfl (sd rfl (yl_lss rfl rfl rfl (SeqR.done ?_)))))))))))
 refine tn (bcase (decide ((l_szRow p_a.Old p_left) < 0)) (fun hb13 => ?_) (fun hb13 => ?_))
 ·have hb13p := dec_t hb13
  refine CW.cond_t rfl hb13 (CW.seq (CW.region (sd rfl (yl_assign rfl rfl (SeqR.done (tn (CW.ret (tr (rr rfl (.cons rfl .nil) ?_)))))))))
  have hM14 : (l_szRowAct p_a p_left) = (-1) := by simp only [l_szRowAct, hb13, cond_true, cond_false, loopE_done, loopE_ret]
  rw [hM14]
  exact ⟨rfl, (Ex.trans (Ex.trans (Ex.refl w) hE8) hE12)⟩
 ·have hb13p := dec_f hb13
  refine CW.cond_f rfl hb13 (CW.skip (tn (CW.seq (CW.region (sd rfl (yl_fieldAddr Try.fd89_2 rfl rfl (sd rfl (yl_loadN (cs := [.slice A2 p_a.New.Vals.length c2]) Try.ty57 rfl rfl ((Box.ex hB7 hE12).cells (n := 1) rfl) rfl (sd rfl (yl_move rfl rfl (sd rfl (yl_call Try.en33 rfl (opvs_cons rfl (opvs_cons rfl opvs_nil)) (Cal.mono (c_l_szRow p_a.New (l_szRow p_a.Old p_left) (RdS.up (RdS.ex good_Str (RdS.ex good_Str h2 hE8) hE12) good_Str)) ?_)))))))))))))
  rintro v21 w20 ⟨rfl, hE22⟩
  have hE22z := Ex.size hE22
  refine sd rfl (yl_assign rfl rfl (SeqR.done (tn (CW.seq (CW.seq (CW.region (sd rfl (yl_move rfl rfl (sd rfl (yl_lss rfl rfl rfl (SeqR.done ?_)))))))))))
  refine tn (bcase (decide ((l_szRow p_a.New (l_szRow p_a.Old p_left)) < 0)) (fun hb23 => ?_) (fun hb23 => ?_))
  ·have hb23p := dec_t hb23
   refine CW.cond_t rfl hb23 (CW.seq (CW.region (sd rfl (yl_assign rfl rfl (SeqR.done (tn (CW.ret (tr (rr rfl (.cons rfl .nil) ?_)))))))))
   have hM24 : (l_szRowAct p_a p_left) = (-1) := by simp only [l_szRowAct, hb13, hb23, cond_true, cond_false, loopE_done, loopE_ret]
   rw [hM24]
   exact ⟨rfl, (Ex.trans (Ex.trans (Ex.trans (Ex.refl w) hE8) hE12) hE22)⟩
  ·have hb23p := dec_f hb23
   refine CW.cond_f rfl hb23 (CW.skip (tn (CW.seq (CW.region (sd rfl (yl_move rfl rfl (sd rfl (yl_assign rfl rfl (SeqR.done (tn ?_))))))))))
   refine CW.ret (rr rfl (.cons rfl .nil) ?_)
   have hM28 : (l_szRowAct p_a p_left) = ((l_szRow p_a.New (l_szRow p_a.Old p_left))) := by simp only [l_szRowAct, hb13, hb23, cond_true, cond_false, loopE_done, loopE_ret]
   rw [hM28]
   exact ⟨rfl, (Ex.trans (Ex.trans (Ex.trans (Ex.refl w) hE8) hE12) hE22)⟩
set_option maxRecDepth 100000 in
set_option maxHeartbeats 2000000 in
theorem c_l_szStmt {A1 : Option Addr} {c1 : Nat} {A2 : Option Addr} {c2 : Nat} {w : World} (p_a : DStmt) (p_left : Int) (h1 : RdS w (Iv 0 w.heap.size) (RF e_Str) 1 A1 p_a.Act.Old.Vals.length c1 p_a.Act.Old.Vals) (h2 : RdS w (Iv 0 w.heap.size) (RF e_Str) 1 A2 p_a.Act.New.Vals.length c2 p_a.Act.New.Vals) : Cal Try.prog 62 #[.agg #[.int .i64 (p_a.Kind), .int .i64 (p_a.Act.Kind), .slice A1 p_a.Act.Old.Vals.length c1, .slice A2 p_a.Act.New.Vals.length c2, .string (bs (p_a.Idx)), .string (bs (p_a.Low)), .string (bs (p_a.High))], .int .i64 (p_left)] w fun v w' => v = .int .i64 ((l_szStmt p_a p_left)) ∧ Ex w w' := by
 refine Cal.of (vs := [.agg #[.int .i64 (p_a.Kind), .int .i64 (p_a.Act.Kind), .slice A1 p_a.Act.Old.Vals.length c1, .slice A2 p_a.Act.New.Vals.length c2, .string (bs (p_a.Idx)), .string (bs (p_a.Low)), .string (bs (p_a.High))], .int .i64 (p_left)]) Try.func62 rfl Try.ntmps62 rfl (CW.seq (CW.region (sd rfl (yl_box (cs := [.int .i64 (p_a.Kind), .int .i64 (p_a.Act.Kind), .slice A1 p_a.Act.Old.Vals.length c1, .slice A2 p_a.Act.New.Vals.length c2, .string (bs (p_a.Idx)), .string (bs (p_a.Low)), .string (bs (p_a.High))]) rfl rfl rfl ?_))))
 intro b3 w4 hs5 hz6 hB7 hE8
 refine sd rfl (yl_assign rfl rfl (SeqR.done (tn (CW.seq (CW.region (sd rfl (yl_fieldAddr Try.fd99_1 rfl rfl (sd rfl (yl_loadN (cs := [.int .i64 (p_a.Act.Kind), .slice A1 p_a.Act.Old.Vals.length c1, .slice A2 p_a.Act.New.Vals.length c2]) Try.ty89 rfl rfl (hB7.cells (n := 3) rfl) rfl (sd rfl (yl_move rfl rfl (sd rfl (yl_call Try.en56 rfl (opvs_cons rfl (opvs_cons rfl opvs_nil)) (Cal.mono (c_l_szRowAct p_a.Act p_left (RdS.up (RdS.ex good_Str h1 hE8) good_Str) (RdS.up (RdS.ex good_Str h2 hE8) good_Str)) ?_))))))))))))))
 rintro v12 w11 ⟨rfl, hE13⟩
 have hE13z := Ex.size hE13
 refine sd rfl (yl_assign rfl rfl (SeqR.done (tn (CW.seq (CW.seq (CW.region (sd rfl (yl_move rfl rfl (sd rfl (yl_lss rfl rfl rfl (SeqR.done ?_)))))))))))
 refine tn (bcase (decide ((l_szRowAct p_a.Act p_left) < 0)) (fun hb14 => ?_) (fun hb14 => ?_))
 ·have hb14p := dec_t hb14
  refine CW.cond_t rfl hb14 (CW.seq (CW.region (sd rfl (yl_assign rfl rfl (SeqR.done (tn (CW.ret (tr (rr rfl (.cons rfl .nil) ?_)))))))))
  have hM15 : (l_szStmt p_a p_left) = (-1) := by simp only [l_szStmt, hb14, cond_true, cond_false, loopE_done, loopE_ret]
  rw [hM15]
  exact ⟨rfl, (Ex.trans (Ex.trans (Ex.refl w) hE8) hE13)⟩
 ·have hb14p := dec_f hb14
  refine CW.cond_f rfl hb14 (CW.skip (tn (CW.seq (CW.region (sd rfl (yl_move rfl rfl (sd rfl (yl_fieldAddr Try.fd99_2 rfl rfl ?_))))))))
  have q18 := Box.ex hB7 hE13
  refine sd rfl (yl_load1 Try.ty9 rfl rfl ((q18.cell 4).trans rfl) (sd rfl (yl_slen Try.un9 (a := p_a.Idx) rfl rfl (sd rfl (yl_sub rfl rfl rfl (sd rfl (yl_assign rfl rfl (SeqR.done (tn (CW.seq (CW.seq (CW.region ?_))))))))))))
  refine sd rfl (yl_move rfl rfl (sd rfl (yl_lss rfl rfl rfl (SeqR.done (tn (bcase (decide ((IntKind.wrap .i64 ((l_szRowAct p_a.Act p_left) - (p_a.Idx.length : Int))) < 0)) (fun hb19 => ?_) (fun hb19 => ?_)))))))
  ·have hb19p := dec_t hb19
   refine CW.cond_t rfl hb19 (CW.seq (CW.region (sd rfl (yl_assign rfl rfl (SeqR.done (tn (CW.ret (tr (rr rfl (.cons rfl .nil) ?_)))))))))
   have hM20 : (l_szStmt p_a p_left) = (-1) := by simp only [l_szStmt, hb14, hb19, cond_true, cond_false, loopE_done, loopE_ret]
   rw [hM20]
   exact ⟨rfl, (Ex.trans (Ex.trans (Ex.refl w) hE8) hE13)⟩
  ·have hb19p := dec_f hb19
   refine CW.cond_f rfl hb19 (CW.skip (tn (CW.seq (CW.region (sd rfl (yl_move rfl rfl (sd rfl (yl_fieldAddr Try.fd99_3 rfl rfl (sd rfl (yl_load1 Try.ty9 rfl rfl ((q18.cell 5).trans rfl) (sd rfl (yl_slen Try.un9 (a := p_a.Low) rfl rfl ?_))))))))))))
   refine sd rfl (yl_sub rfl rfl rfl (sd rfl (yl_assign rfl rfl (SeqR.done (tn (CW.seq (CW.seq (CW.region (sd rfl (yl_move rfl rfl (sd rfl (yl_lss rfl rfl rfl ?_))))))))))))
   refine SeqR.done (tn (bcase (decide ((IntKind.wrap .i64 ((IntKind.wrap .i64 ((l_szRowAct p_a.Act p_left) - (p_a.Idx.length : Int))) - (p_a.Low.length : Int))) < 0)) (fun hb23 => ?_) (fun hb23 => ?_)))
   ·have hb23p := dec_t hb23
    refine CW.cond_t rfl hb23 (CW.seq (CW.region (sd rfl (yl_assign rfl rfl (SeqR.done (tn (CW.ret (tr (rr rfl (.cons rfl .nil) ?_)))))))))
    have hM24 : (l_szStmt p_a p_left) = (-1) := by simp only [l_szStmt, hb14, hb19, hb23, cond_true, cond_false, loopE_done, loopE_ret]
    rw [hM24]
    exact ⟨rfl, (Ex.trans (Ex.trans (Ex.refl w) hE8) hE13)⟩
   ·have hb23p := dec_f hb23
    refine CW.cond_f rfl hb23 (CW.skip (tn (CW.seq (CW.region (sd rfl (yl_move rfl rfl (sd rfl (yl_fieldAddr Try.fd99_4 rfl rfl (sd rfl (yl_load1 Try.ty9 rfl rfl ((q18.cell 6).trans rfl) (sd rfl (yl_slen Try.un9 (a := p_a.High) rfl rfl ?_))))))))))))
    refine sd rfl (yl_sub rfl rfl rfl (sd rfl (yl_assign rfl rfl (SeqR.done (tn (CW.seq (CW.seq (CW.region (sd rfl (yl_move rfl rfl (sd rfl (yl_lss rfl rfl rfl ?_))))))))))))
    refine SeqR.done (tn (bcase (decide ((IntKind.wrap .i64 ((IntKind.wrap .i64 ((IntKind.wrap .i64 ((l_szRowAct p_a.Act p_left) - (p_a.Idx.length : Int))) - (p_a.Low.length : Int))) - (p_a.High.length : Int))) < 0)) (fun hb27 => ?_) (fun hb27 => ?_)))
    ·have hb27p := dec_t hb27
     refine CW.cond_t rfl hb27 (CW.seq (CW.region (sd rfl (yl_assign rfl rfl (SeqR.done (tn (CW.ret (tr (rr rfl (.cons rfl .nil) ?_)))))))))
     have hM28 : (l_szStmt p_a p_left) = (-1) := by simp only [l_szStmt, hb14, hb19, hb23, hb27, cond_true, cond_false, loopE_done, loopE_ret]
     rw [hM28]
     exact ⟨rfl, (Ex.trans (Ex.trans (Ex.refl w) hE8) hE13)⟩
    ·have hb27p := dec_f hb27
     refine CW.cond_f rfl hb27 (CW.skip (tn (CW.seq (CW.region (sd rfl (yl_move rfl rfl (sd rfl (yl_assign rfl rfl (SeqR.done (tn ?_))))))))))
     refine CW.ret (rr rfl (.cons rfl .nil) ?_)
     have hM31 : (l_szStmt p_a p_left) = (IntKind.wrap .i64 ((IntKind.wrap .i64 ((IntKind.wrap .i64 ((l_szRowAct p_a.Act p_left) - (p_a.Idx.length : Int))) - (p_a.Low.length : Int))) - (p_a.High.length : Int))) := by simp only [l_szStmt, hb14, hb19, hb23, hb27, cond_true, cond_false, loopE_done, loopE_ret]
     rw [hM31]
     exact ⟨rfl, (Ex.trans (Ex.trans (Ex.refl w) hE8) hE13)⟩
set_option maxRecDepth 100000 in
set_option maxHeartbeats 2000000 in
theorem c_s_l24Join {A1 : Option Addr} {c1 : Nat} {w : World} (p_l : List Str) (p_by : Str) (h1 : RdS w (Iv 0 w.heap.size) (RF e_Str) 1 A1 p_l.length c1 p_l) (o2 : (okL okS) p_l) (o3 : okS p_by) : Cal Try.prog 209 #[.slice A1 p_l.length c1, .string (bs (p_by))] w fun v w' => v = .string (bs ((s_l24Join p_l p_by))) ∧ Ex w w' := by
 have hol4 := o2.1
 have hol5 : p_by.length ≤ 1073741824 := o3
 refine Cal.of (vs := [.slice A1 p_l.length c1, .string (bs (p_by))]) Try.func209 rfl Try.ntmps209 rfl (CW.seq (CW.region (sd rfl (yl_assign rfl rfl (SeqR.done (tn (CW.seq (CW.region (sd rfl (yl_assign rfl rfl ?_))))))))))
 refine SeqR.done (tn (CW.seq (CW.seq (CW.region (sd rfl (yl_move rfl rfl (sd rfl (yl_len Try.un52 rfl rfl (sd rfl (yl_move rfl rfl (SeqR.done ?_)))))))))))
 refine tn (CW.block (CW.loop (fun m15 L16 w17 => ∃ (k6 : Nat) (x14 : Str), m15 = p_l.length - k6 ∧ k6 ≤ p_l.length ∧ w.heap.size ≤ w17.heap.size ∧ lkp L16 1 = some (.string (bs (p_by))) ∧ lkp L16 5 = some (.string (bs (x14))) ∧ lkp L16 8 = some (.slice A1 p_l.length c1) ∧ lkp L16 9 = some (.int .i64 ((p_l.length : Int))) ∧ lkp L16 10 = some (.int .i64 ((k6 : Int))) ∧ RdS w17 (Iv 0 w.heap.size) (RF e_Str) 1 A1 p_l.length c1 p_l ∧ Ex w w17 ∧ x14.length ≤ 0 + 2147483648 * (k6 - 0) ∧ loopM (B_s_l24Join_0 p_l p_by) (p_l.length - k6) k6 (x14) = loopM (B_s_l24Join_0 p_l p_by) (p_l.length - 0) 0 (([] : Str))) (p_l.length - 0) ?_ ?_))
 ·exact ⟨0, ([] : Str), rfl, (by omega), Nat.le_refl _, rfl, rfl, rfl, rfl, rfl, h1, (Ex.refl w), (by first | (simp; done) | (first | omega | (simp only [List.length_append, List.length_cons, List.length_nil, List.length_set, toS_length]; omega))), rfl⟩
 ·rintro m18 L19 w20 ⟨k6, x14, rfl, hk21, hsz23, hl24, hl25, hl26, hl27, hl28, hf29, hf30, hln31, hI22⟩
  refine CW.sub (Sub.cons hl24 (Sub.cons hl25 (Sub.cons hl26 (Sub.cons hl27 (Sub.cons hl28 (Sub.nil _)))))) ?_
  have hf30z := Ex.size hf30
  have hbg32 := RdS.big hf29
  rcases Nat.lt_or_ge k6 p_l.length with hlt33 | hlt33
  ·refine CW.seq (CW.region (sd rfl (yl_lss rfl rfl rfl (SeqR.done (tn (CW.seq (CW.cond_t rfl (lt_t hlt33) (CW.skip (tn ?_)))))))))
   refine CW.seq (CW.block (CW.seq (CW.region (sd rfl (yl_move rfl rfl ?_)))))
   obtain ⟨eb34, eo34, ec34, eA34, eS34, ebl34, el34, eR34, eC34⟩ := RdS.atD hf29 d_Str (i := k6) (by first | omega | assumption)
   obtain rfl := eR34
   have eC34 : Cells w20 eb34 (eo34 + k6 * 1) [.string (bs ((p_l.getD k6 d_Str)))] := eC34
   refine sd rfl (yl_indexAddrN Try.un52 Try.ty9 rfl rfl rfl eA34 (by first | omega | assumption | (simp only [IntKind.wrap_i64] at *; omega)) (sd rfl (yl_load1 Try.ty9 rfl rfl (eC34 0 _ rfl) (sd rfl (yl_assign rfl rfl (sd rfl (yl_assign rfl rfl (SeqR.done (tn (CW.seq (CW.seq (CW.region ?_))))))))))))
   refine sd rfl (yl_move rfl rfl (sd rfl (yl_gtr rfl rfl rfl (SeqR.done (tn (bcase (decide (0 < (k6 : Int))) (fun hb35 => ?_) (fun hb35 => ?_)))))))
   ·have hb35p := dec_t hb35
    refine CW.cond_t rfl hb35 (CW.region (sd rfl (yl_move rfl rfl (sd rfl (yl_move rfl rfl ?_)))))
    have hol36 : p_by.length ≤ 1073741824 := o3
    refine sd rfl (yl_sadd (a := x14) (b := p_by) rfl rfl rfl (by first | omega | (simp only [List.length_append, List.length_cons, List.length_nil, List.length_take, List.length_drop, toS_length]; omega)) (sd rfl (yl_assign rfl rfl (SeqR.done (tn (CW.region (sd rfl (yl_move rfl rfl (sd rfl (yl_move rfl rfl ?_))))))))))
    have hol37 : p_by.length ≤ 1073741824 := o3
    have hol38 : (p_l.getD k6 d_Str).length ≤ 1073741824 := (okL.getD o2 ok_d_Str _)
    refine sd rfl (yl_sadd (a := (x14 ++ p_by)) (b := (p_l.getD k6 d_Str)) rfl rfl rfl (by first | omega | (simp only [List.length_append, List.length_cons, List.length_nil, List.length_take, List.length_drop, toS_length]; omega)) (sd rfl (yl_assign rfl rfl (SeqR.done (bn (tn (CW.region (sd rfl (yl_inc rfl rfl rfl (by omega) (sd rfl (yl_move rfl rfl (SeqR.done ?_))))))))))))
    refine tn ?_
    have hB39 : B_s_l24Join_0 p_l p_by k6 (x14) = .cont ((x14 ++ p_by) ++ (p_l.getD k6 d_Str)) := by simp only [B_s_l24Join_0, hb35, cond_true, cond_false, loopE_done, loopE_ret]
    exact ⟨p_l.length - (k6 + 1), by omega, k6 + 1, (x14 ++ p_by) ++ (p_l.getD k6 d_Str), rfl, hlt33, (by omega), rfl, rfl, rfl, rfl, rfl, hf29, hf30, (by first | omega | (simp only [List.length_append, List.length_cons, List.length_nil, List.length_set, toS_length]; omega)), (loopM.cont hlt33 hB39).symm.trans hI22⟩
   ·have hb35p := dec_f hb35
    refine CW.cond_f rfl hb35 (CW.skip (tn (CW.region (sd rfl (yl_move rfl rfl (sd rfl (yl_move rfl rfl ?_)))))))
    have hol40 : (p_l.getD k6 d_Str).length ≤ 1073741824 := (okL.getD o2 ok_d_Str _)
    refine sd rfl (yl_sadd (a := x14) (b := (p_l.getD k6 d_Str)) rfl rfl rfl (by first | omega | (simp only [List.length_append, List.length_cons, List.length_nil, List.length_take, List.length_drop, toS_length]; omega)) (sd rfl (yl_assign rfl rfl (SeqR.done (bn (tn (CW.region (sd rfl (yl_inc rfl rfl rfl (by omega) (sd rfl (yl_move rfl rfl (SeqR.done ?_))))))))))))
    refine tn ?_
    have hB41 : B_s_l24Join_0 p_l p_by k6 (x14) = .cont (x14 ++ (p_l.getD k6 d_Str)) := by simp only [B_s_l24Join_0, hb35, cond_true, cond_false, loopE_done, loopE_ret]
    exact ⟨p_l.length - (k6 + 1), by omega, k6 + 1, x14 ++ (p_l.getD k6 d_Str), rfl, hlt33, (by omega), rfl, rfl, rfl, rfl, rfl, hf29, hf30, (by first | omega | (simp only [List.length_append, List.length_cons, List.length_nil, List.length_set, toS_length]; omega)), (loopM.cont hlt33 hB41).symm.trans hI22⟩
  ·refine CW.seq (CW.region (sd rfl (yl_lss rfl rfl rfl (SeqR.done (tn (CW.seq (CW.cond_f rfl (lt_f hlt33) (CW.exit (tx ?_)))))))))
   refine tx ?_
   have hL42 : loopM (B_s_l24Join_0 p_l p_by) (p_l.length - 0) 0 (([] : Str)) = .done (x14) := hI22.symm.trans (loopM.stop hlt33)
   refine bx (tn (CW.seq (CW.region (sd rfl (yl_move rfl rfl (sd rfl (yl_assign rfl rfl (SeqR.done (tn (CW.ret ?_))))))))))
   refine rr rfl (.cons rfl .nil) ?_
   have hM43 : (s_l24Join p_l p_by) = (x14) := by simp only [s_l24Join, hL42, cond_true, cond_false, loopE_done, loopE_ret]
   rw [hM43]
   exact ⟨rfl, hf30⟩
set_option maxRecDepth 100000 in
set_option maxHeartbeats 2000000 in
theorem c_s_l25Write {A1 : Option Addr} {c1 : Nat} {A2 : Option Addr} {c2 : Nat} {A4 : Option Addr} {c4 : Nat} {w : World} (p_t : DTable) (p_r : DRow) (h1 : RdS w (Iv 0 w.heap.size) (RF e_Str) 1 A1 p_t.Cols.length c1 p_t.Cols) (h2 : RdS w (Iv 0 w.heap.size) (RF e_Idx) 3 A2 p_t.Idxs.length c2 p_t.Idxs) (h4 : RdS w (Iv 0 w.heap.size) (RF e_Str) 1 A4 p_r.Vals.length c4 p_r.Vals) (o3 : ok_Table p_t) (o5 : ok_Row p_r) (pre0 : 0 < p_r.Vals.length) : Cal Try.prog 163 #[.agg #[.string (bs (p_t.Name)), .slice A1 p_t.Cols.length c1, .slice A2 p_t.Idxs.length c2], .agg #[.slice A4 p_r.Vals.length c4]] w fun v w' => v = .agg #[.string (bs ((s_l25Write p_t p_r).Key)), .string (bs ((s_l25Write p_t p_r).Val)), .bool ((s_l25Write p_t p_r).Gone)] ∧ Ex w w' := by
 have hol6 : p_t.Name.length ≤ 1073741824 := o3.1
 have hol7 := o3.2.1.1
 have hol8 := o3.2.2.1
 have hol9 := o5.1
 refine Cal.of (vs := [.agg #[.string (bs (p_t.Name)), .slice A1 p_t.Cols.length c1, .slice A2 p_t.Idxs.length c2], .agg #[.slice A4 p_r.Vals.length c4]]) Try.func163 rfl Try.ntmps163 rfl (CW.seq (CW.region (sd rfl (yl_box (cs := [.string (bs (p_t.Name)), .slice A1 p_t.Cols.length c1, .slice A2 p_t.Idxs.length c2]) rfl rfl rfl ?_))))
 intro b10 w11 hs12 hz13 hB14 hE15
 refine sd rfl (yl_box (cs := [.slice A4 p_r.Vals.length c4]) rfl rfl rfl ?_)
 intro b16 w17 hs18 hz19 hB20 hE21
 refine sd rfl (yl_alloc Try.ty125 (cs := [.string (bs (([] : Str))), .string (bs (([] : Str))), .bool (false)]) rfl rfl ?_)
 intro b22 w23 hs24 hz25 hB26 hE27
 refine SeqR.done (tn (CW.seq ?_))
 have hol30 : p_t.Name.length ≤ 1073741824 := o3.1
 have q31 := Box.ex hB20 hE27
 have q34 := RdS.ex good_Str (RdS.ex good_Str (RdS.ex good_Str h4 hE15) hE21) hE27
 obtain ⟨eb35, eo35, ec35, eA35, eS35, ebl35, el35, eR35, eC35⟩ := RdS.atD q34 d_Str (i := 0) (by first | omega | assumption)
 obtain rfl := eR35
 have eC35 : Cells w23 eb35 (eo35 + 0 * 1) [.string (bs ((p_r.Vals.getD 0 d_Str)))] := eC35
 have hol36 : p_t.Name.length ≤ 1073741824 := o3.1
 have hol37 : (p_r.Vals.getD 0 d_Str).length ≤ 1073741824 := (okL.getD o5 ok_d_Str _)
 obtain ⟨A38, c39, he42, h41⟩ := RdS.sl (RdS.drop q34 (k := 1) (by omega))
 have hrc43 := (q34).2.1
 refine CW.drawsI 12 (vgetI [DetI (.pointer (some ⟨b10, 0 + 0, none⟩)), DetI (.string (bs (p_t.Name))), DetI (.string (bs (p_t.Name ++ ([47] : Str)))), DetI (.pointer (some ⟨b16, 0 + 0, none⟩)), DetI (.slice A4 p_r.Vals.length c4), DetI (.pointer (some ⟨eb35, eo35 + 0 * 1, none⟩)), DetI (.string (bs ((p_r.Vals.getD 0 d_Str)))), DetI (.string (bs ((p_t.Name ++ ([47] : Str)) ++ (p_r.Vals.getD 0 d_Str)))), DetI (.pointer (some ⟨b16, 0 + 0, none⟩)), DetI (.slice A4 p_r.Vals.length c4), fun lo hi v wq => ∃ A38 c39, v = .slice A38 ((p_r.Vals.drop 1).length) c39 ∧ RdS wq (Iv 0 w.heap.size) (RF e_Str) 1 A38 (p_r.Vals.drop 1).length c39 (p_r.Vals.drop 1), DetI (.string (bs ((s_l24Join (p_r.Vals.drop 1) ([44] : Str)))))]) Try.follows rfl rfl rfl rfl rfl rfl (vgetI_stable ⟨StableI.det _, StableI.det _, StableI.det _, StableI.det _, StableI.det _, StableI.det _, StableI.det _, StableI.det _, StableI.det _, StableI.det _, (fun _ _ _ _ _ ⟨A38, c39, hv, h44⟩ e => ⟨A38, c39, hv, RdS.ex good_Str h44 e⟩), StableI.det _, trivial⟩) ⟨?_, ?_, ?_, ?_, ?_, ?_, ?_, ?_, ?_, ?_, ?_, ?_, trivial⟩ ?_
 ·exact fun _ _ h => os rfl ((yl_fieldAddr Try.fd65_0 rfl (h.old 2 _ rfl rfl) kI))
 ·exact fun _ _ h => os rfl ((yl_load1 Try.ty9 rfl (h.dt 0 5 rfl rfl rfl) (((Box.ex (Box.ex (Box.ex hB14 hE21) hE27) h.ex).cell 0).trans rfl) kI))
 ·intro L57 w58 hi59
  have hE60 := hi59.ex
  have hE60z := Ex.size hE60
  have hol62 : p_t.Name.length ≤ 1073741824 := o3.1
  exact os rfl ((yl_sadd (a := p_t.Name) (b := ([47] : Str)) rfl (hi59.dt 1 6 rfl rfl rfl) rfl (by first | omega | (simp only [List.length_append, List.length_cons, List.length_nil, List.length_take, List.length_drop, toS_length]; omega)) kI))
 ·exact fun _ _ h => os rfl ((yl_fieldAddr Try.fd67_0 rfl (h.old 3 _ rfl rfl) kI))
 ·exact fun _ _ h => os rfl ((yl_load1 Try.ty52 rfl (h.dt 3 8 rfl rfl rfl) (((Box.ex q31 h.ex).cell 0).trans rfl) kI))
 ·intro L74 w75 hi76
  have hE77 := hi76.ex
  have hE77z := Ex.size hE77
  exact os rfl ((yl_indexAddrN Try.un52 Try.ty9 rfl (hi76.dt 4 9 rfl rfl rfl) rfl eA35 (by first | omega | assumption | (simp only [IntKind.wrap_i64] at *; omega)) kI))
 ·exact fun _ _ h => os rfl ((yl_load1 Try.ty9 rfl (h.dt 5 10 rfl rfl rfl) ((Cells.ex eC35 h.ex) 0 _ rfl) kI))
 ·intro L85 w86 hi87
  have hE88 := hi87.ex
  have hE88z := Ex.size hE88
  have hol91 : p_t.Name.length ≤ 1073741824 := o3.1
  have hol92 : (p_r.Vals.getD 0 d_Str).length ≤ 1073741824 := (okL.getD o5 ok_d_Str _)
  exact os rfl ((yl_sadd (a := (p_t.Name ++ ([47] : Str))) (b := (p_r.Vals.getD 0 d_Str)) rfl (hi87.dt 2 7 rfl rfl rfl) (hi87.dt 6 11 rfl rfl rfl) (by first | omega | (simp only [List.length_append, List.length_cons, List.length_nil, List.length_take, List.length_drop, toS_length]; omega)) kI))
 ·exact fun _ _ h => os rfl ((yl_fieldAddr Try.fd67_0 rfl (h.old 3 _ rfl rfl) kI))
 ·exact fun _ _ h => os rfl ((yl_load1 Try.ty52 rfl (h.dt 8 13 rfl rfl rfl) (((Box.ex q31 h.ex).cell 0).trans rfl) kI))
 ·intro L104 w105 hi106
  have hE107 := hi106.ex
  have hE107z := Ex.size hE107
  have q109 := RdS.ex good_Str q34 hE107
  obtain ⟨A110, c111, he114, h113⟩ := RdS.sl (RdS.drop q109 (k := 1) (by omega))
  have hrc115 := (q109).2.1
  exact os rfl ((yl_sliceR (kh := .i64) (l := 1) (h := p_r.Vals.length) Try.un52 Try.ty9 rfl (hi106.dt 9 14 rfl rfl rfl) (.inr ⟨_, rfl, rfl⟩) (.inl ⟨rfl, rfl⟩) (by omega) (by omega) he114 ⟨fun _ _ => ⟨A110, c111, rfl, h113⟩, rfl⟩))
 ·intro L116 w117 hi118
  obtain ⟨lo121, hh122, _, hx120, hr123, hr124, hr125, A38_126, c39_127, rfl, h128⟩ := hi118.dep 10 15 rfl rfl
  refine OpR.op' rfl (yl_call Try.en209 rfl (opvs_cons hx120 (opvs_cons rfl opvs_nil)) (Cal.mono (c_s_l24Join (p_r.Vals.drop 1) ([44] : Str) (RdS.up h128 good_Str) (okL.drop o5 _) (okS.lit rfl)) ?_))
  rintro v130 w129 ⟨rfl, hE131⟩
  exact ⟨rfl, hE131⟩
 ·intro fl135 fh136 L132 w133 hp134
  have hE137 := hp134.ex
  have hE137z := Ex.size hE137
  have hx138 := hp134.old 4 _ rfl rfl
  refine sd rfl (yl_build (cs := [.string (bs ((p_t.Name ++ ([47] : Str)) ++ (p_r.Vals.getD 0 d_Str))), .string (bs ((s_l24Join (p_r.Vals.drop 1) ([44] : Str)))), .bool (false)]) rfl (opvs_cons (hp134.nt 7 12 rfl rfl rfl) (opvs_cons (hp134.nt 11 16 rfl rfl rfl) opvs_nil)) (by kernel_rfl) (SeqR.u rfl rfl (yl_store (vs := [.string (bs ((p_t.Name ++ ([47] : Str)) ++ (p_r.Vals.getD 0 d_Str))), .string (bs ((s_l24Join (p_r.Vals.drop 1) ([44] : Str)))), .bool (false)]) Try.ty125 rfl hx138 rfl rfl rfl rfl (Box.ex hB26 hE137) (Nat.le_of_ble_eq_true rfl) ?_)))
  intro w142 hB143 hO144
  have hB143 : Box w142 b22 125 [.string (bs ((p_t.Name ++ ([47] : Str)) ++ (p_r.Vals.getD 0 d_Str))), .string (bs ((s_l24Join (p_r.Vals.drop 1) ([44] : Str)))), .bool (false)] := hB143
  have hO144z := hO144.size
  refine SeqR.done (tn (CW.sub (Sub.cons (d := 4) hx138 (Sub.nil _)) (CW.ret (rr rfl (.cons ⟨_, rfl, run_loadN Try.ty125 (cs := [.string (bs ((p_t.Name ++ ([47] : Str)) ++ (p_r.Vals.getD 0 d_Str))), .string (bs ((s_l24Join (p_r.Vals.drop 1) ([44] : Str)))), .bool (false)]) rfl (hB143.cells (n := 3) rfl)⟩ .nil) ?_))))
  have hM145 : (s_l25Write p_t p_r) = ((⟨(p_t.Name ++ ([47] : Str)) ++ (p_r.Vals.getD 0 d_Str), (s_l24Join (p_r.Vals.drop 1) ([44] : Str)), false⟩ : DWrite)) := by simp only [s_l25Write, cond_true, cond_false, loopE_done, loopE_ret]
  rw [hM145]
  exact ⟨rfl, (Below.only (Ex.trans (Ex.trans (Ex.trans (Ex.trans (Ex.refl w) hE15) hE21) hE27) hE137) hO144 (by omega))⟩
set_option maxRecDepth 100000 in
set_option maxHeartbeats 2000000 in
theorem c_s_l26Head {A1 : Option Addr} {c1 : Nat} {A2 : Option Addr} {c2 : Nat} {A4 : Option Addr} {c4 : Nat} {A5 : Option Addr} {c5 : Nat} {w : World} (p_t : DTable) (p_a : DRowAct) (h1 : RdS w (Iv 0 w.heap.size) (RF e_Str) 1 A1 p_t.Cols.length c1 p_t.Cols) (h2 : RdS w (Iv 0 w.heap.size) (RF e_Idx) 3 A2 p_t.Idxs.length c2 p_t.Idxs) (h4 : RdS w (Iv 0 w.heap.size) (RF e_Str) 1 A4 p_a.Old.Vals.length c4 p_a.Old.Vals) (h5 : RdS w (Iv 0 w.heap.size) (RF e_Str) 1 A5 p_a.New.Vals.length c5 p_a.New.Vals) (o3 : ok_Table p_t) (o6 : ok_RowAct p_a) (pre0 : s_GoodTable p_t = true) (pre1 : actOf p_t p_a) : Cal Try.prog 176 #[.agg #[.string (bs (p_t.Name)), .slice A1 p_t.Cols.length c1, .slice A2 p_t.Idxs.length c2], .agg #[.int .i64 (p_a.Kind), .slice A4 p_a.Old.Vals.length c4, .slice A5 p_a.New.Vals.length c5]] w fun v w' => ∃ A_1 c_1 lo_1 hi_1, v = .slice A_1 ((s_l26Head p_t p_a).length) c_1 ∧ OwnL w' lo_1 hi_1 163 4 (RF e_Op) A_1 ((s_l26Head p_t p_a).length) c_1 (s_l26Head p_t p_a) ∧ (w.heap.size ≤ lo_1 ∧ lo_1 ≤ hi_1 ∧ hi_1 ≤ w'.heap.size) ∧ Ex w w' := by
 have hol7 : p_t.Name.length ≤ 1073741824 := o3.1
 have hol8 := o3.2.1.1
 have hol9 := o3.2.2.1
 have hol10 := o6.1.1
 have hol11 := o6.2.1
 have hof := actOf_len pre0 pre1
 refine Cal.of (vs := [.agg #[.string (bs (p_t.Name)), .slice A1 p_t.Cols.length c1, .slice A2 p_t.Idxs.length c2], .agg #[.int .i64 (p_a.Kind), .slice A4 p_a.Old.Vals.length c4, .slice A5 p_a.New.Vals.length c5]]) Try.func176 rfl Try.ntmps176 rfl (CW.seq (CW.region (sd rfl (yl_box (cs := [.string (bs (p_t.Name)), .slice A1 p_t.Cols.length c1, .slice A2 p_t.Idxs.length c2]) rfl rfl rfl ?_))))
 intro b12 w13 hs14 hz15 hB16 hE17
 refine sd rfl (yl_box (cs := [.int .i64 (p_a.Kind), .slice A4 p_a.Old.Vals.length c4, .slice A5 p_a.New.Vals.length c5]) rfl rfl rfl ?_)
 intro b18 w19 hs20 hz21 hB22 hE23
 refine sd rfl (yl_assign rfl rfl (SeqR.done (tn (CW.seq (CW.seq (CW.region (sd rfl (yl_fieldAddr Try.fd93_0 rfl rfl (sd rfl (yl_load1 Try.ty3 rfl rfl ((hB22.cell 0).trans rfl) (sd rfl (yl_eql rfl rfl rfl ?_))))))))))))
 refine SeqR.done (tn (bcase (decide (p_a.Kind = 1)) (fun hb24 => ?_) (fun hb24 => ?_)))
 ·have hb24p := dec_t hb24
  refine CW.cond_t rfl hb24 (CW.seq (CW.region (sd rfl (yl_loadN (cs := [.string (bs (p_t.Name)), .slice A1 p_t.Cols.length c1, .slice A2 p_t.Idxs.length c2]) Try.ty65 rfl rfl ((Box.ex hB16 hE23).cells (n := 3) rfl) rfl (sd rfl (yl_fieldAddr Try.fd93_2 rfl rfl (sd rfl (yl_loadN (cs := [.slice A5 p_a.New.Vals.length c5]) Try.ty67 rfl rfl (hB22.cells (n := 1) rfl) rfl (sd rfl (yl_call Try.en163 rfl (opvs_cons rfl (opvs_cons rfl opvs_nil)) (Cal.mono (c_s_l25Write p_t p_a.New (RdS.up (RdS.ex good_Str (RdS.ex good_Str h1 hE17) hE23) good_Str) (RdS.up (RdS.ex good_Idx (RdS.ex good_Idx h2 hE17) hE23) good_Idx) (RdS.up (RdS.ex good_Str (RdS.ex good_Str h5 hE17) hE23) good_Str) o3 o6.2 (by first | omega | assumption | (simp only [IntKind.wrap_i64] at *; omega))) ?_)))))))))))
  rintro v33 w32 ⟨rfl, hE34⟩
  have hE34z := Ex.size hE34
  refine sd rfl (yl_alloc Try.ty125 (cs := [.string (bs (([] : Str))), .string (bs (([] : Str))), .bool (false)]) rfl rfl ?_)
  intro b35 w36 hs37 hz38 hB39 hE40
  refine SeqR.u rfl rfl (yl_store (vs := [.string (bs ((s_l25Write p_t p_a.New).Key)), .string (bs ((s_l25Write p_t p_a.New).Val)), .bool ((s_l25Write p_t p_a.New).Gone)]) Try.ty125 rfl rfl rfl rfl rfl rfl hB39 (Nat.le_of_ble_eq_true rfl) ?_)
  intro w41 hB42 hO43
  have hB42 : Box w41 b35 125 [.string (bs ((s_l25Write p_t p_a.New).Key)), .string (bs ((s_l25Write p_t p_a.New).Val)), .bool ((s_l25Write p_t p_a.New).Gone)] := hB42
  have hO43z := hO43.size
  refine SeqR.done (tn (CW.seq (CW.region (sd rfl (yl_fieldAddr Try.fd125_0 rfl rfl (sd rfl (yl_load1 Try.ty9 rfl rfl ((hB42.cell 0).trans rfl) (sd rfl (yl_build (cs := [.int .i64 (6), .string (bs ((s_l25Write p_t p_a.New).Key)), .string (bs (([] : Str))), .int .i64 (0)]) rfl (opvs_cons rfl (opvs_cons rfl opvs_nil)) (by kernel_rfl) (sd rfl (yl_fieldAddr Try.fd125_0 rfl rfl (sd rfl (yl_load1 Try.ty9 rfl rfl ((hB42.cell 0).trans rfl) ?_)))))))))))))
  refine sd rfl (yl_fieldAddr Try.fd125_1 rfl rfl (sd rfl (yl_load1 Try.ty9 rfl rfl ((hB42.cell 1).trans rfl) (sd rfl (yl_build (cs := [.int .i64 (2), .string (bs ((s_l25Write p_t p_a.New).Key)), .string (bs ((s_l25Write p_t p_a.New).Val)), .int .i64 (0)]) rfl (opvs_cons rfl (opvs_cons rfl (opvs_cons rfl opvs_nil))) (by kernel_rfl) (sd rfl (yl_buildSlice (cs := [.int .i64 (6), .string (bs ((s_l25Write p_t p_a.New).Key)), .string (bs (([] : Str))), .int .i64 (0), .int .i64 (2), .string (bs ((s_l25Write p_t p_a.New).Key)), .string (bs ((s_l25Write p_t p_a.New).Val)), .int .i64 (0)]) Try.un60 Try.ty163 (by decide) rfl (opvs_cons rfl (opvs_cons rfl opvs_nil)) (by kernel_rfl) ?_)))))))
  intro b44 w45 hs46 hz47 hB48 hE49
  have hO50 : OwnL w45 b44 (b44 + 1) 163 4 (RF e_Op) (some ⟨b44, 0, none⟩) 2 2 ([(⟨6, (s_l25Write p_t p_a.New).Key, ([] : Str), 0⟩ : DOp), (⟨2, (s_l25Write p_t p_a.New).Key, (s_l25Write p_t p_a.New).Val, 0⟩ : DOp)] : List DOp) := OwnL.of_box (S := fun _ => False) hB48 (Nat.le_refl _) (Nat.lt_succ_self _) (EncL.cons (c := [.int .i64 (6), .string (bs ((s_l25Write p_t p_a.New).Key)), .string (bs (([] : Str))), .int .i64 (0)]) rfl rfl (EncL.cons (c := [.int .i64 (2), .string (bs ((s_l25Write p_t p_a.New).Key)), .string (bs ((s_l25Write p_t p_a.New).Val)), .int .i64 (0)]) rfl rfl EncL.nil)) (Nat.le_of_ble_eq_true rfl) (fun h => h) (fun _ h => False.elim h)
  refine sd rfl (yl_assign rfl rfl (SeqR.done (tn (CW.ret (tr (rr rfl (.cons rfl .nil) ?_))))))
  have hM51 : (s_l26Head p_t p_a) = (([(⟨6, (s_l25Write p_t p_a.New).Key, ([] : Str), 0⟩ : DOp), (⟨2, (s_l25Write p_t p_a.New).Key, (s_l25Write p_t p_a.New).Val, 0⟩ : DOp)] : List DOp)) := by simp only [s_l26Head, hb24, cond_true, cond_false, loopE_done, loopE_ret]
  have hfx52 := (hO50).1
  rw [hM51]
  exact ⟨(some ⟨b44, 0, none⟩), 2, b44, (b44 + 1), (by first | rfl | (simp only [List.length_replicate, List.length_set]; done) | (simp only [List.length_replicate, List.length_set]; rfl) | rw [hfx52]), (OwnL.fix hO50), (by omega), (Ex.trans (Below.only (Ex.trans (Ex.trans (Ex.trans (Ex.trans (Ex.refl w) hE17) hE23) hE34) hE40) hO43 (by omega)) hE49)⟩
 ·have hb24p := dec_f hb24
  refine CW.cond_f rfl hb24 (CW.skip (tn (CW.seq (CW.region ?_))))
  have q59 := Box.ex hB16 hE23
  refine sd rfl (yl_loadN (cs := [.string (bs (p_t.Name)), .slice A1 p_t.Cols.length c1, .slice A2 p_t.Idxs.length c2]) Try.ty65 rfl rfl (q59.cells (n := 3) rfl) rfl (sd rfl (yl_fieldAddr Try.fd93_1 rfl rfl (sd rfl (yl_loadN (cs := [.slice A4 p_a.Old.Vals.length c4]) Try.ty67 rfl rfl (hB22.cells (n := 1) rfl) rfl ?_)))))
  have q61 := RdS.ex good_Str (RdS.ex good_Str h1 hE17) hE23
  have q63 := RdS.ex good_Idx (RdS.ex good_Idx h2 hE17) hE23
  refine sd rfl (yl_call Try.en163 rfl (opvs_cons rfl (opvs_cons rfl opvs_nil)) (Cal.mono (c_s_l25Write p_t p_a.Old (RdS.up q61 good_Str) (RdS.up q63 good_Idx) (RdS.up (RdS.ex good_Str (RdS.ex good_Str h4 hE17) hE23) good_Str) o3 o6.1 (by first | omega | assumption | (simp only [IntKind.wrap_i64] at *; omega))) ?_))
  rintro v67 w66 ⟨rfl, hE68⟩
  have hE68z := Ex.size hE68
  refine sd rfl (yl_alloc Try.ty125 (cs := [.string (bs (([] : Str))), .string (bs (([] : Str))), .bool (false)]) rfl rfl ?_)
  intro b69 w70 hs71 hz72 hB73 hE74
  refine SeqR.u rfl rfl (yl_store (vs := [.string (bs ((s_l25Write p_t p_a.Old).Key)), .string (bs ((s_l25Write p_t p_a.Old).Val)), .bool ((s_l25Write p_t p_a.Old).Gone)]) Try.ty125 rfl rfl rfl rfl rfl rfl hB73 (Nat.le_of_ble_eq_true rfl) ?_)
  intro w75 hB76 hO77
  have hB76 : Box w75 b69 125 [.string (bs ((s_l25Write p_t p_a.Old).Key)), .string (bs ((s_l25Write p_t p_a.Old).Val)), .bool ((s_l25Write p_t p_a.Old).Gone)] := hB76
  have hO77z := hO77.size
  refine SeqR.done (tn (CW.seq (CW.region (sd rfl (yl_fieldAddr Try.fd125_0 rfl rfl (sd rfl (yl_load1 Try.ty9 rfl rfl ((hB76.cell 0).trans rfl) (sd rfl (yl_fieldAddr Try.fd125_1 rfl rfl (sd rfl (yl_load1 Try.ty9 rfl rfl ((hB76.cell 1).trans rfl) (sd rfl (yl_build (cs := [.int .i64 (7), .string (bs ((s_l25Write p_t p_a.Old).Key)), .string (bs ((s_l25Write p_t p_a.Old).Val)), .int .i64 (0)]) rfl (opvs_cons rfl (opvs_cons rfl (opvs_cons rfl opvs_nil))) (by kernel_rfl) ?_)))))))))))))
  refine sd rfl (yl_alloc Try.ty163 (cs := [.int .i64 (0), .string (bs (([] : Str))), .string (bs (([] : Str))), .int .i64 (0)]) rfl rfl ?_)
  intro b78 w79 hs80 hz81 hB82 hE83
  refine SeqR.u rfl rfl (yl_store (vs := [.int .i64 (7), .string (bs ((s_l25Write p_t p_a.Old).Key)), .string (bs ((s_l25Write p_t p_a.Old).Val)), .int .i64 (0)]) Try.ty163 rfl rfl rfl rfl rfl rfl hB82 (Nat.le_of_ble_eq_true rfl) ?_)
  intro w84 hB85 hO86
  have hB85 : Box w84 b78 163 [.int .i64 (7), .string (bs ((s_l25Write p_t p_a.Old).Key)), .string (bs ((s_l25Write p_t p_a.Old).Val)), .int .i64 (0)] := hB85
  have hO86z := hO86.size
  refine SeqR.done (tn (CW.seq (CW.seq (CW.region (sd rfl (yl_fieldAddr Try.fd93_0 rfl rfl ?_))))))
  have q91 := Box.only (Box.ex (Box.only (Box.ex (Box.ex hB22 hE68) hE74) hO77 (by omega)) hE83) hO86 (by omega)
  refine sd rfl (yl_load1 Try.ty3 rfl rfl ((q91.cell 0).trans rfl) (sd rfl (yl_eql rfl rfl rfl (SeqR.done (tn (bcase (decide (p_a.Kind = 2)) (fun hb92 => ?_) (fun hb92 => ?_)))))))
  ·have hb92p := dec_t hb92
   refine CW.cond_t rfl hb92 (CW.seq (CW.region (sd rfl (yl_loadN (cs := [.int .i64 (7), .string (bs ((s_l25Write p_t p_a.Old).Key)), .string (bs ((s_l25Write p_t p_a.Old).Val)), .int .i64 (0)]) Try.ty163 rfl rfl (hB85.cells (n := 4) rfl) rfl (sd rfl (yl_fieldAddr Try.fd125_0 rfl rfl (sd rfl (yl_load1 Try.ty9 rfl rfl (((Box.only (Box.ex hB76 hE83) hO86 (by omega)).cell 0).trans rfl) (sd rfl (yl_build (cs := [.int .i64 (3), .string (bs ((s_l25Write p_t p_a.Old).Key)), .string (bs (([] : Str))), .int .i64 (0)]) rfl (opvs_cons rfl (opvs_cons rfl opvs_nil)) (by kernel_rfl) (sd rfl (yl_buildSlice (cs := [.int .i64 (7), .string (bs ((s_l25Write p_t p_a.Old).Key)), .string (bs ((s_l25Write p_t p_a.Old).Val)), .int .i64 (0), .int .i64 (3), .string (bs ((s_l25Write p_t p_a.Old).Key)), .string (bs (([] : Str))), .int .i64 (0)]) Try.un60 Try.ty163 (by decide) rfl (opvs_cons rfl (opvs_cons rfl opvs_nil)) (by kernel_rfl) ?_))))))))))))
   intro b95 w96 hs97 hz98 hB99 hE100
   have hO101 : OwnL w96 b95 (b95 + 1) 163 4 (RF e_Op) (some ⟨b95, 0, none⟩) 2 2 ([(⟨7, (s_l25Write p_t p_a.Old).Key, (s_l25Write p_t p_a.Old).Val, 0⟩ : DOp), (⟨3, (s_l25Write p_t p_a.Old).Key, ([] : Str), 0⟩ : DOp)] : List DOp) := OwnL.of_box (S := fun _ => False) hB99 (Nat.le_refl _) (Nat.lt_succ_self _) (EncL.cons (c := [.int .i64 (7), .string (bs ((s_l25Write p_t p_a.Old).Key)), .string (bs ((s_l25Write p_t p_a.Old).Val)), .int .i64 (0)]) rfl rfl (EncL.cons (c := [.int .i64 (3), .string (bs ((s_l25Write p_t p_a.Old).Key)), .string (bs (([] : Str))), .int .i64 (0)]) rfl rfl EncL.nil)) (Nat.le_of_ble_eq_true rfl) (fun h => h) (fun _ h => False.elim h)
   refine sd rfl (yl_assign rfl rfl (SeqR.done (tn (CW.ret (tr (rr rfl (.cons rfl .nil) ?_))))))
   have hM102 : (s_l26Head p_t p_a) = (([(⟨7, (s_l25Write p_t p_a.Old).Key, (s_l25Write p_t p_a.Old).Val, 0⟩ : DOp), (⟨3, (s_l25Write p_t p_a.Old).Key, ([] : Str), 0⟩ : DOp)] : List DOp)) := by simp only [s_l26Head, hb24, hb92, cond_true, cond_false, loopE_done, loopE_ret]
   have hfx103 := (hO101).1
   rw [hM102]
   exact ⟨(some ⟨b95, 0, none⟩), 2, b95, (b95 + 1), (by first | rfl | (simp only [List.length_replicate, List.length_set]; done) | (simp only [List.length_replicate, List.length_set]; rfl) | rw [hfx103]), (OwnL.fix hO101), (by omega), (Ex.trans (Below.only (Ex.trans (Below.only (Ex.trans (Ex.trans (Ex.trans (Ex.trans (Ex.refl w) hE17) hE23) hE68) hE74) hO77 (by omega)) hE83) hO86 (by omega)) hE100)⟩
  ·have hb92p := dec_f hb92
   refine CW.cond_f rfl hb92 (CW.skip (tn (CW.seq (CW.drawsI 9 (vgetI [DetI (.agg #[.int .i64 (7), .string (bs ((s_l25Write p_t p_a.Old).Key)), .string (bs ((s_l25Write p_t p_a.Old).Val)), .int .i64 (0)]), DetI (.pointer (some ⟨b69, 0 + 0, none⟩)), DetI (.string (bs ((s_l25Write p_t p_a.Old).Key))), DetI (.agg #[.string (bs (p_t.Name)), .slice A1 p_t.Cols.length c1, .slice A2 p_t.Idxs.length c2]), DetI (.pointer (some ⟨b18, 0 + 2, none⟩)), DetI (.agg #[.slice A5 p_a.New.Vals.length c5]), DetI (.agg #[.string (bs ((s_l25Write p_t p_a.New).Key)), .string (bs ((s_l25Write p_t p_a.New).Val)), .bool ((s_l25Write p_t p_a.New).Gone)]), DetI (.string (bs ((s_l25Write p_t p_a.New).Val))), DetI (.agg #[.int .i64 (2), .string (bs ((s_l25Write p_t p_a.Old).Key)), .string (bs ((s_l25Write p_t p_a.New).Val)), .int .i64 (0)])]) Try.follows rfl rfl rfl rfl rfl rfl (vgetI_stable ⟨StableI.det _, StableI.det _, StableI.det _, StableI.det _, StableI.det _, StableI.det _, StableI.det _, StableI.det _, StableI.det _, trivial⟩) ⟨?_, ?_, ?_, ?_, ?_, ?_, ?_, ?_, ?_, trivial⟩ ?_))))
   ·exact fun _ _ h => os rfl ((yl_loadN (cs := [.int .i64 (7), .string (bs ((s_l25Write p_t p_a.Old).Key)), .string (bs ((s_l25Write p_t p_a.Old).Val)), .int .i64 (0)]) Try.ty163 rfl (h.old 7 _ rfl rfl) ((Box.ex hB85 h.ex).cells (n := 4) rfl) rfl kI))
   ·exact fun _ _ h => os rfl ((yl_fieldAddr Try.fd125_0 rfl (h.old 6 _ rfl rfl) kI))
   ·intro L148 w149 hi150
    have hE151 := hi150.ex
    have hE151z := Ex.size hE151
    exact os rfl ((yl_load1 Try.ty9 rfl (hi150.dt 1 42 rfl rfl rfl) (((Box.ex (Box.only (Box.ex hB76 hE83) hO86 (by omega)) hE151).cell 0).trans rfl) kI))
   ·intro L154 w155 hi156
    have hE157 := hi156.ex
    have hE157z := Ex.size hE157
    exact os rfl ((yl_loadN (cs := [.string (bs (p_t.Name)), .slice A1 p_t.Cols.length c1, .slice A2 p_t.Idxs.length c2]) Try.ty65 rfl (hi156.old 2 _ rfl rfl) ((Box.ex (Box.only (Box.ex (Box.only (Box.ex (Box.ex q59 hE68) hE74) hO77 (by omega)) hE83) hO86 (by omega)) hE157).cells (n := 3) rfl) rfl kI))
   ·exact fun _ _ h => os rfl ((yl_fieldAddr Try.fd93_2 rfl (h.old 3 _ rfl rfl) kI))
   ·exact fun _ _ h => os rfl ((yl_loadN (cs := [.slice A5 p_a.New.Vals.length c5]) Try.ty67 rfl (h.dt 4 45 rfl rfl rfl) ((Box.ex q91 h.ex).cells (n := 1) rfl) rfl kI))
   ·intro L171 w172 hi173
    have hE174 := hi173.ex
    have hE174z := Ex.size hE174
    refine OpR.op' rfl (yl_call Try.en163 rfl (opvs_cons (hi173.dt 3 44 rfl rfl rfl) (opvs_cons (hi173.dt 5 46 rfl rfl rfl) opvs_nil)) (Cal.mono (c_s_l25Write p_t p_a.New (RdS.up (RdS.ex good_Str (RdS.only good_Str (RdS.ex good_Str (RdS.only good_Str (RdS.ex good_Str (RdS.ex good_Str q61 hE68) hE74) hO77 (by simp only [Iv]; omega)) hE83) hO86 (by simp only [Iv]; omega)) hE174) good_Str) (RdS.up (RdS.ex good_Idx (RdS.only good_Idx (RdS.ex good_Idx (RdS.only good_Idx (RdS.ex good_Idx (RdS.ex good_Idx q63 hE68) hE74) hO77 (by simp only [Iv]; omega)) hE83) hO86 (by simp only [Iv]; omega)) hE174) good_Idx) (RdS.up (RdS.ex good_Str (RdS.only good_Str (RdS.ex good_Str (RdS.only good_Str (RdS.ex good_Str (RdS.ex good_Str (RdS.ex good_Str (RdS.ex good_Str h5 hE17) hE23) hE68) hE74) hO77 (by simp only [Iv]; omega)) hE83) hO86 (by simp only [Iv]; omega)) hE174) good_Str) o3 o6.2 (by first | omega | assumption | (simp only [IntKind.wrap_i64] at *; omega))) ?_))
    rintro v181 w180 ⟨rfl, hE182⟩
    exact ⟨rfl, hE182⟩
   ·exact fun _ _ h => os rfl ((yl_field1 Try.fd125_1 rfl (h.dt 6 47 rfl rfl rfl) rfl kI))
   ·exact fun _ _ h => os rfl ((yl_build (cs := [.int .i64 (2), .string (bs ((s_l25Write p_t p_a.Old).Key)), .string (bs ((s_l25Write p_t p_a.New).Val)), .int .i64 (0)]) rfl (opvs_cons rfl (opvs_cons (h.dt 2 43 rfl rfl rfl) (opvs_cons (h.dt 7 48 rfl rfl rfl) opvs_nil))) (by kernel_rfl) kI))
   ·intro fl197 fh198 L194 w195 hp196
    have hE199 := hp196.ex
    have hE199z := Ex.size hE199
    refine sd rfl (yl_buildSlice (cs := [.int .i64 (7), .string (bs ((s_l25Write p_t p_a.Old).Key)), .string (bs ((s_l25Write p_t p_a.Old).Val)), .int .i64 (0), .int .i64 (2), .string (bs ((s_l25Write p_t p_a.Old).Key)), .string (bs ((s_l25Write p_t p_a.New).Val)), .int .i64 (0)]) Try.un60 Try.ty163 (by decide) rfl (opvs_cons (hp196.nt 0 41 rfl rfl rfl) (opvs_cons (hp196.nt 8 49 rfl rfl rfl) opvs_nil)) (by kernel_rfl) ?_)
    intro b202 w203 hs204 hz205 hB206 hE207
    have hO208 : OwnL w203 b202 (b202 + 1) 163 4 (RF e_Op) (some ⟨b202, 0, none⟩) 2 2 ([(⟨7, (s_l25Write p_t p_a.Old).Key, (s_l25Write p_t p_a.Old).Val, 0⟩ : DOp), (⟨2, (s_l25Write p_t p_a.Old).Key, (s_l25Write p_t p_a.New).Val, 0⟩ : DOp)] : List DOp) := OwnL.of_box (S := fun _ => False) hB206 (Nat.le_refl _) (Nat.lt_succ_self _) (EncL.cons (c := [.int .i64 (7), .string (bs ((s_l25Write p_t p_a.Old).Key)), .string (bs ((s_l25Write p_t p_a.Old).Val)), .int .i64 (0)]) rfl rfl (EncL.cons (c := [.int .i64 (2), .string (bs ((s_l25Write p_t p_a.Old).Key)), .string (bs ((s_l25Write p_t p_a.New).Val)), .int .i64 (0)]) rfl rfl EncL.nil)) (Nat.le_of_ble_eq_true rfl) (fun h => h) (fun _ h => False.elim h)
    refine sd rfl (yl_assign rfl rfl (SeqR.done (tn (CW.sub (Sub.cons (d := 4) rfl (Sub.nil _)) (CW.ret (rr rfl (.cons rfl .nil) ?_))))))
    have hM209 : (s_l26Head p_t p_a) = (([(⟨7, (s_l25Write p_t p_a.Old).Key, (s_l25Write p_t p_a.Old).Val, 0⟩ : DOp), (⟨2, (s_l25Write p_t p_a.Old).Key, (s_l25Write p_t p_a.New).Val, 0⟩ : DOp)] : List DOp)) := by simp only [s_l26Head, hb24, hb92, cond_true, cond_false, loopE_done, loopE_ret]
    have hfx210 := (hO208).1
    rw [hM209]
    exact ⟨(some ⟨b202, 0, none⟩), 2, b202, (b202 + 1), (by first | rfl | (simp only [List.length_replicate, List.length_set]; done) | (simp only [List.length_replicate, List.length_set]; rfl) | rw [hfx210]), (OwnL.fix hO208), (by omega), (Ex.trans (Ex.trans (Below.only (Ex.trans (Below.only (Ex.trans (Ex.trans (Ex.trans (Ex.trans (Ex.refl w) hE17) hE23) hE68) hE74) hO77 (by omega)) hE83) hO86 (by omega)) hE199) hE207)⟩
set_option maxRecDepth 100000 in
set_option maxHeartbeats 2000000 in
theorem c_s_l25Entry {A1 : Option Addr} {c1 : Nat} {A2 : Option Addr} {c2 : Nat} {A5 : Option Addr} {c5 : Nat} {w : World} (p_t : DTable) (p_x : DIdx) (p_r : DRow) (h1 : RdS w (Iv 0 w.heap.size) (RF e_Str) 1 A1 p_t.Cols.length c1 p_t.Cols) (h2 : RdS w (Iv 0 w.heap.size) (RF e_Idx) 3 A2 p_t.Idxs.length c2 p_t.Idxs) (h5 : RdS w (Iv 0 w.heap.size) (RF e_Str) 1 A5 p_r.Vals.length c5 p_r.Vals) (o3 : ok_Table p_t) (o4 : ok_Idx p_x) (o6 : ok_Row p_r) (pre0 : (0 ≤ p_x.Col ∧ p_x.Col < (p_r.Vals.length : Int))) (pre1 : (p_t.Name.length ≤ 1 ∧ p_x.Name.length ≤ 1)) (pre2 : rowShort p_r) : Cal Try.prog 164 #[.agg #[.string (bs (p_t.Name)), .slice A1 p_t.Cols.length c1, .slice A2 p_t.Idxs.length c2], .agg #[.string (bs (p_x.Name)), .int .i64 (p_x.Col), .int .i64 (p_x.Stage)], .agg #[.slice A5 p_r.Vals.length c5]] w fun v w' => v = .string (bs ((s_l25Entry p_t p_x p_r))) ∧ okS (s_l25Entry p_t p_x p_r) ∧ Ex w w' := by
 have hol7 : p_t.Name.length ≤ 1073741824 := o3.1
 have hol8 := o3.2.1.1
 have hol9 := o3.2.2.1
 have hol10 : p_x.Name.length ≤ 1073741824 := o4
 have hol11 := o6.1
 refine Cal.of (vs := [.agg #[.string (bs (p_t.Name)), .slice A1 p_t.Cols.length c1, .slice A2 p_t.Idxs.length c2], .agg #[.string (bs (p_x.Name)), .int .i64 (p_x.Col), .int .i64 (p_x.Stage)], .agg #[.slice A5 p_r.Vals.length c5]]) Try.func164 rfl Try.ntmps164 rfl (CW.seq (CW.region (sd rfl (yl_box (cs := [.string (bs (p_t.Name)), .slice A1 p_t.Cols.length c1, .slice A2 p_t.Idxs.length c2]) rfl rfl rfl ?_))))
 intro b12 w13 hs14 hz15 hB16 hE17
 refine sd rfl (yl_box (cs := [.string (bs (p_x.Name)), .int .i64 (p_x.Col), .int .i64 (p_x.Stage)]) rfl rfl rfl ?_)
 intro b18 w19 hs20 hz21 hB22 hE23
 refine sd rfl (yl_box (cs := [.slice A5 p_r.Vals.length c5]) rfl rfl rfl ?_)
 intro b24 w25 hs26 hz27 hB28 hE29
 refine sd rfl (yl_assign rfl rfl (SeqR.done (tn (CW.seq ?_))))
 have hol32 : p_t.Name.length ≤ 1073741824 := o3.1
 have q33 := Box.ex hB22 hE29
 have hol34 : p_t.Name.length ≤ 1073741824 := o3.1
 have hol35 : p_x.Name.length ≤ 1073741824 := o4
 have hol36 : p_t.Name.length ≤ 1073741824 := o3.1
 have hol37 : p_x.Name.length ≤ 1073741824 := o4
 have q40 := RdS.ex good_Str (RdS.ex good_Str (RdS.ex good_Str h5 hE17) hE23) hE29
 obtain ⟨eb41, eo41, ec41, eA41, eS41, ebl41, el41, eR41, eC41⟩ := RdS.atD q40 d_Str (i := (p_x.Col).toNat) (by first | omega | assumption | (simp only [IntKind.wrap_i64] at *; omega))
 obtain rfl := eR41
 have eC41 : Cells w25 eb41 (eo41 + ((p_x.Col).toNat) * 1) [.string (bs ((p_r.Vals.getD ((p_x.Col).toNat) d_Str)))] := eC41
 have hol42 : p_t.Name.length ≤ 1073741824 := o3.1
 have hol43 : p_x.Name.length ≤ 1073741824 := o4
 have hol44 : (p_r.Vals.getD ((p_x.Col).toNat) d_Str).length ≤ 1073741824 := (okL.getD o6 ok_d_Str _)
 have hol45 : p_t.Name.length ≤ 1073741824 := o3.1
 have hol46 : p_x.Name.length ≤ 1073741824 := o4
 have hol47 : (p_r.Vals.getD ((p_x.Col).toNat) d_Str).length ≤ 1073741824 := (okL.getD o6 ok_d_Str _)
 obtain ⟨eb48, eo48, ec48, eA48, eS48, ebl48, el48, eR48, eC48⟩ := RdS.atD q40 d_Str (i := 0) (by first | omega | assumption)
 obtain rfl := eR48
 have eC48 : Cells w25 eb48 (eo48 + 0 * 1) [.string (bs ((p_r.Vals.getD 0 d_Str)))] := eC48
 have hol49 : p_t.Name.length ≤ 1073741824 := o3.1
 have hol50 : p_x.Name.length ≤ 1073741824 := o4
 have hol51 : (p_r.Vals.getD ((p_x.Col).toNat) d_Str).length ≤ 1073741824 := (okL.getD o6 ok_d_Str _)
 have hol52 : (p_r.Vals.getD 0 d_Str).length ≤ 1073741824 := (okL.getD o6 ok_d_Str _)
 refine CW.drawsI 21 (vgetI [DetI (.pointer (some ⟨b12, 0 + 0, none⟩)), DetI (.string (bs (p_t.Name))), DetI (.string (bs (p_t.Name ++ ([46] : Str)))), DetI (.pointer (some ⟨b18, 0 + 0, none⟩)), DetI (.string (bs (p_x.Name))), DetI (.string (bs ((p_t.Name ++ ([46] : Str)) ++ p_x.Name))), DetI (.string (bs (((p_t.Name ++ ([46] : Str)) ++ p_x.Name) ++ ([47] : Str)))), DetI (.pointer (some ⟨b24, 0 + 0, none⟩)), DetI (.slice A5 p_r.Vals.length c5), DetI (.pointer (some ⟨b18, 0 + 1, none⟩)), DetI (.int .i64 (p_x.Col)), DetI (.pointer (some ⟨eb41, eo41 + ((p_x.Col).toNat) * 1, none⟩)), DetI (.string (bs ((p_r.Vals.getD ((p_x.Col).toNat) d_Str)))), DetI (.string (bs ((((p_t.Name ++ ([46] : Str)) ++ p_x.Name) ++ ([47] : Str)) ++ (p_r.Vals.getD ((p_x.Col).toNat) d_Str)))), DetI (.string (bs (((((p_t.Name ++ ([46] : Str)) ++ p_x.Name) ++ ([47] : Str)) ++ (p_r.Vals.getD ((p_x.Col).toNat) d_Str)) ++ ([47] : Str)))), DetI (.pointer (some ⟨b24, 0 + 0, none⟩)), DetI (.slice A5 p_r.Vals.length c5), DetI (.pointer (some ⟨eb48, eo48 + 0 * 1, none⟩)), DetI (.string (bs ((p_r.Vals.getD 0 d_Str)))), DetI (.string (bs ((((((p_t.Name ++ ([46] : Str)) ++ p_x.Name) ++ ([47] : Str)) ++ (p_r.Vals.getD ((p_x.Col).toNat) d_Str)) ++ ([47] : Str)) ++ (p_r.Vals.getD 0 d_Str)))), DetI (.string (bs ((((((p_t.Name ++ ([46] : Str)) ++ p_x.Name) ++ ([47] : Str)) ++ (p_r.Vals.getD ((p_x.Col).toNat) d_Str)) ++ ([47] : Str)) ++ (p_r.Vals.getD 0 d_Str))))]) Try.follows rfl rfl rfl rfl rfl rfl (vgetI_stable ⟨StableI.det _, StableI.det _, StableI.det _, StableI.det _, StableI.det _, StableI.det _, StableI.det _, StableI.det _, StableI.det _, StableI.det _, StableI.det _, StableI.det _, StableI.det _, StableI.det _, StableI.det _, StableI.det _, StableI.det _, StableI.det _, StableI.det _, StableI.det _, StableI.det _, trivial⟩) ⟨?_, ?_, ?_, ?_, ?_, ?_, ?_, ?_, ?_, ?_, ?_, ?_, ?_, ?_, ?_, ?_, ?_, ?_, ?_, ?_, ?_, trivial⟩ ?_
 ·exact fun _ _ h => os rfl ((yl_fieldAddr Try.fd65_0 rfl (h.old 3 _ rfl rfl) kI))
 ·exact fun _ _ h => os rfl ((yl_load1 Try.ty9 rfl (h.dt 0 7 rfl rfl rfl) (((Box.ex (Box.ex (Box.ex hB16 hE23) hE29) h.ex).cell 0).trans rfl) kI))
 ·intro L64 w65 hi66
  have hE67 := hi66.ex
  have hE67z := Ex.size hE67
  have hol69 : p_t.Name.length ≤ 1073741824 := o3.1
  exact os rfl ((yl_sadd (a := p_t.Name) (b := ([46] : Str)) rfl (hi66.dt 1 8 rfl rfl rfl) rfl (by first | omega | (simp only [List.length_append, List.length_cons, List.length_nil, List.length_take, List.length_drop, toS_length]; omega)) kI))
 ·exact fun _ _ h => os rfl ((yl_fieldAddr Try.fd152_0 rfl (h.old 4 _ rfl rfl) kI))
 ·exact fun _ _ h => os rfl ((yl_load1 Try.ty9 rfl (h.dt 3 10 rfl rfl rfl) (((Box.ex q33 h.ex).cell 0).trans rfl) kI))
 ·intro L81 w82 hi83
  have hE84 := hi83.ex
  have hE84z := Ex.size hE84
  have hol87 : p_t.Name.length ≤ 1073741824 := o3.1
  have hol88 : p_x.Name.length ≤ 1073741824 := o4
  exact os rfl ((yl_sadd (a := (p_t.Name ++ ([46] : Str))) (b := p_x.Name) rfl (hi83.dt 2 9 rfl rfl rfl) (hi83.dt 4 11 rfl rfl rfl) (by first | omega | (simp only [List.length_append, List.length_cons, List.length_nil, List.length_take, List.length_drop, toS_length]; omega)) kI))
 ·intro L89 w90 hi91
  have hE92 := hi91.ex
  have hE92z := Ex.size hE92
  have hol94 : p_t.Name.length ≤ 1073741824 := o3.1
  have hol95 : p_x.Name.length ≤ 1073741824 := o4
  exact os rfl ((yl_sadd (a := ((p_t.Name ++ ([46] : Str)) ++ p_x.Name)) (b := ([47] : Str)) rfl (hi91.dt 5 12 rfl rfl rfl) rfl (by first | omega | (simp only [List.length_append, List.length_cons, List.length_nil, List.length_take, List.length_drop, toS_length]; omega)) kI))
 ·exact fun _ _ h => os rfl ((yl_fieldAddr Try.fd67_0 rfl (h.old 5 _ rfl rfl) kI))
 ·exact fun _ _ h => os rfl ((yl_load1 Try.ty52 rfl (h.dt 7 14 rfl rfl rfl) (((Box.ex hB28 h.ex).cell 0).trans rfl) kI))
 ·exact fun _ _ h => os rfl ((yl_fieldAddr Try.fd152_1 rfl (h.old 4 _ rfl rfl) kI))
 ·exact fun _ _ h => os rfl ((yl_load1 Try.ty3 rfl (h.dt 9 16 rfl rfl rfl) (((Box.ex q33 h.ex).cell 1).trans rfl) kI))
 ·intro L118 w119 hi120
  have hE121 := hi120.ex
  have hE121z := Ex.size hE121
  exact os rfl ((yl_indexAddr Try.un52 Try.ty9 rfl (hi120.dt 8 15 rfl rfl rfl) (hi120.dt 10 17 rfl rfl rfl) eA41 (by first | omega | assumption | (simp only [IntKind.wrap_i64] at *; omega)) (by first | omega | assumption | (simp only [IntKind.wrap_i64] at *; omega)) kI))
 ·exact fun _ _ h => os rfl ((yl_load1 Try.ty9 rfl (h.dt 11 18 rfl rfl rfl) ((Cells.ex eC41 h.ex) 0 _ rfl) kI))
 ·intro L130 w131 hi132
  have hE133 := hi132.ex
  have hE133z := Ex.size hE133
  have hol136 : p_t.Name.length ≤ 1073741824 := o3.1
  have hol137 : p_x.Name.length ≤ 1073741824 := o4
  have hol138 : (p_r.Vals.getD ((p_x.Col).toNat) d_Str).length ≤ 1073741824 := (okL.getD o6 ok_d_Str _)
  exact os rfl ((yl_sadd (a := (((p_t.Name ++ ([46] : Str)) ++ p_x.Name) ++ ([47] : Str))) (b := (p_r.Vals.getD ((p_x.Col).toNat) d_Str)) rfl (hi132.dt 6 13 rfl rfl rfl) (hi132.dt 12 19 rfl rfl rfl) (by first | omega | (simp only [List.length_append, List.length_cons, List.length_nil, List.length_take, List.length_drop, toS_length]; omega)) kI))
 ·intro L139 w140 hi141
  have hE142 := hi141.ex
  have hE142z := Ex.size hE142
  have hol144 : p_t.Name.length ≤ 1073741824 := o3.1
  have hol145 : p_x.Name.length ≤ 1073741824 := o4
  have hol146 : (p_r.Vals.getD ((p_x.Col).toNat) d_Str).length ≤ 1073741824 := (okL.getD o6 ok_d_Str _)
  exact os rfl ((yl_sadd (a := ((((p_t.Name ++ ([46] : Str)) ++ p_x.Name) ++ ([47] : Str)) ++ (p_r.Vals.getD ((p_x.Col).toNat) d_Str))) (b := ([47] : Str)) rfl (hi141.dt 13 20 rfl rfl rfl) rfl (by first | omega | (simp only [List.length_append, List.length_cons, List.length_nil, List.length_take, List.length_drop, toS_length]; omega)) kI))
 ·exact fun _ _ h => os rfl ((yl_fieldAddr Try.fd67_0 rfl (h.old 5 _ rfl rfl) kI))
 ·exact fun _ _ h => os rfl ((yl_load1 Try.ty52 rfl (h.dt 15 22 rfl rfl rfl) (((Box.ex hB28 h.ex).cell 0).trans rfl) kI))
 ·intro L158 w159 hi160
  have hE161 := hi160.ex
  have hE161z := Ex.size hE161
  exact os rfl ((yl_indexAddrN Try.un52 Try.ty9 rfl (hi160.dt 16 23 rfl rfl rfl) rfl eA48 (by first | omega | assumption | (simp only [IntKind.wrap_i64] at *; omega)) kI))
 ·exact fun _ _ h => os rfl ((yl_load1 Try.ty9 rfl (h.dt 17 24 rfl rfl rfl) ((Cells.ex eC48 h.ex) 0 _ rfl) kI))
 ·intro L169 w170 hi171
  have hE172 := hi171.ex
  have hE172z := Ex.size hE172
  have hol175 : p_t.Name.length ≤ 1073741824 := o3.1
  have hol176 : p_x.Name.length ≤ 1073741824 := o4
  have hol177 : (p_r.Vals.getD ((p_x.Col).toNat) d_Str).length ≤ 1073741824 := (okL.getD o6 ok_d_Str _)
  have hol178 : (p_r.Vals.getD 0 d_Str).length ≤ 1073741824 := (okL.getD o6 ok_d_Str _)
  exact os rfl ((yl_sadd (a := (((((p_t.Name ++ ([46] : Str)) ++ p_x.Name) ++ ([47] : Str)) ++ (p_r.Vals.getD ((p_x.Col).toNat) d_Str)) ++ ([47] : Str))) (b := (p_r.Vals.getD 0 d_Str)) rfl (hi171.dt 14 21 rfl rfl rfl) (hi171.dt 18 25 rfl rfl rfl) (by first | omega | (simp only [List.length_append, List.length_cons, List.length_nil, List.length_take, List.length_drop, toS_length]; omega)) kI))
 ·exact fun _ _ h => os rfl ((yl_assign rfl (h.dt 19 26 rfl rfl rfl) kI))
 ·intro fl187 fh188 L184 w185 hp186
  have hE189 := hp186.ex
  have hE189z := Ex.size hE189
  refine SeqR.done (tn (CW.sub (Sub.cons (d := 6) (hp186.nt 20 6 rfl rfl rfl) (Sub.nil _)) (CW.ret (rr rfl (.cons rfl .nil) ?_))))
  have hM191 : (s_l25Entry p_t p_x p_r) = ((((((p_t.Name ++ ([46] : Str)) ++ p_x.Name) ++ ([47] : Str)) ++ (p_r.Vals.getD ((p_x.Col).toNat) d_Str)) ++ ([47] : Str)) ++ (p_r.Vals.getD 0 d_Str)) := by simp only [s_l25Entry, cond_true, cond_false, loopE_done, loopE_ret]
  rw [hM191]
  exact ⟨rfl, (okS_l25Entry pre1 pre2), (Ex.trans (Ex.trans (Ex.trans (Ex.trans (Ex.refl w) hE17) hE23) hE29) hE189)⟩
end Go.Proofs.Ytjeafbkejeallaa
