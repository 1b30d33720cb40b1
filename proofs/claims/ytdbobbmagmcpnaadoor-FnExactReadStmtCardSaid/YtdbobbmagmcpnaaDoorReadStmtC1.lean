/- Read Stmt: what each call returns, part 1. -/
import Derived.Test.YtdbobbmagmcpnaaDoorReadStmtL
import Derived.Test.YtdbobbmagmcpnaaDoorReadStmtF
import Derived.Test.YtdbobbmagmcpnaaDoorReadStmtQ
import Derived.Test.YtdbobbmagmcpnaaDoorReadStmtS
set_option linter.unusedVariables false
set_option linter.unusedSimpArgs false
namespace Go.Proofs.YtdbobbmagmcpnaaDoor
open Go.RowKit Go.X
set_option maxRecDepth 100000 in
set_option maxHeartbeats 2000000 in
theorem c_l_szStringS {A1 : Option Addr} {c1 : Nat} {w : World} (p_a : List Str) (p_left : Int) (h1 : RdS w (Iv 0 w.heap.size) (RF e_Str) 1 A1 p_a.length c1 p_a) : Cal Tryd.prog 21 #[.slice A1 p_a.length c1, .int .i64 (p_left)] w fun v w' => v = .int .i64 ((l_szStringS p_a p_left)) ∧ Ex w w' := by
 refine Cal.of (vs := [.slice A1 p_a.length c1, .int .i64 (p_left)]) Tryd.func21 rfl Tryd.ntmps21 rfl (CW.seq (CW.region (sd rfl (yl_assign rfl rfl (SeqR.done (tn (CW.seq (CW.region (sd rfl (yl_move rfl rfl ?_))))))))))
 refine sd rfl (yl_move rfl rfl (sd rfl (yl_len Tryd.un22 rfl rfl (sd rfl (yl_sub rfl rfl rfl (sd rfl (yl_assign rfl rfl (SeqR.done (tn (CW.seq (CW.seq (CW.region ?_))))))))))))
 refine sd rfl (yl_move rfl rfl (sd rfl (yl_lss rfl rfl rfl (SeqR.done (tn (bcase (decide ((IntKind.wrap .i64 (p_left - (p_a.length : Int))) < 0)) (fun hb2 => ?_) (fun hb2 => ?_)))))))
 ·have hb2p := dec_t hb2
  refine CW.cond_t rfl hb2 (CW.seq (CW.region (sd rfl (yl_assign rfl rfl (SeqR.done (tn (CW.ret (tr (rr rfl (.cons rfl .nil) ?_)))))))))
  have hM3 : (l_szStringS p_a p_left) = (-1) := by simp only [l_szStringS, hb2, cond_true, cond_false, loopE_done, loopE_ret]
  rw [hM3]
  exact ⟨rfl, (Ex.refl w)⟩
 ·have hb2p := dec_f hb2
  refine CW.cond_f rfl hb2 (CW.skip (tn (CW.seq (CW.seq (CW.region (sd rfl (yl_assign rfl rfl (SeqR.done (tn ?_)))))))))
  refine CW.block (CW.loop (fun m6 L7 w8 => ∃ (k4 : Nat) (x5 : Int), m6 = p_a.length - k4 ∧ k4 ≤ p_a.length ∧ w.heap.size ≤ w8.heap.size ∧ lkp L7 0 = some (.slice A1 p_a.length c1) ∧ lkp L7 1 = some (.int .i64 (x5)) ∧ lkp L7 5 = some (.int .i64 ((k4 : Int))) ∧ RdS w8 (Iv 0 w.heap.size) (RF e_Str) 1 A1 p_a.length c1 p_a ∧ Ex w w8 ∧ loopM (B_l_szStringS_0 p_a p_left) (p_a.length - k4) k4 (x5) = loopM (B_l_szStringS_0 p_a p_left) (p_a.length - 0) 0 (IntKind.wrap .i64 (p_left - (p_a.length : Int)))) (p_a.length - 0) ?_ ?_)
  ·exact ⟨0, IntKind.wrap .i64 (p_left - (p_a.length : Int)), rfl, (by omega), Nat.le_refl _, rfl, rfl, rfl, h1, (Ex.refl w), rfl⟩
  ·rintro m9 L10 w11 ⟨k4, x5, rfl, hk12, hsz14, hl15, hl16, hl17, hf18, hf19, hI13⟩
   refine CW.sub (Sub.cons hl15 (Sub.cons hl16 (Sub.cons hl17 (Sub.nil _)))) ?_
   have hf19z := Ex.size hf19
   have hbg20 := RdS.big hf18
   rcases Nat.lt_or_ge k4 p_a.length with hlt21 | hlt21
   ·refine CW.seq (CW.seq (CW.region (sd rfl (yl_move rfl rfl (sd rfl (yl_move rfl rfl (sd rfl (yl_len Tryd.un22 rfl rfl (sd rfl (yl_lss rfl rfl rfl (SeqR.done (tn ?_))))))))))))
    refine CW.cond_t rfl (lt_t hlt21) (CW.skip (tn (CW.seq (CW.block (CW.seq (CW.region (sd rfl (yl_move rfl rfl (sd rfl (yl_move rfl rfl ?_))))))))))
    refine sd rfl (yl_move rfl rfl ?_)
    obtain ⟨eb22, eo22, ec22, eA22, eS22, ebl22, el22, eR22, eC22⟩ := RdS.atD hf18 d_Str (i := k4) (by first | omega | assumption)
    obtain rfl := eR22
    have eC22 : Cells w11 eb22 (eo22 + k4 * 1) [.string (bs ((p_a.getD k4 d_Str)))] := eC22
    refine sd rfl (yl_indexAddrN Tryd.un22 Tryd.ty9 rfl rfl rfl eA22 (by first | omega | assumption | (simp only [IntKind.wrap_i64] at *; omega)) (sd rfl (yl_load1 Tryd.ty9 rfl rfl (eC22 0 _ rfl) (sd rfl (yl_slen Tryd.un9 (a := (p_a.getD k4 d_Str)) rfl rfl (sd rfl (yl_sub rfl rfl rfl (sd rfl (yl_assign rfl rfl (SeqR.done (tn (CW.seq (CW.region ?_)))))))))))))
    refine sd rfl (yl_move rfl rfl (sd rfl (yl_lss rfl rfl rfl (SeqR.done (tn (bcase (decide ((IntKind.wrap .i64 (x5 - ((p_a.getD k4 d_Str).length : Int))) < 0)) (fun hb23 => ?_) (fun hb23 => ?_)))))))
    ·have hb23p := dec_t hb23
     refine CW.cond_t rfl hb23 (CW.seq (CW.region (sd rfl (yl_assign rfl rfl (SeqR.done (tn (CW.ret (br (tr ?_)))))))))
     refine tr ?_
     have hB25 : B_l_szStringS_0 p_a p_left k4 (x5) = .ret (-1) := by simp only [B_l_szStringS_0, hb2, hb23, cond_true, cond_false, loopE_done, loopE_ret]
     have hL24 : loopM (B_l_szStringS_0 p_a p_left) (p_a.length - 0) 0 (IntKind.wrap .i64 (p_left - (p_a.length : Int))) = .ret (-1) := hI13.symm.trans (loopM.ret hlt21 hB25)
     refine br (tr (rr rfl (.cons rfl .nil) ?_))
     have hM26 : (l_szStringS p_a p_left) = (-1) := by simp only [l_szStringS, hb2, hb23, hL24, cond_true, cond_false, loopE_done, loopE_ret]
     rw [hM26]
     exact ⟨rfl, hf19⟩
    ·have hb23p := dec_f hb23
     refine CW.cond_f rfl hb23 (CW.skip (bn (tn (CW.region (sd rfl (yl_move rfl rfl (sd rfl (yl_inc rfl rfl rfl (by omega) (sd rfl (yl_assign rfl rfl (SeqR.done ?_)))))))))))
     refine tn ?_
     have hB27 : B_l_szStringS_0 p_a p_left k4 (x5) = .cont (IntKind.wrap .i64 (x5 - ((p_a.getD k4 d_Str).length : Int))) := by simp only [B_l_szStringS_0, hb2, hb23, cond_true, cond_false, loopE_done, loopE_ret]
     exact ⟨p_a.length - (k4 + 1), by omega, k4 + 1, IntKind.wrap .i64 (x5 - ((p_a.getD k4 d_Str).length : Int)), rfl, hlt21, (by omega), rfl, rfl, rfl, hf18, hf19, (loopM.cont hlt21 hB27).symm.trans hI13⟩
   ·refine CW.seq (CW.seq (CW.region (sd rfl (yl_move rfl rfl (sd rfl (yl_move rfl rfl (sd rfl (yl_len Tryd.un22 rfl rfl (sd rfl (yl_lss rfl rfl rfl (SeqR.done (tn ?_))))))))))))
    refine CW.cond_f rfl (lt_f hlt21) (CW.exit (tx (tx ?_)))
    have hL28 : loopM (B_l_szStringS_0 p_a p_left) (p_a.length - 0) 0 (IntKind.wrap .i64 (p_left - (p_a.length : Int))) = .done (x5) := hI13.symm.trans (loopM.stop hlt21)
    refine bx (tn (CW.seq (CW.region (sd rfl (yl_move rfl rfl (sd rfl (yl_assign rfl rfl (SeqR.done (tn (CW.ret ?_))))))))))
    refine rr rfl (.cons rfl .nil) ?_
    have hM29 : (l_szStringS p_a p_left) = (x5) := by simp only [l_szStringS, hb2, hL28, cond_true, cond_false, loopE_done, loopE_ret]
    rw [hM29]
    exact ⟨rfl, hf19⟩
set_option maxRecDepth 100000 in
set_option maxHeartbeats 2000000 in
theorem c_l_szIdx {w : World} (p_a : DIdx) (p_left : Int) : Cal Tryd.prog 39 #[.agg #[.string (bs (p_a.Name)), .int .i64 (p_a.Col), .int .i64 (p_a.Stage)], .int .i64 (p_left)] w fun v w' => v = .int .i64 ((l_szIdx p_a p_left)) ∧ Ex w w' := by
 refine Cal.of (vs := [.agg #[.string (bs (p_a.Name)), .int .i64 (p_a.Col), .int .i64 (p_a.Stage)], .int .i64 (p_left)]) Tryd.func39 rfl Tryd.ntmps39 rfl (CW.seq (CW.region (sd rfl (yl_box (cs := [.string (bs (p_a.Name)), .int .i64 (p_a.Col), .int .i64 (p_a.Stage)]) rfl rfl rfl ?_))))
 intro b1 w2 hs3 hz4 hB5 hE6
 refine sd rfl (yl_assign rfl rfl (SeqR.done (tn (CW.seq (CW.region (sd rfl (yl_move rfl rfl (sd rfl (yl_fieldAddr Tryd.fd68_0 rfl rfl (sd rfl (yl_load1 Tryd.ty9 rfl rfl ((hB5.cell 0).trans rfl) (sd rfl (yl_slen Tryd.un9 (a := p_a.Name) rfl rfl ?_)))))))))))))
 refine sd rfl (yl_sub rfl rfl rfl (sd rfl (yl_assign rfl rfl (SeqR.done (tn (CW.seq (CW.seq (CW.region (sd rfl (yl_move rfl rfl (sd rfl (yl_lss rfl rfl rfl ?_))))))))))))
 refine SeqR.done (tn (bcase (decide ((IntKind.wrap .i64 (p_left - (p_a.Name.length : Int))) < 0)) (fun hb7 => ?_) (fun hb7 => ?_)))
 ·have hb7p := dec_t hb7
  refine CW.cond_t rfl hb7 (CW.seq (CW.region (sd rfl (yl_assign rfl rfl (SeqR.done (tn (CW.ret (tr (rr rfl (.cons rfl .nil) ?_)))))))))
  have hM8 : (l_szIdx p_a p_left) = (-1) := by simp only [l_szIdx, hb7, cond_true, cond_false, loopE_done, loopE_ret]
  rw [hM8]
  exact ⟨rfl, (Ex.trans (Ex.refl w) hE6)⟩
 ·have hb7p := dec_f hb7
  refine CW.cond_f rfl hb7 (CW.skip (tn (CW.seq (CW.region (sd rfl (yl_move rfl rfl (sd rfl (yl_assign rfl rfl (SeqR.done (tn ?_))))))))))
  refine CW.ret (rr rfl (.cons rfl .nil) ?_)
  have hM10 : (l_szIdx p_a p_left) = (IntKind.wrap .i64 (p_left - (p_a.Name.length : Int))) := by simp only [l_szIdx, hb7, cond_true, cond_false, loopE_done, loopE_ret]
  rw [hM10]
  exact ⟨rfl, (Ex.trans (Ex.refl w) hE6)⟩
set_option maxRecDepth 100000 in
set_option maxHeartbeats 2000000 in
theorem c_l_szIdxS {A1 : Option Addr} {c1 : Nat} {w : World} (p_a : List DIdx) (p_left : Int) (h1 : RdS w (Iv 0 w.heap.size) (RF e_Idx) 3 A1 p_a.length c1 p_a) : Cal Tryd.prog 22 #[.slice A1 p_a.length c1, .int .i64 (p_left)] w fun v w' => v = .int .i64 ((l_szIdxS p_a p_left)) ∧ Ex w w' := by
 refine Cal.of (vs := [.slice A1 p_a.length c1, .int .i64 (p_left)]) Tryd.func22 rfl Tryd.ntmps22 rfl (CW.seq (CW.region (sd rfl (yl_assign rfl rfl (SeqR.done (tn (CW.seq (CW.region (sd rfl (yl_move rfl rfl ?_))))))))))
 refine sd rfl (yl_move rfl rfl (sd rfl (yl_len Tryd.un23 rfl rfl (sd rfl (yl_sub rfl rfl rfl (sd rfl (yl_assign rfl rfl (SeqR.done (tn (CW.seq (CW.seq (CW.region ?_))))))))))))
 refine sd rfl (yl_move rfl rfl (sd rfl (yl_lss rfl rfl rfl (SeqR.done (tn (bcase (decide ((IntKind.wrap .i64 (p_left - (p_a.length : Int))) < 0)) (fun hb2 => ?_) (fun hb2 => ?_)))))))
 ·have hb2p := dec_t hb2
  refine CW.cond_t rfl hb2 (CW.seq (CW.region (sd rfl (yl_assign rfl rfl (SeqR.done (tn (CW.ret (tr (rr rfl (.cons rfl .nil) ?_)))))))))
  have hM3 : (l_szIdxS p_a p_left) = (-1) := by simp only [l_szIdxS, hb2, cond_true, cond_false, loopE_done, loopE_ret]
  rw [hM3]
  exact ⟨rfl, (Ex.refl w)⟩
 ·have hb2p := dec_f hb2
  refine CW.cond_f rfl hb2 (CW.skip (tn (CW.seq (CW.seq (CW.region (sd rfl (yl_assign rfl rfl (SeqR.done (tn ?_)))))))))
  refine CW.block (CW.loop (fun m6 L7 w8 => ∃ (k4 : Nat) (x5 : Int), m6 = p_a.length - k4 ∧ k4 ≤ p_a.length ∧ w.heap.size ≤ w8.heap.size ∧ lkp L7 0 = some (.slice A1 p_a.length c1) ∧ lkp L7 1 = some (.int .i64 (x5)) ∧ lkp L7 5 = some (.int .i64 ((k4 : Int))) ∧ RdS w8 (Iv 0 w.heap.size) (RF e_Idx) 3 A1 p_a.length c1 p_a ∧ Ex w w8 ∧ loopM (B_l_szIdxS_0 p_a p_left) (p_a.length - k4) k4 (x5) = loopM (B_l_szIdxS_0 p_a p_left) (p_a.length - 0) 0 (IntKind.wrap .i64 (p_left - (p_a.length : Int)))) (p_a.length - 0) ?_ ?_)
  ·exact ⟨0, IntKind.wrap .i64 (p_left - (p_a.length : Int)), rfl, (by omega), Nat.le_refl _, rfl, rfl, rfl, h1, (Ex.refl w), rfl⟩
  ·rintro m9 L10 w11 ⟨k4, x5, rfl, hk12, hsz14, hl15, hl16, hl17, hf18, hf19, hI13⟩
   refine CW.sub (Sub.cons hl15 (Sub.cons hl16 (Sub.cons hl17 (Sub.nil _)))) ?_
   have hf19z := Ex.size hf19
   have hbg20 := RdS.big hf18
   rcases Nat.lt_or_ge k4 p_a.length with hlt21 | hlt21
   ·refine CW.seq (CW.seq (CW.region (sd rfl (yl_move rfl rfl (sd rfl (yl_move rfl rfl (sd rfl (yl_len Tryd.un23 rfl rfl (sd rfl (yl_lss rfl rfl rfl (SeqR.done (tn ?_))))))))))))
    refine CW.cond_t rfl (lt_t hlt21) (CW.skip (tn (CW.seq (CW.block (CW.seq (CW.region (sd rfl (yl_move rfl rfl (sd rfl (yl_move rfl rfl ?_))))))))))
    obtain ⟨eb22, eo22, ec22, eA22, eS22, ebl22, el22, eR22, eC22⟩ := RdS.atD hf18 d_Idx (i := k4) (by first | omega | assumption)
    obtain rfl := eR22
    have eC22 : Cells w11 eb22 (eo22 + k4 * 3) [.string (bs ((p_a.getD k4 d_Idx).Name)), .int .i64 ((p_a.getD k4 d_Idx).Col), .int .i64 ((p_a.getD k4 d_Idx).Stage)] := eC22
    refine sd rfl (yl_indexAddrN Tryd.un23 Tryd.ty68 rfl rfl rfl eA22 (by first | omega | assumption | (simp only [IntKind.wrap_i64] at *; omega)) (sd rfl (yl_loadN (cs := [.string (bs ((p_a.getD k4 d_Idx).Name)), .int .i64 ((p_a.getD k4 d_Idx).Col), .int .i64 ((p_a.getD k4 d_Idx).Stage)]) Tryd.ty68 rfl rfl eC22 rfl (sd rfl (yl_move rfl rfl (sd rfl (yl_call Tryd.en39 rfl (opvs_cons rfl (opvs_cons rfl opvs_nil)) (Cal.mono (c_l_szIdx (p_a.getD k4 d_Idx) x5) ?_))))))))
    rintro v24 w23 ⟨rfl, hE25⟩
    have hE25z := Ex.size hE25
    refine sd rfl (yl_assign rfl rfl (SeqR.done (tn (CW.seq (CW.region (sd rfl (yl_move rfl rfl (sd rfl (yl_lss rfl rfl rfl (SeqR.done (tn ?_)))))))))))
    refine bcase (decide ((l_szIdx (p_a.getD k4 d_Idx) x5) < 0)) (fun hb26 => ?_) (fun hb26 => ?_)
    ·have hb26p := dec_t hb26
     refine CW.cond_t rfl hb26 (CW.seq (CW.region (sd rfl (yl_assign rfl rfl (SeqR.done (tn (CW.ret (br (tr ?_)))))))))
     refine tr ?_
     have hB28 : B_l_szIdxS_0 p_a p_left k4 (x5) = .ret (-1) := by simp only [B_l_szIdxS_0, hb2, hb26, cond_true, cond_false, loopE_done, loopE_ret]
     have hL27 : loopM (B_l_szIdxS_0 p_a p_left) (p_a.length - 0) 0 (IntKind.wrap .i64 (p_left - (p_a.length : Int))) = .ret (-1) := hI13.symm.trans (loopM.ret hlt21 hB28)
     refine br (tr (rr rfl (.cons rfl .nil) ?_))
     have hM29 : (l_szIdxS p_a p_left) = (-1) := by simp only [l_szIdxS, hb2, hb26, hL27, cond_true, cond_false, loopE_done, loopE_ret]
     rw [hM29]
     exact ⟨rfl, (Ex.trans hf19 hE25)⟩
    ·have hb26p := dec_f hb26
     refine CW.cond_f rfl hb26 (CW.skip (bn (tn (CW.region (sd rfl (yl_move rfl rfl (sd rfl (yl_inc rfl rfl rfl (by omega) (sd rfl (yl_assign rfl rfl (SeqR.done ?_)))))))))))
     refine tn ?_
     have hB31 : B_l_szIdxS_0 p_a p_left k4 (x5) = .cont ((l_szIdx (p_a.getD k4 d_Idx) x5)) := by simp only [B_l_szIdxS_0, hb2, hb26, cond_true, cond_false, loopE_done, loopE_ret]
     exact ⟨p_a.length - (k4 + 1), by omega, k4 + 1, (l_szIdx (p_a.getD k4 d_Idx) x5), rfl, hlt21, (by omega), rfl, rfl, rfl, (RdS.ex good_Idx hf18 hE25), (Ex.trans hf19 hE25), (loopM.cont hlt21 hB31).symm.trans hI13⟩
   ·refine CW.seq (CW.seq (CW.region (sd rfl (yl_move rfl rfl (sd rfl (yl_move rfl rfl (sd rfl (yl_len Tryd.un23 rfl rfl (sd rfl (yl_lss rfl rfl rfl (SeqR.done (tn ?_))))))))))))
    refine CW.cond_f rfl (lt_f hlt21) (CW.exit (tx (tx ?_)))
    have hL34 : loopM (B_l_szIdxS_0 p_a p_left) (p_a.length - 0) 0 (IntKind.wrap .i64 (p_left - (p_a.length : Int))) = .done (x5) := hI13.symm.trans (loopM.stop hlt21)
    refine bx (tn (CW.seq (CW.region (sd rfl (yl_move rfl rfl (sd rfl (yl_assign rfl rfl (SeqR.done (tn (CW.ret ?_))))))))))
    refine rr rfl (.cons rfl .nil) ?_
    have hM35 : (l_szIdxS p_a p_left) = (x5) := by simp only [l_szIdxS, hb2, hL34, cond_true, cond_false, loopE_done, loopE_ret]
    rw [hM35]
    exact ⟨rfl, hf19⟩
set_option maxRecDepth 100000 in
set_option maxHeartbeats 2000000 in
theorem c_l_szTable {A1 : Option Addr} {c1 : Nat} {A2 : Option Addr} {c2 : Nat} {w : World} (p_a : DTable) (p_left : Int) (h1 : RdS w (Iv 0 w.heap.size) (RF e_Str) 1 A1 p_a.Cols.length c1 p_a.Cols) (h2 : RdS w (Iv 0 w.heap.size) (RF e_Idx) 3 A2 p_a.Idxs.length c2 p_a.Idxs) : Cal Tryd.prog 5 #[.agg #[.string (bs (p_a.Name)), .slice A1 p_a.Cols.length c1, .slice A2 p_a.Idxs.length c2], .int .i64 (p_left)] w fun v w' => v = .int .i64 ((l_szTable p_a p_left)) ∧ Ex w w' := by
 refine Cal.of (vs := [.agg #[.string (bs (p_a.Name)), .slice A1 p_a.Cols.length c1, .slice A2 p_a.Idxs.length c2], .int .i64 (p_left)]) Tryd.func5 rfl Tryd.ntmps5 rfl (CW.seq (CW.region (sd rfl (yl_box (cs := [.string (bs (p_a.Name)), .slice A1 p_a.Cols.length c1, .slice A2 p_a.Idxs.length c2]) rfl rfl rfl ?_))))
 intro b3 w4 hs5 hz6 hB7 hE8
 refine sd rfl (yl_assign rfl rfl (SeqR.done (tn (CW.seq (CW.region (sd rfl (yl_move rfl rfl (sd rfl (yl_fieldAddr Tryd.fd25_0 rfl rfl (sd rfl (yl_load1 Tryd.ty9 rfl rfl ((hB7.cell 0).trans rfl) (sd rfl (yl_slen Tryd.un9 (a := p_a.Name) rfl rfl ?_)))))))))))))
 refine sd rfl (yl_sub rfl rfl rfl (sd rfl (yl_assign rfl rfl (SeqR.done (tn (CW.seq (CW.seq (CW.region (sd rfl (yl_move rfl rfl (sd rfl (yl_lss rfl rfl rfl ?_))))))))))))
 refine SeqR.done (tn (bcase (decide ((IntKind.wrap .i64 (p_left - (p_a.Name.length : Int))) < 0)) (fun hb9 => ?_) (fun hb9 => ?_)))
 ·have hb9p := dec_t hb9
  refine CW.cond_t rfl hb9 (CW.seq (CW.region (sd rfl (yl_assign rfl rfl (SeqR.done (tn (CW.ret (tr (rr rfl (.cons rfl .nil) ?_)))))))))
  have hM10 : (l_szTable p_a p_left) = (-1) := by simp only [l_szTable, hb9, cond_true, cond_false, loopE_done, loopE_ret]
  rw [hM10]
  exact ⟨rfl, (Ex.trans (Ex.refl w) hE8)⟩
 ·have hb9p := dec_f hb9
  refine CW.cond_f rfl hb9 (CW.skip (tn (CW.seq (CW.region (sd rfl (yl_fieldAddr Tryd.fd25_1 rfl rfl (sd rfl (yl_load1 Tryd.ty22 rfl rfl ((hB7.cell 1).trans rfl) (sd rfl (yl_move rfl rfl (sd rfl (yl_call Tryd.en21 rfl (opvs_cons rfl (opvs_cons rfl opvs_nil)) (Cal.mono (c_l_szStringS p_a.Cols (IntKind.wrap .i64 (p_left - (p_a.Name.length : Int))) (RdS.up (RdS.ex good_Str h1 hE8) good_Str)) ?_)))))))))))))
  rintro v14 w13 ⟨rfl, hE15⟩
  have hE15z := Ex.size hE15
  refine sd rfl (yl_assign rfl rfl (SeqR.done (tn (CW.seq (CW.seq (CW.region (sd rfl (yl_move rfl rfl (sd rfl (yl_lss rfl rfl rfl (SeqR.done ?_)))))))))))
  refine tn (bcase (decide ((l_szStringS p_a.Cols (IntKind.wrap .i64 (p_left - (p_a.Name.length : Int)))) < 0)) (fun hb16 => ?_) (fun hb16 => ?_))
  ·have hb16p := dec_t hb16
   refine CW.cond_t rfl hb16 (CW.seq (CW.region (sd rfl (yl_assign rfl rfl (SeqR.done (tn (CW.ret (tr (rr rfl (.cons rfl .nil) ?_)))))))))
   have hM17 : (l_szTable p_a p_left) = (-1) := by simp only [l_szTable, hb9, hb16, cond_true, cond_false, loopE_done, loopE_ret]
   rw [hM17]
   exact ⟨rfl, (Ex.trans (Ex.trans (Ex.refl w) hE8) hE15)⟩
  ·have hb16p := dec_f hb16
   refine CW.cond_f rfl hb16 (CW.skip (tn (CW.seq (CW.region (sd rfl (yl_fieldAddr Tryd.fd25_2 rfl rfl (sd rfl (yl_load1 Tryd.ty23 rfl rfl (((Box.ex hB7 hE15).cell 2).trans rfl) (sd rfl (yl_move rfl rfl (sd rfl (yl_call Tryd.en22 rfl (opvs_cons rfl (opvs_cons rfl opvs_nil)) (Cal.mono (c_l_szIdxS p_a.Idxs (l_szStringS p_a.Cols (IntKind.wrap .i64 (p_left - (p_a.Name.length : Int)))) (RdS.up (RdS.ex good_Idx (RdS.ex good_Idx h2 hE8) hE15) good_Idx)) ?_)))))))))))))
   rintro v24 w23 ⟨rfl, hE25⟩
   have hE25z := Ex.size hE25
   refine sd rfl (yl_assign rfl rfl (SeqR.done (tn (CW.seq (CW.seq (CW.region (sd rfl (yl_move rfl rfl (sd rfl (yl_lss rfl rfl rfl (SeqR.done ?_)))))))))))
   refine tn (bcase (decide ((l_szIdxS p_a.Idxs (l_szStringS p_a.Cols (IntKind.wrap .i64 (p_left - (p_a.Name.length : Int))))) < 0)) (fun hb26 => ?_) (fun hb26 => ?_))
   ·have hb26p := dec_t hb26
    refine CW.cond_t rfl hb26 (CW.seq (CW.region (sd rfl (yl_assign rfl rfl (SeqR.done (tn (CW.ret (tr (rr rfl (.cons rfl .nil) ?_)))))))))
    have hM27 : (l_szTable p_a p_left) = (-1) := by simp only [l_szTable, hb9, hb16, hb26, cond_true, cond_false, loopE_done, loopE_ret]
    rw [hM27]
    exact ⟨rfl, (Ex.trans (Ex.trans (Ex.trans (Ex.refl w) hE8) hE15) hE25)⟩
   ·have hb26p := dec_f hb26
    refine CW.cond_f rfl hb26 (CW.skip (tn (CW.seq (CW.region (sd rfl (yl_move rfl rfl (sd rfl (yl_assign rfl rfl (SeqR.done (tn ?_))))))))))
    refine CW.ret (rr rfl (.cons rfl .nil) ?_)
    have hM31 : (l_szTable p_a p_left) = ((l_szIdxS p_a.Idxs (l_szStringS p_a.Cols (IntKind.wrap .i64 (p_left - (p_a.Name.length : Int)))))) := by simp only [l_szTable, hb9, hb16, hb26, cond_true, cond_false, loopE_done, loopE_ret]
    rw [hM31]
    exact ⟨rfl, (Ex.trans (Ex.trans (Ex.trans (Ex.refl w) hE8) hE15) hE25)⟩
set_option maxRecDepth 100000 in
set_option maxHeartbeats 2000000 in
theorem c_l_toStringS {A1 : Option Addr} {c1 : Nat} {w : World} (p_a : List Str) (h1 : RdS w (Iv 0 w.heap.size) (RF e_Str) 1 A1 p_a.length c1 p_a) (o2 : (okL okS) p_a) : Cal Tryd.prog 25 #[.slice A1 p_a.length c1] w fun v w' => ∃ A_1 c_1 lo_1 hi_1, v = .slice A_1 p_a.length c_1 ∧ OwnL w' lo_1 hi_1 9 1 (RF e_Str) A_1 p_a.length c_1 p_a ∧ (w.heap.size ≤ lo_1 ∧ lo_1 ≤ hi_1 ∧ hi_1 ≤ w'.heap.size) ∧ Ex w w' := by
 have hol3 := o2.1
 refine Cal.of (vs := [.slice A1 p_a.length c1]) Tryd.func25 rfl Tryd.ntmps25 rfl (CW.seq (CW.region (sd rfl (yl_assign rfl rfl (SeqR.done (tn (CW.seq (CW.region (sd rfl (yl_move rfl rfl ?_))))))))))
 refine sd rfl (yl_len Tryd.un22 rfl rfl (sd rfl (yl_make (zs := [.string (bs (([] : Str)))]) (n := p_a.length) Tryd.un22 Tryd.ty9 rfl rfl (Nat.le_of_ble_eq_true rfl) rfl rfl rfl (by first | omega | assumption | (simp only [IntKind.wrap_i64] at *; omega)) (by first | omega | assumption | (simp only [IntKind.wrap_i64] at *; omega)) ?_)))
 intro b4 w5 hs6 hz7 hB8 hE9
 have hO10 : OwnL w5 b4 (b4 + 1) 9 1 (RF e_Str) (some ⟨b4, 0, none⟩) p_a.length p_a.length (List.replicate p_a.length d_Str) := by have := OwnL.of_boxF (lo := b4) (hi := b4 + 1) (xs := (List.replicate p_a.length d_Str)) hB8 (Nat.le_refl _) (Nat.lt_succ_self _) (EncL.zerosF (enc := e_Str) (d := d_Str) rfl p_a.length) (by rw [List.length_replicate]; omega); rwa [List.length_replicate] at this
 refine sd rfl (yl_assign rfl rfl (SeqR.done (tn (CW.seq (CW.seq (CW.region (sd rfl (yl_assign rfl rfl (SeqR.done (tn ?_))))))))))
 refine CW.block (CW.loop (fun m20 L21 w22 => ∃ (k11 : Nat) (x19 : List Str), m20 = p_a.length - k11 ∧ k11 ≤ p_a.length ∧ w5.heap.size ≤ w22.heap.size ∧ lkp L21 0 = some (.slice A1 p_a.length c1) ∧ lkp L21 3 = some (.slice (some ⟨b4, 0, none⟩) p_a.length p_a.length) ∧ lkp L21 4 = some (.int .i64 ((k11 : Int))) ∧ RdS w22 (Iv 0 w.heap.size) (RF e_Str) 1 A1 p_a.length c1 p_a ∧ OwnL w22 b4 (b4 + 1) 9 1 (RF e_Str) (some ⟨b4, 0, none⟩) p_a.length p_a.length x19 ∧ Ex w w22 ∧ loopM (B_l_toStringS_0 p_a) (p_a.length - k11) k11 (x19) = loopM (B_l_toStringS_0 p_a) (p_a.length - 0) 0 ((List.replicate p_a.length d_Str))) (p_a.length - 0) ?_ ?_)
 ·exact ⟨0, (List.replicate p_a.length d_Str), rfl, (by omega), Nat.le_refl _, rfl, rfl, rfl, (RdS.ex good_Str h1 hE9), hO10, (Ex.trans (Ex.refl w) hE9), rfl⟩
 ·rintro m25 L26 w27 ⟨k11, x19, rfl, hk28, hsz30, hl31, hl32, hl33, hf34, hf35, hf36, hI29⟩
  refine CW.sub (Sub.cons hl31 (Sub.cons hl32 (Sub.cons hl33 (Sub.nil _)))) ?_
  have hf36z := Ex.size hf36
  have hbg37 := RdS.big hf34
  rcases Nat.lt_or_ge k11 p_a.length with hlt38 | hlt38
  ·refine CW.seq (CW.seq (CW.region (sd rfl (yl_move rfl rfl (sd rfl (yl_move rfl rfl (sd rfl (yl_len Tryd.un22 rfl rfl (sd rfl (yl_lss rfl rfl rfl (SeqR.done (tn ?_))))))))))))
   refine CW.cond_t rfl (lt_t hlt38) (CW.skip (tn (CW.seq (CW.block (CW.region (sd rfl (yl_move rfl rfl (sd rfl (yl_move rfl rfl (sd rfl (yl_move rfl rfl ?_)))))))))))
   refine sd rfl (yl_move rfl rfl ?_)
   obtain ⟨eb39, eo39, ec39, eA39, eS39, ebl39, el39, eR39, eC39⟩ := RdS.atD hf34 d_Str (i := k11) (by first | omega | assumption)
   obtain rfl := eR39
   have eC39 : Cells w27 eb39 (eo39 + k11 * 1) [.string (bs ((p_a.getD k11 d_Str)))] := eC39
   refine sd rfl (yl_indexAddrN Tryd.un22 Tryd.ty9 rfl rfl rfl eA39 (by first | omega | assumption | (simp only [IntKind.wrap_i64] at *; omega)) (sd rfl (yl_load1 Tryd.ty9 rfl rfl (eC39 0 _ rfl) ?_)))
   obtain ⟨eb41, eo41, ec41, eA41, eS41, ebl41, el41, eR41, eC41⟩ := RdS.atD (OwnL.rd good_Str hf35) d_Str (i := k11) (by first | omega | assumption)
   obtain rfl := eR41
   have eC41 : Cells w27 eb41 (eo41 + k11 * 1) [.string (bs ((x19.getD k11 d_Str)))] := eC41
   refine sd rfl (yl_indexAddrN Tryd.un22 Tryd.ty9 rfl rfl rfl eA41 (by first | omega | assumption | (simp only [IntKind.wrap_i64] at *; omega)) ?_)
   have hrg42 := OwnL.rng hf35 (i := k11) (by first | omega | assumption | (simp only [IntKind.wrap_i64] at *; omega)) eb41 (by rw [eA41]; rfl)
   refine SeqR.u rfl rfl (yl_storeF (off := eo41) (i := k11) (d := 0) (dx := d_Str) (x' := (p_a.getD k11 d_Str)) (vs := [.string (bs ((p_a.getD k11 d_Str)))]) Tryd.ty9 rfl hf35 eA41 rfl rfl rfl rfl rfl (by first | omega | assumption | (simp only [IntKind.wrap_i64] at *; omega)) (Nat.le_of_ble_eq_true rfl) rfl rfl ?_)
   intro w43 hB44 hO45
   have hO45z := hO45.size
   refine SeqR.done (bn (tn (CW.region (sd rfl (yl_move rfl rfl (sd rfl (yl_inc rfl rfl rfl (by omega) (sd rfl (yl_assign rfl rfl (SeqR.done (tn ?_)))))))))))
   have hB46 : B_l_toStringS_0 p_a k11 (x19) = .cont ((x19.set k11 (p_a.getD k11 d_Str))) := by simp only [B_l_toStringS_0, cond_true, cond_false, loopE_done, loopE_ret]
   exact ⟨p_a.length - (k11 + 1), by omega, k11 + 1, (x19.set k11 (p_a.getD k11 d_Str)), rfl, hlt38, (by omega), rfl, rfl, rfl, (RdS.only good_Str hf34 hO45 (by simp only [Iv]; omega)), hB44, (Below.only hf36 hO45 (by omega)), (loopM.cont hlt38 hB46).symm.trans hI29⟩
  ·refine CW.seq (CW.seq (CW.region (sd rfl (yl_move rfl rfl (sd rfl (yl_move rfl rfl (sd rfl (yl_len Tryd.un22 rfl rfl (sd rfl (yl_lss rfl rfl rfl (SeqR.done (tn ?_))))))))))))
   refine CW.cond_f rfl (lt_f hlt38) (CW.exit (tx (tx ?_)))
   have hL49 : loopM (B_l_toStringS_0 p_a) (p_a.length - 0) 0 ((List.replicate p_a.length d_Str)) = .done (x19) := hI29.symm.trans (loopM.stop hlt38)
   refine bx (tn (CW.seq (CW.region (sd rfl (yl_move rfl rfl (sd rfl (yl_assign rfl rfl (SeqR.done (tn (CW.ret ?_))))))))))
   refine rr rfl (.cons rfl .nil) ?_
   have hM50 : p_a = (x19) := (to_StringS _).symm.trans <| by simp only [l_toStringS, hL49, cond_true, cond_false, loopE_done, loopE_ret]
   subst hM50
   exact ⟨(some ⟨b4, 0, none⟩), p_a.length, b4, (b4 + 1), rfl, hf35, (by omega), hf36⟩
set_option maxRecDepth 100000 in
set_option maxHeartbeats 2000000 in
theorem c_l_toIdx {w : World} (p_a : DIdx) (o1 : ok_Idx p_a) : Cal Tryd.prog 46 #[.agg #[.string (bs (p_a.Name)), .int .i64 (p_a.Col), .int .i64 (p_a.Stage)]] w fun v w' => v = .agg #[.string (bs (p_a.Name)), .int .i64 (p_a.Col), .int .i64 (p_a.Stage)] ∧ Ex w w' := by
 have hol2 : p_a.Name.length ≤ 1073741824 := o1
 refine Cal.of (vs := [.agg #[.string (bs (p_a.Name)), .int .i64 (p_a.Col), .int .i64 (p_a.Stage)]]) Tryd.func46 rfl Tryd.ntmps46 rfl (CW.seq (CW.region (sd rfl (yl_box (cs := [.string (bs (p_a.Name)), .int .i64 (p_a.Col), .int .i64 (p_a.Stage)]) rfl rfl rfl ?_))))
 intro b3 w4 hs5 hz6 hB7 hE8
 refine sd rfl (yl_alloc Tryd.ty74 (cs := [.string (bs (([] : Str))), .int .i64 (0), .int .i64 (0)]) rfl rfl ?_)
 intro b9 w10 hs11 hz12 hB13 hE14
 refine SeqR.done (tn (CW.seq (CW.region (sd rfl (yl_alloc Tryd.ty74 (cs := [.string (bs (([] : Str))), .int .i64 (0), .int .i64 (0)]) rfl rfl ?_)))))
 intro b15 w16 hs17 hz18 hB19 hE20
 refine SeqR.done (tn (CW.seq (CW.region (sd rfl (yl_fieldAddr Tryd.fd68_0 rfl rfl ?_)))))
 have q22 := Box.ex (Box.ex hB7 hE14) hE20
 refine sd rfl (yl_load1 Tryd.ty9 rfl rfl ((q22.cell 0).trans rfl) (sd rfl (yl_fieldAddr Tryd.fd74_0 rfl rfl (SeqR.u rfl rfl (yl_store (vs := [.string (bs (p_a.Name))]) Tryd.ty9 rfl rfl rfl rfl rfl rfl hB19 (Nat.le_of_ble_eq_true rfl) ?_)))))
 intro w23 hB24 hO25
 have hB24 : Box w23 b15 74 [.string (bs (p_a.Name)), .int .i64 (0), .int .i64 (0)] := hB24
 have hO25z := hO25.size
 refine SeqR.done (tn (CW.seq (CW.region (sd rfl (yl_fieldAddr Tryd.fd68_1 rfl rfl ?_)))))
 have q26 := Box.only q22 hO25 (by omega)
 refine sd rfl (yl_load1 Tryd.ty3 rfl rfl ((q26.cell 1).trans rfl) (sd rfl (yl_fieldAddr Tryd.fd74_1 rfl rfl (SeqR.u rfl rfl (yl_store (vs := [.int .i64 (p_a.Col)]) Tryd.ty3 rfl rfl rfl rfl rfl rfl hB24 (Nat.le_of_ble_eq_true rfl) ?_)))))
 intro w27 hB28 hO29
 have hB28 : Box w27 b15 74 [.string (bs (p_a.Name)), .int .i64 (p_a.Col), .int .i64 (0)] := hB28
 have hO29z := hO29.size
 refine SeqR.done (tn (CW.seq (CW.region (sd rfl (yl_fieldAddr Tryd.fd68_2 rfl rfl (sd rfl (yl_load1 Tryd.ty3 rfl rfl (((Box.only q26 hO29 (by omega)).cell 2).trans rfl) (sd rfl (yl_fieldAddr Tryd.fd74_2 rfl rfl (SeqR.u rfl rfl (yl_store (vs := [.int .i64 (p_a.Stage)]) Tryd.ty3 rfl rfl rfl rfl rfl rfl hB28 (Nat.le_of_ble_eq_true rfl) ?_)))))))))))
 intro w31 hB32 hO33
 have hB32 : Box w31 b15 74 [.string (bs (p_a.Name)), .int .i64 (p_a.Col), .int .i64 (p_a.Stage)] := hB32
 have hO33z := hO33.size
 refine SeqR.done (tn (CW.seq (CW.region (sd rfl (yl_loadN (cs := [.string (bs (p_a.Name)), .int .i64 (p_a.Col), .int .i64 (p_a.Stage)]) Tryd.ty74 rfl rfl (hB32.cells (n := 3) rfl) rfl (SeqR.u rfl rfl (yl_store (vs := [.string (bs (p_a.Name)), .int .i64 (p_a.Col), .int .i64 (p_a.Stage)]) Tryd.ty74 rfl rfl rfl rfl rfl rfl (Box.only (Box.only (Box.only (Box.ex hB13 hE20) hO25 (by omega)) hO29 (by omega)) hO33 (by omega)) (Nat.le_of_ble_eq_true rfl) ?_)))))))
 intro w38 hB39 hO40
 have hB39 : Box w38 b9 74 [.string (bs (p_a.Name)), .int .i64 (p_a.Col), .int .i64 (p_a.Stage)] := hB39
 have hO40z := hO40.size
 refine SeqR.done (tn (CW.ret (rr rfl (.cons ⟨_, rfl, run_loadN Tryd.ty74 (cs := [.string (bs (p_a.Name)), .int .i64 (p_a.Col), .int .i64 (p_a.Stage)]) rfl (hB39.cells (n := 3) rfl)⟩ .nil) ?_)))
 have hM41 : p_a = (p_a) := (to_Idx _).symm.trans <| by simp only [l_toIdx, cond_true, cond_false, loopE_done, loopE_ret]
 rw [hM41]
 exact ⟨rfl, (Below.only (Below.only (Below.only (Below.only (Ex.trans (Ex.trans (Ex.trans (Ex.refl w) hE8) hE14) hE20) hO25 (by omega)) hO29 (by omega)) hO33 (by omega)) hO40 (by omega))⟩
set_option maxRecDepth 100000 in
set_option maxHeartbeats 2000000 in
theorem c_l_toIdxS {A1 : Option Addr} {c1 : Nat} {w : World} (p_a : List DIdx) (h1 : RdS w (Iv 0 w.heap.size) (RF e_Idx) 3 A1 p_a.length c1 p_a) (o2 : (okL ok_Idx) p_a) : Cal Tryd.prog 26 #[.slice A1 p_a.length c1] w fun v w' => ∃ A_1 c_1 lo_1 hi_1, v = .slice A_1 p_a.length c_1 ∧ OwnL w' lo_1 hi_1 74 3 (RF e_Idx) A_1 p_a.length c_1 p_a ∧ (w.heap.size ≤ lo_1 ∧ lo_1 ≤ hi_1 ∧ hi_1 ≤ w'.heap.size) ∧ Ex w w' := by
 have hol3 := o2.1
 refine Cal.of (vs := [.slice A1 p_a.length c1]) Tryd.func26 rfl Tryd.ntmps26 rfl (CW.seq (CW.region (sd rfl (yl_assign rfl rfl (SeqR.done (tn (CW.seq (CW.region (sd rfl (yl_move rfl rfl ?_))))))))))
 refine sd rfl (yl_len Tryd.un23 rfl rfl (sd rfl (yl_make (zs := [.string (bs (([] : Str))), .int .i64 (0), .int .i64 (0)]) (n := p_a.length) Tryd.un34 Tryd.ty74 rfl rfl (Nat.le_of_ble_eq_true rfl) rfl rfl rfl (by first | omega | assumption | (simp only [IntKind.wrap_i64] at *; omega)) (by first | omega | assumption | (simp only [IntKind.wrap_i64] at *; omega)) ?_)))
 intro b4 w5 hs6 hz7 hB8 hE9
 have hO10 : OwnL w5 b4 (b4 + 1) 74 3 (RF e_Idx) (some ⟨b4, 0, none⟩) p_a.length p_a.length (List.replicate p_a.length d_Idx) := by have := OwnL.of_boxF (lo := b4) (hi := b4 + 1) (xs := (List.replicate p_a.length d_Idx)) hB8 (Nat.le_refl _) (Nat.lt_succ_self _) (EncL.zerosF (enc := e_Idx) (d := d_Idx) rfl p_a.length) (by rw [List.length_replicate]; omega); rwa [List.length_replicate] at this
 refine sd rfl (yl_assign rfl rfl (SeqR.done (tn (CW.seq (CW.seq (CW.region (sd rfl (yl_assign rfl rfl (SeqR.done (tn ?_))))))))))
 refine CW.block (CW.loop (fun m23 L24 w25 => ∃ (k11 : Nat) (x22 : List DIdx), m23 = p_a.length - k11 ∧ k11 ≤ p_a.length ∧ w5.heap.size ≤ w25.heap.size ∧ lkp L24 0 = some (.slice A1 p_a.length c1) ∧ lkp L24 3 = some (.slice (some ⟨b4, 0, none⟩) p_a.length p_a.length) ∧ lkp L24 4 = some (.int .i64 ((k11 : Int))) ∧ RdS w25 (Iv 0 w.heap.size) (RF e_Idx) 3 A1 p_a.length c1 p_a ∧ OwnL w25 b4 (b4 + 1) 74 3 (RF e_Idx) (some ⟨b4, 0, none⟩) p_a.length p_a.length x22 ∧ Ex w w25 ∧ loopM (B_l_toIdxS_0 p_a) (p_a.length - k11) k11 (x22) = loopM (B_l_toIdxS_0 p_a) (p_a.length - 0) 0 ((List.replicate p_a.length d_Idx))) (p_a.length - 0) ?_ ?_)
 ·exact ⟨0, (List.replicate p_a.length d_Idx), rfl, (by omega), Nat.le_refl _, rfl, rfl, rfl, (RdS.ex good_Idx h1 hE9), hO10, (Ex.trans (Ex.refl w) hE9), rfl⟩
 ·rintro m28 L29 w30 ⟨k11, x22, rfl, hk31, hsz33, hl34, hl35, hl36, hf37, hf38, hf39, hI32⟩
  refine CW.sub (Sub.cons hl34 (Sub.cons hl35 (Sub.cons hl36 (Sub.nil _)))) ?_
  have hf39z := Ex.size hf39
  have hbg40 := RdS.big hf37
  rcases Nat.lt_or_ge k11 p_a.length with hlt41 | hlt41
  ·refine CW.seq (CW.seq (CW.region (sd rfl (yl_move rfl rfl (sd rfl (yl_move rfl rfl (sd rfl (yl_len Tryd.un23 rfl rfl (sd rfl (yl_lss rfl rfl rfl (SeqR.done (tn ?_))))))))))))
   refine CW.cond_t rfl (lt_t hlt41) (CW.skip (tn (CW.seq (CW.block (CW.region (sd rfl (yl_move rfl rfl (sd rfl (yl_move rfl rfl (sd rfl (yl_move rfl rfl ?_)))))))))))
   refine sd rfl (yl_move rfl rfl ?_)
   obtain ⟨eb42, eo42, ec42, eA42, eS42, ebl42, el42, eR42, eC42⟩ := RdS.atD hf37 d_Idx (i := k11) (by first | omega | assumption)
   obtain rfl := eR42
   have eC42 : Cells w30 eb42 (eo42 + k11 * 3) [.string (bs ((p_a.getD k11 d_Idx).Name)), .int .i64 ((p_a.getD k11 d_Idx).Col), .int .i64 ((p_a.getD k11 d_Idx).Stage)] := eC42
   refine sd rfl (yl_indexAddrN Tryd.un23 Tryd.ty68 rfl rfl rfl eA42 (by first | omega | assumption | (simp only [IntKind.wrap_i64] at *; omega)) (sd rfl (yl_loadN (cs := [.string (bs ((p_a.getD k11 d_Idx).Name)), .int .i64 ((p_a.getD k11 d_Idx).Col), .int .i64 ((p_a.getD k11 d_Idx).Stage)]) Tryd.ty68 rfl rfl eC42 rfl (sd rfl (yl_call Tryd.en46 rfl (opvs_cons rfl opvs_nil) (Cal.mono (c_l_toIdx (p_a.getD k11 d_Idx) (okL.getD o2 ok_d_Idx _)) ?_))))))
   rintro v44 w43 ⟨rfl, hE45⟩
   have hE45z := Ex.size hE45
   have q47 := OwnL.ex good_Idx hf38 hE45
   obtain ⟨eb48, eo48, ec48, eA48, eS48, ebl48, el48, eR48, eC48⟩ := RdS.atD (OwnL.rd good_Idx q47) d_Idx (i := k11) (by first | omega | assumption)
   obtain rfl := eR48
   have eC48 : Cells w43 eb48 (eo48 + k11 * 3) [.string (bs ((x22.getD k11 d_Idx).Name)), .int .i64 ((x22.getD k11 d_Idx).Col), .int .i64 ((x22.getD k11 d_Idx).Stage)] := eC48
   refine sd rfl (yl_indexAddrN Tryd.un34 Tryd.ty74 rfl rfl rfl eA48 (by first | omega | assumption | (simp only [IntKind.wrap_i64] at *; omega)) ?_)
   have hrg49 := OwnL.rng q47 (i := k11) (by first | omega | assumption | (simp only [IntKind.wrap_i64] at *; omega)) eb48 (by rw [eA48]; rfl)
   refine SeqR.u rfl rfl (yl_storeF (off := eo48) (i := k11) (d := 0) (dx := d_Idx) (x' := (p_a.getD k11 d_Idx)) (vs := [.string (bs ((p_a.getD k11 d_Idx).Name)), .int .i64 ((p_a.getD k11 d_Idx).Col), .int .i64 ((p_a.getD k11 d_Idx).Stage)]) Tryd.ty74 rfl q47 eA48 rfl rfl rfl rfl rfl (by first | omega | assumption | (simp only [IntKind.wrap_i64] at *; omega)) (Nat.le_of_ble_eq_true rfl) rfl rfl ?_)
   intro w50 hB51 hO52
   have hO52z := hO52.size
   refine SeqR.done (bn (tn (CW.region (sd rfl (yl_move rfl rfl (sd rfl (yl_inc rfl rfl rfl (by omega) (sd rfl (yl_assign rfl rfl (SeqR.done (tn ?_)))))))))))
   have hB53 : B_l_toIdxS_0 p_a k11 (x22) = .cont ((x22.set k11 (p_a.getD k11 d_Idx))) := by simp only [B_l_toIdxS_0, cond_true, cond_false, loopE_done, loopE_ret]
   exact ⟨p_a.length - (k11 + 1), by omega, k11 + 1, (x22.set k11 (p_a.getD k11 d_Idx)), rfl, hlt41, (by omega), rfl, rfl, rfl, (RdS.only good_Idx (RdS.ex good_Idx hf37 hE45) hO52 (by simp only [Iv]; omega)), hB51, (Below.only (Ex.trans hf39 hE45) hO52 (by omega)), (loopM.cont hlt41 hB53).symm.trans hI32⟩
  ·refine CW.seq (CW.seq (CW.region (sd rfl (yl_move rfl rfl (sd rfl (yl_move rfl rfl (sd rfl (yl_len Tryd.un23 rfl rfl (sd rfl (yl_lss rfl rfl rfl (SeqR.done (tn ?_))))))))))))
   refine CW.cond_f rfl (lt_f hlt41) (CW.exit (tx (tx ?_)))
   have hL58 : loopM (B_l_toIdxS_0 p_a) (p_a.length - 0) 0 ((List.replicate p_a.length d_Idx)) = .done (x22) := hI32.symm.trans (loopM.stop hlt41)
   refine bx (tn (CW.seq (CW.region (sd rfl (yl_move rfl rfl (sd rfl (yl_assign rfl rfl (SeqR.done (tn (CW.ret ?_))))))))))
   refine rr rfl (.cons rfl .nil) ?_
   have hM59 : p_a = (x22) := (to_IdxS _).symm.trans <| by simp only [l_toIdxS, hL58, cond_true, cond_false, loopE_done, loopE_ret]
   subst hM59
   exact ⟨(some ⟨b4, 0, none⟩), p_a.length, b4, (b4 + 1), rfl, hf38, (by omega), hf39⟩
set_option maxRecDepth 100000 in
set_option maxHeartbeats 2000000 in
theorem c_l_toTable {A1 : Option Addr} {c1 : Nat} {A2 : Option Addr} {c2 : Nat} {w : World} (p_a : DTable) (h1 : RdS w (Iv 0 w.heap.size) (RF e_Str) 1 A1 p_a.Cols.length c1 p_a.Cols) (h2 : RdS w (Iv 0 w.heap.size) (RF e_Idx) 3 A2 p_a.Idxs.length c2 p_a.Idxs) (o3 : ok_Table p_a) : Cal Tryd.prog 8 #[.agg #[.string (bs (p_a.Name)), .slice A1 p_a.Cols.length c1, .slice A2 p_a.Idxs.length c2]] w fun v w' => ∃ A_1 c_1 lo_1 hi_1 A_2 c_2 lo_2 hi_2, v = .agg #[.string (bs (p_a.Name)), .slice A_1 p_a.Cols.length c_1, .slice A_2 p_a.Idxs.length c_2] ∧ OwnL w' lo_1 hi_1 9 1 (RF e_Str) A_1 p_a.Cols.length c_1 p_a.Cols ∧ OwnL w' lo_2 hi_2 74 3 (RF e_Idx) A_2 p_a.Idxs.length c_2 p_a.Idxs ∧ (w.heap.size ≤ lo_1 ∧ lo_1 ≤ hi_1 ∧ hi_1 ≤ w'.heap.size) ∧ (w.heap.size ≤ lo_2 ∧ lo_2 ≤ hi_2 ∧ hi_2 ≤ w'.heap.size) ∧ (hi_1 ≤ lo_2 ∨ hi_2 ≤ lo_1) ∧ Ex w w' := by
 have hol4 : p_a.Name.length ≤ 1073741824 := o3.1
 have hol5 := o3.2.1.1
 have hol6 := o3.2.2.1
 refine Cal.of (vs := [.agg #[.string (bs (p_a.Name)), .slice A1 p_a.Cols.length c1, .slice A2 p_a.Idxs.length c2]]) Tryd.func8 rfl Tryd.ntmps8 rfl (CW.seq (CW.region (sd rfl (yl_box (cs := [.string (bs (p_a.Name)), .slice A1 p_a.Cols.length c1, .slice A2 p_a.Idxs.length c2]) rfl rfl rfl ?_))))
 intro b7 w8 hs9 hz10 hB11 hE12
 refine sd rfl (yl_alloc Tryd.ty36 (cs := [.string (bs (([] : Str))), .slice none 0 0, .slice none 0 0]) rfl rfl ?_)
 intro b13 w14 hs15 hz16 hB17 hE18
 refine SeqR.done (tn (CW.seq (CW.region (sd rfl (yl_alloc Tryd.ty36 (cs := [.string (bs (([] : Str))), .slice none 0 0, .slice none 0 0]) rfl rfl ?_)))))
 intro b19 w20 hs21 hz22 hB23 hE24
 refine SeqR.done (tn (CW.seq (CW.region (sd rfl (yl_fieldAddr Tryd.fd25_0 rfl rfl ?_)))))
 have q26 := Box.ex (Box.ex hB11 hE18) hE24
 refine sd rfl (yl_load1 Tryd.ty9 rfl rfl ((q26.cell 0).trans rfl) (sd rfl (yl_fieldAddr Tryd.fd36_0 rfl rfl (SeqR.u rfl rfl (yl_store (vs := [.string (bs (p_a.Name))]) Tryd.ty9 rfl rfl rfl rfl rfl rfl hB23 (Nat.le_of_ble_eq_true rfl) ?_)))))
 intro w27 hB28 hO29
 have hB28 : Box w27 b19 36 [.string (bs (p_a.Name)), .slice none 0 0, .slice none 0 0] := hB28
 have hO29z := hO29.size
 refine SeqR.done (tn (CW.seq (CW.region (sd rfl (yl_fieldAddr Tryd.fd25_1 rfl rfl ?_)))))
 have q30 := Box.only q26 hO29 (by omega)
 refine sd rfl (yl_load1 Tryd.ty22 rfl rfl ((q30.cell 1).trans rfl) (sd rfl (yl_call Tryd.en25 rfl (opvs_cons rfl opvs_nil) (Cal.mono (c_l_toStringS p_a.Cols (RdS.up (RdS.only good_Str (RdS.ex good_Str (RdS.ex good_Str (RdS.ex good_Str h1 hE12) hE18) hE24) hO29 (by simp only [Iv]; omega)) good_Str) o3.2.1) ?_))))
 rintro v37 w35 ⟨A36, c36, lo36, hi36, rfl, h36, hrn39, hE38⟩
 have hE38z := Ex.size hE38
 refine sd rfl (yl_fieldAddr Tryd.fd36_1 rfl rfl (SeqR.u rfl rfl (yl_store (vs := [.slice A36 p_a.Cols.length c36]) Tryd.ty22 rfl rfl rfl rfl rfl rfl (Box.ex hB28 hE38) (Nat.le_of_ble_eq_true rfl) ?_)))
 intro w41 hB42 hO43
 have hB42 : Box w41 b19 36 [.string (bs (p_a.Name)), .slice A36 p_a.Cols.length c36, .slice none 0 0] := hB42
 have hO43z := hO43.size
 refine SeqR.done (tn (CW.seq (CW.region (sd rfl (yl_fieldAddr Tryd.fd25_2 rfl rfl (sd rfl (yl_load1 Tryd.ty23 rfl rfl (((Box.only (Box.ex q30 hE38) hO43 (by omega)).cell 2).trans rfl) (sd rfl (yl_call Tryd.en26 rfl (opvs_cons rfl opvs_nil) (Cal.mono (c_l_toIdxS p_a.Idxs (RdS.up (RdS.only good_Idx (RdS.ex good_Idx (RdS.only good_Idx (RdS.ex good_Idx (RdS.ex good_Idx (RdS.ex good_Idx h2 hE12) hE18) hE24) hO29 (by simp only [Iv]; omega)) hE38) hO43 (by simp only [Iv]; omega)) good_Idx) o3.2.2) ?_))))))))))
 rintro v54 w52 ⟨A53, c53, lo53, hi53, rfl, h53, hrn56, hE55⟩
 have hE55z := Ex.size hE55
 refine sd rfl (yl_fieldAddr Tryd.fd36_2 rfl rfl (SeqR.u rfl rfl (yl_store (vs := [.slice A53 p_a.Idxs.length c53]) Tryd.ty34 rfl rfl rfl rfl rfl rfl (Box.ex hB42 hE55) (Nat.le_of_ble_eq_true rfl) ?_)))
 intro w58 hB59 hO60
 have hB59 : Box w58 b19 36 [.string (bs (p_a.Name)), .slice A36 p_a.Cols.length c36, .slice A53 p_a.Idxs.length c53] := hB59
 have hO60z := hO60.size
 refine SeqR.done (tn (CW.seq (CW.region (sd rfl (yl_loadN (cs := [.string (bs (p_a.Name)), .slice A36 p_a.Cols.length c36, .slice A53 p_a.Idxs.length c53]) Tryd.ty36 rfl rfl (hB59.cells (n := 3) rfl) rfl (SeqR.u rfl rfl (yl_store (vs := [.string (bs (p_a.Name)), .slice A36 p_a.Cols.length c36, .slice A53 p_a.Idxs.length c53]) Tryd.ty36 rfl rfl rfl rfl rfl rfl (Box.only (Box.ex (Box.only (Box.ex (Box.only (Box.ex hB17 hE24) hO29 (by omega)) hE38) hO43 (by omega)) hE55) hO60 (by omega)) (Nat.le_of_ble_eq_true rfl) ?_)))))))
 intro w67 hB68 hO69
 have hB68 : Box w67 b13 36 [.string (bs (p_a.Name)), .slice A36 p_a.Cols.length c36, .slice A53 p_a.Idxs.length c53] := hB68
 have hO69z := hO69.size
 refine SeqR.done (tn (CW.ret (rr rfl (.cons ⟨_, rfl, run_loadN Tryd.ty36 (cs := [.string (bs (p_a.Name)), .slice A36 p_a.Cols.length c36, .slice A53 p_a.Idxs.length c53]) rfl (hB68.cells (n := 3) rfl)⟩ .nil) ?_)))
 have hM70 : p_a = (p_a) := (to_Table _).symm.trans <| by simp only [l_toTable, cond_true, cond_false, loopE_done, loopE_ret]
 rw [hM70]
 exact ⟨A36, c36, lo36, hi36, A53, c53, lo53, hi53, rfl, (OwnL.only good_Str (OwnL.only good_Str (OwnL.ex good_Str (OwnL.only good_Str h36 hO43 (by omega)) hE55) hO60 (by omega)) hO69 (by omega)), (OwnL.only good_Idx (OwnL.only good_Idx h53 hO60 (by omega)) hO69 (by omega)), (by omega), (by omega), (by omega), (Below.only (Below.only (Ex.trans (Below.only (Ex.trans (Below.only (Ex.trans (Ex.trans (Ex.trans (Ex.refl w) hE12) hE18) hE24) hO29 (by omega)) hE38) hO43 (by omega)) hE55) hO60 (by omega)) hO69 (by omega))⟩
set_option maxRecDepth 100000 in
set_option maxHeartbeats 2000000 in
theorem c_l_eqStringS {A1 : Option Addr} {c1 : Nat} {A2 : Option Addr} {c2 : Nat} {w : World} (p_a : List Str) (p_b : List Str) (h1 : RdS w (Iv 0 w.heap.size) (RF e_Str) 1 A1 p_a.length c1 p_a) (h2 : RdS w (Iv 0 w.heap.size) (RF e_Str) 1 A2 p_b.length c2 p_b) : Cal Tryd.prog 29 #[.slice A1 p_a.length c1, .slice A2 p_b.length c2] w fun v w' => v = .bool ((l_eqStringS p_a p_b)) ∧ Ex w w' := by
 refine Cal.of (vs := [.slice A1 p_a.length c1, .slice A2 p_b.length c2]) Tryd.func29 rfl Tryd.ntmps29 rfl (CW.seq (CW.region (sd rfl (yl_assign rfl rfl (SeqR.done (tn (CW.seq (CW.seq (CW.region ?_)))))))))
 refine sd rfl (yl_move rfl rfl (sd rfl (yl_len Tryd.un22 rfl rfl (sd rfl (yl_move rfl rfl (sd rfl (yl_len Tryd.un22 rfl rfl (sd rfl (yl_neq rfl rfl rfl (SeqR.done (tn (bcase (decide ((p_a.length : Int) = (p_b.length : Int))) (fun hb3 => ?_) (fun hb3 => ?_)))))))))))))
 ·have hb3p := dec_t hb3
  refine CW.cond_f rfl (not_t hb3) (CW.skip (tn (CW.seq (CW.seq (CW.region (sd rfl (yl_assign rfl rfl (SeqR.done (tn ?_)))))))))
  refine CW.block (CW.loop (fun m5 L6 w7 => ∃ (k4 : Nat), m5 = p_a.length - k4 ∧ k4 ≤ p_a.length ∧ w.heap.size ≤ w7.heap.size ∧ lkp L6 0 = some (.slice A1 p_a.length c1) ∧ lkp L6 1 = some (.slice A2 p_b.length c2) ∧ lkp L6 5 = some (.int .i64 ((k4 : Int))) ∧ RdS w7 (Iv 0 w.heap.size) (RF e_Str) 1 A1 p_a.length c1 p_a ∧ RdS w7 (Iv 0 w.heap.size) (RF e_Str) 1 A2 p_b.length c2 p_b ∧ Ex w w7 ∧ loopM (B_l_eqStringS_0 p_a p_b) (p_a.length - k4) k4 () = loopM (B_l_eqStringS_0 p_a p_b) (p_a.length - 0) 0 ()) (p_a.length - 0) ?_ ?_)
  ·exact ⟨0, rfl, (by omega), Nat.le_refl _, rfl, rfl, rfl, h1, h2, (Ex.refl w), rfl⟩
  ·rintro m8 L9 w10 ⟨k4, rfl, hk11, hsz13, hl14, hl15, hl16, hf17, hf18, hf19, hI12⟩
   refine CW.sub (Sub.cons hl14 (Sub.cons hl15 (Sub.cons hl16 (Sub.nil _)))) ?_
   have hf19z := Ex.size hf19
   have hbg20 := RdS.big hf17
   rcases Nat.lt_or_ge k4 p_a.length with hlt21 | hlt21
   ·refine CW.seq (CW.seq (CW.region (sd rfl (yl_move rfl rfl (sd rfl (yl_move rfl rfl (sd rfl (yl_len Tryd.un22 rfl rfl (sd rfl (yl_lss rfl rfl rfl (SeqR.done (tn ?_))))))))))))
    refine CW.cond_t rfl (lt_t hlt21) (CW.skip (tn (CW.seq (CW.block (CW.seq ?_)))))
    obtain ⟨eb22, eo22, ec22, eA22, eS22, ebl22, el22, eR22, eC22⟩ := RdS.atD hf17 d_Str (i := k4) (by first | omega | assumption)
    obtain rfl := eR22
    have eC22 : Cells w10 eb22 (eo22 + k4 * 1) [.string (bs ((p_a.getD k4 d_Str)))] := eC22
    obtain ⟨eb23, eo23, ec23, eA23, eS23, ebl23, el23, eR23, eC23⟩ := RdS.atD hf18 d_Str (i := k4) (by first | omega | assumption)
    obtain rfl := eR23
    have eC23 : Cells w10 eb23 (eo23 + k4 * 1) [.string (bs ((p_b.getD k4 d_Str)))] := eC23
    refine CW.drawsI 9 (vgetI [DetI (.slice A1 p_a.length c1), DetI (.int .i64 ((k4 : Int))), DetI (.pointer (some ⟨eb22, eo22 + k4 * 1, none⟩)), DetI (.string (bs ((p_a.getD k4 d_Str)))), DetI (.slice A2 p_b.length c2), DetI (.int .i64 ((k4 : Int))), DetI (.pointer (some ⟨eb23, eo23 + k4 * 1, none⟩)), DetI (.string (bs ((p_b.getD k4 d_Str)))), DetI (.bool (!((p_a.getD k4 d_Str) == (p_b.getD k4 d_Str))))]) Tryd.follows rfl rfl rfl rfl rfl rfl (vgetI_stable ⟨StableI.det _, StableI.det _, StableI.det _, StableI.det _, StableI.det _, StableI.det _, StableI.det _, StableI.det _, StableI.det _, trivial⟩) ⟨?_, ?_, ?_, ?_, ?_, ?_, ?_, ?_, ?_, trivial⟩ ?_
    ·exact fun _ _ h => os rfl ((yl_move rfl (h.old 0 _ rfl rfl) kI))
    ·exact fun _ _ h => os rfl ((yl_move rfl (h.old 5 _ rfl rfl) kI))
    ·intro L34 w35 hi36
     have hE37 := hi36.ex
     have hE37z := Ex.size hE37
     exact os rfl ((yl_indexAddrN Tryd.un22 Tryd.ty9 rfl (hi36.dt 0 17 rfl rfl rfl) (hi36.dt 1 18 rfl rfl rfl) eA22 (by first | omega | assumption | (simp only [IntKind.wrap_i64] at *; omega)) kI))
    ·exact fun _ _ h => os rfl ((yl_load1 Tryd.ty9 rfl (h.dt 2 19 rfl rfl rfl) ((Cells.ex eC22 h.ex) 0 _ rfl) kI))
    ·exact fun _ _ h => os rfl ((yl_move rfl (h.old 1 _ rfl rfl) kI))
    ·exact fun _ _ h => os rfl ((yl_move rfl (h.old 5 _ rfl rfl) kI))
    ·intro L56 w57 hi58
     have hE59 := hi58.ex
     have hE59z := Ex.size hE59
     exact os rfl ((yl_indexAddrN Tryd.un22 Tryd.ty9 rfl (hi58.dt 4 21 rfl rfl rfl) (hi58.dt 5 22 rfl rfl rfl) eA23 (by first | omega | assumption | (simp only [IntKind.wrap_i64] at *; omega)) kI))
    ·exact fun _ _ h => os rfl ((yl_load1 Tryd.ty9 rfl (h.dt 6 23 rfl rfl rfl) ((Cells.ex eC23 h.ex) 0 _ rfl) kI))
    ·exact fun _ _ h => os rfl ((yl_sneq (a := (p_a.getD k4 d_Str)) (b := (p_b.getD k4 d_Str)) rfl (h.dt 3 20 rfl rfl rfl) (h.dt 7 24 rfl rfl rfl) kI))
    ·intro fl77 fh78 L74 w75 hp76
     have hE79 := hp76.ex
     have hE79z := Ex.size hE79
     refine SeqR.done (tn (CW.sub (Sub.cons (d := 0) (hp76.old 0 _ rfl rfl) (Sub.cons (d := 1) (hp76.old 1 _ rfl rfl) (Sub.cons (d := 5) (hp76.old 5 _ rfl rfl) (Sub.cons (d := 25) (hp76.nt 8 25 rfl rfl rfl) (Sub.nil _))))) (bcase ((p_a.getD k4 d_Str) == (p_b.getD k4 d_Str)) (fun hb84 => ?_) (fun hb84 => ?_))))
     ·refine CW.cond_f rfl (not_t hb84) (CW.skip (bn (tn (CW.region (sd rfl (yl_move rfl rfl (sd rfl (yl_inc rfl rfl rfl (by omega) (sd rfl (yl_assign rfl rfl (SeqR.done ?_)))))))))))
      refine tn ?_
      have hB85 : B_l_eqStringS_0 p_a p_b k4 () = .cont () := by simp only [B_l_eqStringS_0, hb3, hb84, cond_true, cond_false, loopE_done, loopE_ret]
      exact ⟨p_a.length - (k4 + 1), by omega, k4 + 1, rfl, hlt21, (by omega), rfl, rfl, rfl, (RdS.ex good_Str hf17 hE79), (RdS.ex good_Str hf18 hE79), (Ex.trans hf19 hE79), (loopM.cont hlt21 hB85).symm.trans hI12⟩
     ·refine CW.cond_t rfl (not_f hb84) (CW.seq (CW.region (sd rfl (yl_assign rfl rfl (SeqR.done (tn (CW.ret (br (tr ?_)))))))))
      refine tr ?_
      have hB90 : B_l_eqStringS_0 p_a p_b k4 () = .ret false := by simp only [B_l_eqStringS_0, hb3, hb84, cond_true, cond_false, loopE_done, loopE_ret]
      have hL89 : loopM (B_l_eqStringS_0 p_a p_b) (p_a.length - 0) 0 () = .ret false := hI12.symm.trans (loopM.ret hlt21 hB90)
      refine br (tr (rr rfl (.cons rfl .nil) ?_))
      have hM91 : (l_eqStringS p_a p_b) = (false) := by simp only [l_eqStringS, hb3, hb84, hL89, cond_true, cond_false, loopE_done, loopE_ret]
      rw [hM91]
      exact ⟨rfl, (Ex.trans hf19 hE79)⟩
   ·refine CW.seq (CW.seq (CW.region (sd rfl (yl_move rfl rfl (sd rfl (yl_move rfl rfl (sd rfl (yl_len Tryd.un22 rfl rfl (sd rfl (yl_lss rfl rfl rfl (SeqR.done (tn ?_))))))))))))
    refine CW.cond_f rfl (lt_f hlt21) (CW.exit (tx (tx ?_)))
    have hL93 : loopM (B_l_eqStringS_0 p_a p_b) (p_a.length - 0) 0 () = .done () := hI12.symm.trans (loopM.stop hlt21)
    refine bx (tn (CW.seq (CW.region (sd rfl (yl_assign rfl rfl (SeqR.done (tn (CW.ret (rr rfl (.cons rfl .nil) ?_)))))))))
    have hM94 : (l_eqStringS p_a p_b) = (true) := by simp only [l_eqStringS, hb3, hL93, cond_true, cond_false, loopE_done, loopE_ret]
    rw [hM94]
    exact ⟨rfl, hf19⟩
 ·have hb3p := dec_f hb3
  refine CW.cond_t rfl (not_f hb3) (CW.seq (CW.region (sd rfl (yl_assign rfl rfl (SeqR.done (tn (CW.ret (tr (rr rfl (.cons rfl .nil) ?_)))))))))
  have hM95 : (l_eqStringS p_a p_b) = (false) := by simp only [l_eqStringS, hb3, cond_true, cond_false, loopE_done, loopE_ret]
  rw [hM95]
  exact ⟨rfl, (Ex.refl w)⟩
set_option maxRecDepth 100000 in
set_option maxHeartbeats 2000000 in
theorem c_l_eqIdx {w : World} (p_a : DIdx) (p_b : DIdx) : Cal Tryd.prog 55 #[.agg #[.string (bs (p_a.Name)), .int .i64 (p_a.Col), .int .i64 (p_a.Stage)], .agg #[.string (bs (p_b.Name)), .int .i64 (p_b.Col), .int .i64 (p_b.Stage)]] w fun v w' => v = .bool ((l_eqIdx p_a p_b)) ∧ Ex w w' := by
 refine Cal.of (vs := [.agg #[.string (bs (p_a.Name)), .int .i64 (p_a.Col), .int .i64 (p_a.Stage)], .agg #[.string (bs (p_b.Name)), .int .i64 (p_b.Col), .int .i64 (p_b.Stage)]]) Tryd.func55 rfl Tryd.ntmps55 rfl (CW.seq (CW.region (sd rfl (yl_box (cs := [.string (bs (p_a.Name)), .int .i64 (p_a.Col), .int .i64 (p_a.Stage)]) rfl rfl rfl ?_))))
 intro b1 w2 hs3 hz4 hB5 hE6
 refine sd rfl (yl_box (cs := [.string (bs (p_b.Name)), .int .i64 (p_b.Col), .int .i64 (p_b.Stage)]) rfl rfl rfl ?_)
 intro b7 w8 hs9 hz10 hB11 hE12
 refine sd rfl (yl_assign rfl rfl (SeqR.done (tn (CW.seq (CW.seq (CW.region (sd rfl (yl_fieldAddr Tryd.fd74_0 rfl rfl ?_))))))))
 have q13 := Box.ex hB5 hE12
 refine sd rfl (yl_load1 Tryd.ty9 rfl rfl ((q13.cell 0).trans rfl) (sd rfl (yl_fieldAddr Tryd.fd74_0 rfl rfl (sd rfl (yl_load1 Tryd.ty9 rfl rfl ((hB11.cell 0).trans rfl) (sd rfl (yl_sneq (a := p_a.Name) (b := p_b.Name) rfl rfl rfl (SeqR.done (tn (bcase (p_a.Name == p_b.Name) (fun hb14 => ?_) (fun hb14 => ?_)))))))))))
 ·refine CW.cond_f rfl (not_t hb14) (CW.skip (tn (CW.seq (CW.seq (CW.region (sd rfl (yl_fieldAddr Tryd.fd74_1 rfl rfl (sd rfl (yl_load1 Tryd.ty3 rfl rfl ((q13.cell 1).trans rfl) (sd rfl (yl_fieldAddr Tryd.fd74_1 rfl rfl ?_)))))))))))
  refine sd rfl (yl_load1 Tryd.ty3 rfl rfl ((hB11.cell 1).trans rfl) (sd rfl (yl_neq rfl rfl rfl (SeqR.done (tn (bcase (decide (p_a.Col = p_b.Col)) (fun hb15 => ?_) (fun hb15 => ?_)))))))
  ·have hb15p := dec_t hb15
   refine CW.cond_f rfl (not_t hb15) (CW.skip (tn (CW.seq (CW.seq (CW.region (sd rfl (yl_fieldAddr Tryd.fd74_2 rfl rfl (sd rfl (yl_load1 Tryd.ty3 rfl rfl ((q13.cell 2).trans rfl) (sd rfl (yl_fieldAddr Tryd.fd74_2 rfl rfl ?_)))))))))))
   refine sd rfl (yl_load1 Tryd.ty3 rfl rfl ((hB11.cell 2).trans rfl) (sd rfl (yl_neq rfl rfl rfl (SeqR.done (tn (bcase (decide (p_a.Stage = p_b.Stage)) (fun hb16 => ?_) (fun hb16 => ?_)))))))
   ·have hb16p := dec_t hb16
    refine CW.cond_f rfl (not_t hb16) (CW.skip (tn (CW.seq (CW.region (sd rfl (yl_assign rfl rfl (SeqR.done (tn (CW.ret ?_)))))))))
    refine rr rfl (.cons rfl .nil) ?_
    have hM17 : (l_eqIdx p_a p_b) = (true) := by simp only [l_eqIdx, hb14, hb15, hb16, cond_true, cond_false, loopE_done, loopE_ret]
    rw [hM17]
    exact ⟨rfl, (Ex.trans (Ex.trans (Ex.refl w) hE6) hE12)⟩
   ·have hb16p := dec_f hb16
    refine CW.cond_t rfl (not_f hb16) (CW.seq (CW.region (sd rfl (yl_assign rfl rfl (SeqR.done (tn (CW.ret (tr (rr rfl (.cons rfl .nil) ?_)))))))))
    have hM20 : (l_eqIdx p_a p_b) = (false) := by simp only [l_eqIdx, hb14, hb15, hb16, cond_true, cond_false, loopE_done, loopE_ret]
    rw [hM20]
    exact ⟨rfl, (Ex.trans (Ex.trans (Ex.refl w) hE6) hE12)⟩
  ·have hb15p := dec_f hb15
   refine CW.cond_t rfl (not_f hb15) (CW.seq (CW.region (sd rfl (yl_assign rfl rfl (SeqR.done (tn (CW.ret (tr (rr rfl (.cons rfl .nil) ?_)))))))))
   have hM23 : (l_eqIdx p_a p_b) = (false) := by simp only [l_eqIdx, hb14, hb15, cond_true, cond_false, loopE_done, loopE_ret]
   rw [hM23]
   exact ⟨rfl, (Ex.trans (Ex.trans (Ex.refl w) hE6) hE12)⟩
 ·refine CW.cond_t rfl (not_f hb14) (CW.seq (CW.region (sd rfl (yl_assign rfl rfl (SeqR.done (tn (CW.ret (tr (rr rfl (.cons rfl .nil) ?_)))))))))
  have hM26 : (l_eqIdx p_a p_b) = (false) := by simp only [l_eqIdx, hb14, cond_true, cond_false, loopE_done, loopE_ret]
  rw [hM26]
  exact ⟨rfl, (Ex.trans (Ex.trans (Ex.refl w) hE6) hE12)⟩
set_option maxRecDepth 100000 in
set_option maxHeartbeats 2000000 in
theorem c_l_eqIdxS {A1 : Option Addr} {c1 : Nat} {A2 : Option Addr} {c2 : Nat} {w : World} (p_a : List DIdx) (p_b : List DIdx) (h1 : RdS w (Iv 0 w.heap.size) (RF e_Idx) 3 A1 p_a.length c1 p_a) (h2 : RdS w (Iv 0 w.heap.size) (RF e_Idx) 3 A2 p_b.length c2 p_b) : Cal Tryd.prog 30 #[.slice A1 p_a.length c1, .slice A2 p_b.length c2] w fun v w' => v = .bool ((l_eqIdxS p_a p_b)) ∧ Ex w w' := by
 refine Cal.of (vs := [.slice A1 p_a.length c1, .slice A2 p_b.length c2]) Tryd.func30 rfl Tryd.ntmps30 rfl (CW.seq (CW.region (sd rfl (yl_assign rfl rfl (SeqR.done (tn (CW.seq (CW.seq (CW.region ?_)))))))))
 refine sd rfl (yl_move rfl rfl (sd rfl (yl_len Tryd.un34 rfl rfl (sd rfl (yl_move rfl rfl (sd rfl (yl_len Tryd.un34 rfl rfl (sd rfl (yl_neq rfl rfl rfl (SeqR.done (tn (bcase (decide ((p_a.length : Int) = (p_b.length : Int))) (fun hb3 => ?_) (fun hb3 => ?_)))))))))))))
 ·have hb3p := dec_t hb3
  refine CW.cond_f rfl (not_t hb3) (CW.skip (tn (CW.seq (CW.seq (CW.region (sd rfl (yl_assign rfl rfl (SeqR.done (tn ?_)))))))))
  refine CW.block (CW.loop (fun m5 L6 w7 => ∃ (k4 : Nat), m5 = p_a.length - k4 ∧ k4 ≤ p_a.length ∧ w.heap.size ≤ w7.heap.size ∧ lkp L6 0 = some (.slice A1 p_a.length c1) ∧ lkp L6 1 = some (.slice A2 p_b.length c2) ∧ lkp L6 5 = some (.int .i64 ((k4 : Int))) ∧ RdS w7 (Iv 0 w.heap.size) (RF e_Idx) 3 A1 p_a.length c1 p_a ∧ RdS w7 (Iv 0 w.heap.size) (RF e_Idx) 3 A2 p_b.length c2 p_b ∧ Ex w w7 ∧ loopM (B_l_eqIdxS_0 p_a p_b) (p_a.length - k4) k4 () = loopM (B_l_eqIdxS_0 p_a p_b) (p_a.length - 0) 0 ()) (p_a.length - 0) ?_ ?_)
  ·exact ⟨0, rfl, (by omega), Nat.le_refl _, rfl, rfl, rfl, h1, h2, (Ex.refl w), rfl⟩
  ·rintro m8 L9 w10 ⟨k4, rfl, hk11, hsz13, hl14, hl15, hl16, hf17, hf18, hf19, hI12⟩
   refine CW.sub (Sub.cons hl14 (Sub.cons hl15 (Sub.cons hl16 (Sub.nil _)))) ?_
   have hf19z := Ex.size hf19
   have hbg20 := RdS.big hf17
   rcases Nat.lt_or_ge k4 p_a.length with hlt21 | hlt21
   ·refine CW.seq (CW.seq (CW.region (sd rfl (yl_move rfl rfl (sd rfl (yl_move rfl rfl (sd rfl (yl_len Tryd.un34 rfl rfl (sd rfl (yl_lss rfl rfl rfl (SeqR.done (tn ?_))))))))))))
    refine CW.cond_t rfl (lt_t hlt21) (CW.skip (tn (CW.seq (CW.block (CW.seq ?_)))))
    obtain ⟨eb22, eo22, ec22, eA22, eS22, ebl22, el22, eR22, eC22⟩ := RdS.atD hf17 d_Idx (i := k4) (by first | omega | assumption)
    obtain rfl := eR22
    have eC22 : Cells w10 eb22 (eo22 + k4 * 3) [.string (bs ((p_a.getD k4 d_Idx).Name)), .int .i64 ((p_a.getD k4 d_Idx).Col), .int .i64 ((p_a.getD k4 d_Idx).Stage)] := eC22
    obtain ⟨eb23, eo23, ec23, eA23, eS23, ebl23, el23, eR23, eC23⟩ := RdS.atD hf18 d_Idx (i := k4) (by first | omega | assumption)
    obtain rfl := eR23
    have eC23 : Cells w10 eb23 (eo23 + k4 * 3) [.string (bs ((p_b.getD k4 d_Idx).Name)), .int .i64 ((p_b.getD k4 d_Idx).Col), .int .i64 ((p_b.getD k4 d_Idx).Stage)] := eC23
    refine CW.drawsI 10 (vgetI [DetI (.slice A1 p_a.length c1), DetI (.int .i64 ((k4 : Int))), DetI (.pointer (some ⟨eb22, eo22 + k4 * 3, none⟩)), DetI (.agg #[.string (bs ((p_a.getD k4 d_Idx).Name)), .int .i64 ((p_a.getD k4 d_Idx).Col), .int .i64 ((p_a.getD k4 d_Idx).Stage)]), DetI (.slice A2 p_b.length c2), DetI (.int .i64 ((k4 : Int))), DetI (.pointer (some ⟨eb23, eo23 + k4 * 3, none⟩)), DetI (.agg #[.string (bs ((p_b.getD k4 d_Idx).Name)), .int .i64 ((p_b.getD k4 d_Idx).Col), .int .i64 ((p_b.getD k4 d_Idx).Stage)]), DetI (.bool ((l_eqIdx (p_a.getD k4 d_Idx) (p_b.getD k4 d_Idx)))), DetI (.bool (!(l_eqIdx (p_a.getD k4 d_Idx) (p_b.getD k4 d_Idx))))]) Tryd.follows rfl rfl rfl rfl rfl rfl (vgetI_stable ⟨StableI.det _, StableI.det _, StableI.det _, StableI.det _, StableI.det _, StableI.det _, StableI.det _, StableI.det _, StableI.det _, StableI.det _, trivial⟩) ⟨?_, ?_, ?_, ?_, ?_, ?_, ?_, ?_, ?_, ?_, trivial⟩ ?_
    ·exact fun _ _ h => os rfl ((yl_move rfl (h.old 0 _ rfl rfl) kI))
    ·exact fun _ _ h => os rfl ((yl_move rfl (h.old 5 _ rfl rfl) kI))
    ·intro L35 w36 hi37
     have hE38 := hi37.ex
     have hE38z := Ex.size hE38
     exact os rfl ((yl_indexAddrN Tryd.un34 Tryd.ty74 rfl (hi37.dt 0 17 rfl rfl rfl) (hi37.dt 1 18 rfl rfl rfl) eA22 (by first | omega | assumption | (simp only [IntKind.wrap_i64] at *; omega)) kI))
    ·exact fun _ _ h => os rfl ((yl_loadN (cs := [.string (bs ((p_a.getD k4 d_Idx).Name)), .int .i64 ((p_a.getD k4 d_Idx).Col), .int .i64 ((p_a.getD k4 d_Idx).Stage)]) Tryd.ty74 rfl (h.dt 2 19 rfl rfl rfl) (Cells.ex eC22 h.ex) rfl kI))
    ·exact fun _ _ h => os rfl ((yl_move rfl (h.old 1 _ rfl rfl) kI))
    ·exact fun _ _ h => os rfl ((yl_move rfl (h.old 5 _ rfl rfl) kI))
    ·intro L57 w58 hi59
     have hE60 := hi59.ex
     have hE60z := Ex.size hE60
     exact os rfl ((yl_indexAddrN Tryd.un34 Tryd.ty74 rfl (hi59.dt 4 21 rfl rfl rfl) (hi59.dt 5 22 rfl rfl rfl) eA23 (by first | omega | assumption | (simp only [IntKind.wrap_i64] at *; omega)) kI))
    ·exact fun _ _ h => os rfl ((yl_loadN (cs := [.string (bs ((p_b.getD k4 d_Idx).Name)), .int .i64 ((p_b.getD k4 d_Idx).Col), .int .i64 ((p_b.getD k4 d_Idx).Stage)]) Tryd.ty74 rfl (h.dt 6 23 rfl rfl rfl) (Cells.ex eC23 h.ex) rfl kI))
    ·intro L69 w70 hi71
     refine OpR.op' rfl (yl_call Tryd.en55 rfl (opvs_cons (hi71.dt 3 20 rfl rfl rfl) (opvs_cons (hi71.dt 7 24 rfl rfl rfl) opvs_nil)) (Cal.mono (c_l_eqIdx (p_a.getD k4 d_Idx) (p_b.getD k4 d_Idx)) ?_))
     rintro v76 w75 ⟨rfl, hE77⟩
     exact ⟨rfl, hE77⟩
    ·exact fun _ _ h => os rfl ((yl_not rfl (h.dt 8 25 rfl rfl rfl) kI))
    ·intro fl86 fh87 L83 w84 hp85
     have hE88 := hp85.ex
     have hE88z := Ex.size hE88
     refine SeqR.done (tn (CW.sub (Sub.cons (d := 0) (hp85.old 0 _ rfl rfl) (Sub.cons (d := 1) (hp85.old 1 _ rfl rfl) (Sub.cons (d := 5) (hp85.old 5 _ rfl rfl) (Sub.cons (d := 26) (hp85.nt 9 26 rfl rfl rfl) (Sub.nil _))))) (bcase (l_eqIdx (p_a.getD k4 d_Idx) (p_b.getD k4 d_Idx)) (fun hb93 => ?_) (fun hb93 => ?_))))
     ·refine CW.cond_f rfl (not_t hb93) (CW.skip (bn (tn (CW.region (sd rfl (yl_move rfl rfl (sd rfl (yl_inc rfl rfl rfl (by omega) (sd rfl (yl_assign rfl rfl (SeqR.done ?_)))))))))))
      refine tn ?_
      have hB94 : B_l_eqIdxS_0 p_a p_b k4 () = .cont () := by simp only [B_l_eqIdxS_0, hb3, hb93, cond_true, cond_false, loopE_done, loopE_ret]
      exact ⟨p_a.length - (k4 + 1), by omega, k4 + 1, rfl, hlt21, (by omega), rfl, rfl, rfl, (RdS.ex good_Idx hf17 hE88), (RdS.ex good_Idx hf18 hE88), (Ex.trans hf19 hE88), (loopM.cont hlt21 hB94).symm.trans hI12⟩
     ·refine CW.cond_t rfl (not_f hb93) (CW.seq (CW.region (sd rfl (yl_assign rfl rfl (SeqR.done (tn (CW.ret (br (tr ?_)))))))))
      refine tr ?_
      have hB99 : B_l_eqIdxS_0 p_a p_b k4 () = .ret false := by simp only [B_l_eqIdxS_0, hb3, hb93, cond_true, cond_false, loopE_done, loopE_ret]
      have hL98 : loopM (B_l_eqIdxS_0 p_a p_b) (p_a.length - 0) 0 () = .ret false := hI12.symm.trans (loopM.ret hlt21 hB99)
      refine br (tr (rr rfl (.cons rfl .nil) ?_))
      have hM100 : (l_eqIdxS p_a p_b) = (false) := by simp only [l_eqIdxS, hb3, hb93, hL98, cond_true, cond_false, loopE_done, loopE_ret]
      rw [hM100]
      exact ⟨rfl, (Ex.trans hf19 hE88)⟩
   ·refine CW.seq (CW.seq (CW.region (sd rfl (yl_move rfl rfl (sd rfl (yl_move rfl rfl (sd rfl (yl_len Tryd.un34 rfl rfl (sd rfl (yl_lss rfl rfl rfl (SeqR.done (tn ?_))))))))))))
    refine CW.cond_f rfl (lt_f hlt21) (CW.exit (tx (tx ?_)))
    have hL102 : loopM (B_l_eqIdxS_0 p_a p_b) (p_a.length - 0) 0 () = .done () := hI12.symm.trans (loopM.stop hlt21)
    refine bx (tn (CW.seq (CW.region (sd rfl (yl_assign rfl rfl (SeqR.done (tn (CW.ret (rr rfl (.cons rfl .nil) ?_)))))))))
    have hM103 : (l_eqIdxS p_a p_b) = (true) := by simp only [l_eqIdxS, hb3, hL102, cond_true, cond_false, loopE_done, loopE_ret]
    rw [hM103]
    exact ⟨rfl, hf19⟩
 ·have hb3p := dec_f hb3
  refine CW.cond_t rfl (not_f hb3) (CW.seq (CW.region (sd rfl (yl_assign rfl rfl (SeqR.done (tn (CW.ret (tr (rr rfl (.cons rfl .nil) ?_)))))))))
  have hM104 : (l_eqIdxS p_a p_b) = (false) := by simp only [l_eqIdxS, hb3, cond_true, cond_false, loopE_done, loopE_ret]
  rw [hM104]
  exact ⟨rfl, (Ex.refl w)⟩
set_option maxRecDepth 100000 in
set_option maxHeartbeats 2000000 in
theorem c_l_eqTable {A1 : Option Addr} {c1 : Nat} {A2 : Option Addr} {c2 : Nat} {A3 : Option Addr} {c3 : Nat} {A4 : Option Addr} {c4 : Nat} {w : World} (p_a : DTable) (p_b : DTable) (h1 : RdS w (Iv 0 w.heap.size) (RF e_Str) 1 A1 p_a.Cols.length c1 p_a.Cols) (h2 : RdS w (Iv 0 w.heap.size) (RF e_Idx) 3 A2 p_a.Idxs.length c2 p_a.Idxs) (h3 : RdS w (Iv 0 w.heap.size) (RF e_Str) 1 A3 p_b.Cols.length c3 p_b.Cols) (h4 : RdS w (Iv 0 w.heap.size) (RF e_Idx) 3 A4 p_b.Idxs.length c4 p_b.Idxs) : Cal Tryd.prog 12 #[.agg #[.string (bs (p_a.Name)), .slice A1 p_a.Cols.length c1, .slice A2 p_a.Idxs.length c2], .agg #[.string (bs (p_b.Name)), .slice A3 p_b.Cols.length c3, .slice A4 p_b.Idxs.length c4]] w fun v w' => v = .bool ((l_eqTable p_a p_b)) ∧ Ex w w' := by
 refine Cal.of (vs := [.agg #[.string (bs (p_a.Name)), .slice A1 p_a.Cols.length c1, .slice A2 p_a.Idxs.length c2], .agg #[.string (bs (p_b.Name)), .slice A3 p_b.Cols.length c3, .slice A4 p_b.Idxs.length c4]]) Tryd.func12 rfl Tryd.ntmps12 rfl (CW.seq (CW.region (sd rfl (yl_box (cs := [.string (bs (p_a.Name)), .slice A1 p_a.Cols.length c1, .slice A2 p_a.Idxs.length c2]) rfl rfl rfl ?_))))
 intro b5 w6 hs7 hz8 hB9 hE10
 refine sd rfl (yl_box (cs := [.string (bs (p_b.Name)), .slice A3 p_b.Cols.length c3, .slice A4 p_b.Idxs.length c4]) rfl rfl rfl ?_)
 intro b11 w12 hs13 hz14 hB15 hE16
 refine sd rfl (yl_assign rfl rfl (SeqR.done (tn (CW.seq (CW.seq (CW.region (sd rfl (yl_fieldAddr Tryd.fd36_0 rfl rfl ?_))))))))
 have q17 := Box.ex hB9 hE16
 refine sd rfl (yl_load1 Tryd.ty9 rfl rfl ((q17.cell 0).trans rfl) (sd rfl (yl_fieldAddr Tryd.fd36_0 rfl rfl (sd rfl (yl_load1 Tryd.ty9 rfl rfl ((hB15.cell 0).trans rfl) (sd rfl (yl_sneq (a := p_a.Name) (b := p_b.Name) rfl rfl rfl (SeqR.done (tn (bcase (p_a.Name == p_b.Name) (fun hb18 => ?_) (fun hb18 => ?_)))))))))))
 ·refine CW.cond_f rfl (not_t hb18) (CW.skip (tn (CW.seq (CW.seq (CW.region (sd rfl (yl_fieldAddr Tryd.fd36_1 rfl rfl (sd rfl (yl_load1 Tryd.ty22 rfl rfl ((q17.cell 1).trans rfl) (sd rfl (yl_fieldAddr Tryd.fd36_1 rfl rfl ?_)))))))))))
  refine sd rfl (yl_load1 Tryd.ty22 rfl rfl ((hB15.cell 1).trans rfl) (sd rfl (yl_call Tryd.en29 rfl (opvs_cons rfl (opvs_cons rfl opvs_nil)) (Cal.mono (c_l_eqStringS p_a.Cols p_b.Cols (RdS.up (RdS.ex good_Str (RdS.ex good_Str h1 hE10) hE16) good_Str) (RdS.up (RdS.ex good_Str (RdS.ex good_Str h3 hE10) hE16) good_Str)) ?_))))
  rintro v24 w23 ⟨rfl, hE25⟩
  have hE25z := Ex.size hE25
  refine sd rfl (yl_not rfl rfl (SeqR.done (tn (bcase (l_eqStringS p_a.Cols p_b.Cols) (fun hb26 => ?_) (fun hb26 => ?_)))))
  ·refine CW.cond_f rfl (not_t hb26) (CW.skip (tn (CW.seq (CW.seq (CW.region (sd rfl (yl_fieldAddr Tryd.fd36_2 rfl rfl (sd rfl (yl_load1 Tryd.ty34 rfl rfl (((Box.ex q17 hE25).cell 2).trans rfl) (sd rfl (yl_fieldAddr Tryd.fd36_2 rfl rfl ?_)))))))))))
   refine sd rfl (yl_load1 Tryd.ty34 rfl rfl (((Box.ex hB15 hE25).cell 2).trans rfl) (sd rfl (yl_call Tryd.en30 rfl (opvs_cons rfl (opvs_cons rfl opvs_nil)) (Cal.mono (c_l_eqIdxS p_a.Idxs p_b.Idxs (RdS.up (RdS.ex good_Idx (RdS.ex good_Idx (RdS.ex good_Idx h2 hE10) hE16) hE25) good_Idx) (RdS.up (RdS.ex good_Idx (RdS.ex good_Idx (RdS.ex good_Idx h4 hE10) hE16) hE25) good_Idx)) ?_))))
   rintro v36 w35 ⟨rfl, hE37⟩
   have hE37z := Ex.size hE37
   refine sd rfl (yl_not rfl rfl (SeqR.done (tn (bcase (l_eqIdxS p_a.Idxs p_b.Idxs) (fun hb38 => ?_) (fun hb38 => ?_)))))
   ·refine CW.cond_f rfl (not_t hb38) (CW.skip (tn (CW.seq (CW.region (sd rfl (yl_assign rfl rfl (SeqR.done (tn (CW.ret ?_)))))))))
    refine rr rfl (.cons rfl .nil) ?_
    have hM39 : (l_eqTable p_a p_b) = (true) := by simp only [l_eqTable, hb18, hb26, hb38, cond_true, cond_false, loopE_done, loopE_ret]
    rw [hM39]
    exact ⟨rfl, (Ex.trans (Ex.trans (Ex.trans (Ex.trans (Ex.refl w) hE10) hE16) hE25) hE37)⟩
   ·refine CW.cond_t rfl (not_f hb38) (CW.seq (CW.region (sd rfl (yl_assign rfl rfl (SeqR.done (tn (CW.ret (tr (rr rfl (.cons rfl .nil) ?_)))))))))
    have hM44 : (l_eqTable p_a p_b) = (false) := by simp only [l_eqTable, hb18, hb26, hb38, cond_true, cond_false, loopE_done, loopE_ret]
    rw [hM44]
    exact ⟨rfl, (Ex.trans (Ex.trans (Ex.trans (Ex.trans (Ex.refl w) hE10) hE16) hE25) hE37)⟩
  ·refine CW.cond_t rfl (not_f hb26) (CW.seq (CW.region (sd rfl (yl_assign rfl rfl (SeqR.done (tn (CW.ret (tr (rr rfl (.cons rfl .nil) ?_)))))))))
   have hM49 : (l_eqTable p_a p_b) = (false) := by simp only [l_eqTable, hb18, hb26, cond_true, cond_false, loopE_done, loopE_ret]
   rw [hM49]
   exact ⟨rfl, (Ex.trans (Ex.trans (Ex.trans (Ex.refl w) hE10) hE16) hE25)⟩
 ·refine CW.cond_t rfl (not_f hb18) (CW.seq (CW.region (sd rfl (yl_assign rfl rfl (SeqR.done (tn (CW.ret (tr (rr rfl (.cons rfl .nil) ?_)))))))))
  have hM53 : (l_eqTable p_a p_b) = (false) := by simp only [l_eqTable, hb18, cond_true, cond_false, loopE_done, loopE_ret]
  rw [hM53]
  exact ⟨rfl, (Ex.trans (Ex.trans (Ex.refl w) hE10) hE16)⟩
set_option maxRecDepth 100000 in
set_option maxHeartbeats 2000000 in
theorem c_l_markText {w : World} (p_k : Int) (pre0 : p_k ≤ 9223372036854775807) : Cal Tryd.prog 56 #[.int .i64 (p_k)] w fun v w' => v = .string (bs ((l_markText p_k))) ∧ Ex w w' := by
 refine Cal.of (vs := [.int .i64 (p_k)]) Tryd.func56 rfl Tryd.ntmps56 rfl (CW.seq (CW.region (sd rfl (yl_assign rfl rfl (SeqR.done (tn (CW.seq (CW.seq (CW.region ?_)))))))))
 refine sd rfl (yl_move rfl rfl (sd rfl (yl_leq rfl rfl rfl (SeqR.done (tn (bcase (decide (p_k ≤ 0)) (fun hb1 => ?_) (fun hb1 => ?_)))))))
 ·have hb1p := dec_t hb1
  refine CW.cond_t rfl hb1 (CW.seq (CW.region (sd rfl (yl_assign rfl rfl (SeqR.done (tn (CW.ret (tr (rr rfl (.cons rfl .nil) ?_)))))))))
  have hM2 : (l_markText p_k) = (([109, 48] : Str)) := by simp only [l_markText, hb1, cond_true, cond_false, loopE_done, loopE_ret]
  rw [hM2]
  exact ⟨rfl, (Ex.refl w)⟩
 ·have hb1p := dec_f hb1
  refine CW.cond_f rfl hb1 (CW.skip (tn (CW.seq (CW.region (sd rfl (yl_assign rfl rfl (SeqR.done (tn (CW.seq ?_)))))))))
  refine CW.block (CW.loop (fun m18 L19 w20 => ∃ (x16 : Int) (x17 : Str), (((x16).toNat + 1) / 2) < m18 ∧ w.heap.size ≤ w20.heap.size ∧ lkp L19 0 = some (.int .i64 (x16)) ∧ lkp L19 3 = some (.string (bs (x17))) ∧ Ex w w20 ∧ x17.length + 1 * (((x16).toNat + 1) / 2) ≤ 0 + 1 * (((p_k).toNat + 1) / 2) ∧ x16 ≤ 9223372036854775807 ∧ loopW (B_l_markText_0 p_k) m18 (x16, x17) = loopW (B_l_markText_0 p_k) ((((p_k).toNat + 1) / 2) + 1) (p_k, ([] : Str))) ((((p_k).toNat + 1) / 2) + 1) ?_ ?_)
  ·exact ⟨p_k, ([] : Str), Nat.lt_succ_self _, Nat.le_refl _, rfl, rfl, (Ex.refl w), (by first | (simp; done) | (first | omega | (simp only [List.length_append, List.length_cons, List.length_nil, List.length_set, toS_length]; omega))), (by first | omega | assumption | (simp only [IntKind.wrap_i64] at *; omega)), rfl⟩
  ·rintro m21 L22 w23 ⟨x16, x17, hk24, hsz26, hl27, hl28, hf29, hln30, hv31, hI25⟩
   refine CW.sub (Sub.cons hl27 (Sub.cons hl28 (Sub.nil _))) ?_
   have hf29z := Ex.size hf29
   refine CW.seq (CW.seq (CW.region (sd rfl (yl_move rfl rfl (sd rfl (yl_gtr rfl rfl rfl (SeqR.done (tn (bcase (decide (0 < x16)) (fun hb32 => ?_) (fun hb32 => ?_))))))))))
   ·have hb32p := dec_t hb32
    refine CW.cond_t rfl hb32 (CW.skip (tn (CW.block (CW.seq (CW.region (sd rfl (yl_move rfl rfl (sd rfl (yl_rem rfl rfl rfl (by decide) (sd rfl (yl_add rfl rfl rfl ?_)))))))))))
    refine sd rfl (yl_conv Tryd.un3 Tryd.un5 rfl rfl (sd rfl (yl_buildSlice (cs := [.int .u8 (IntKind.wrap .u8 (IntKind.wrap .i64 (48 + (Int.tmod x16 10))))]) Tryd.un97 Tryd.ty5 (by decide) rfl (opvs_cons rfl opvs_nil) (by kernel_rfl) ?_)))
    intro b33 w34 hs35 hz36 hB37 hE38
    have hO39 : OwnL w34 b33 (b33 + 1) 5 1 (RF e_U8) (some ⟨b33, 0, none⟩) 1 1 ([IntKind.wrap .u8 (IntKind.wrap .i64 (48 + (Int.tmod x16 10)))] : List Int) := OwnL.of_box (S := fun _ => False) hB37 (Nat.le_refl _) (Nat.lt_succ_self _) (EncL.cons (c := [.int .u8 (IntKind.wrap .u8 (IntKind.wrap .i64 (48 + (Int.tmod x16 10))))]) rfl rfl EncL.nil) (Nat.le_of_ble_eq_true rfl) (fun h => h) (fun _ h => False.elim h)
    refine sd rfl (yl_toS Tryd.un97 Tryd.un5 Tryd.un9 rfl rfl (OwnL.rd good_U8 hO39) (sd rfl (yl_move rfl rfl ?_)))
    have hol41 : (toS ([IntKind.wrap .u8 (IntKind.wrap .i64 (48 + (Int.tmod x16 10)))] : List Int)).length ≤ 1073741824 := (okS_toS (Nat.le_of_ble_eq_true rfl))
    refine sd rfl (yl_sadd (a := (toS ([IntKind.wrap .u8 (IntKind.wrap .i64 (48 + (Int.tmod x16 10)))] : List Int))) (b := x17) rfl rfl rfl (by first | omega | (simp only [List.length_append, List.length_cons, List.length_nil, List.length_take, List.length_drop, toS_length]; omega)) (sd rfl (yl_assign rfl rfl (SeqR.done (tn (CW.region (sd rfl (yl_move rfl rfl (sd rfl (yl_quo rfl rfl rfl (by decide) (sd rfl (yl_assign rfl rfl (SeqR.done ?_)))))))))))))
    refine bn (tn ?_)
    have hB42 : B_l_markText_0 p_k (x16, x17) = .cont (IntKind.wrap .i64 (Int.tdiv x16 10), (toS ([IntKind.wrap .u8 (IntKind.wrap .i64 (48 + (Int.tmod x16 10)))] : List Int)) ++ x17) := by simp only [B_l_markText_0, hb1, hb32, cond_true, cond_false, loopE_done, loopE_ret]
    have hmu44 : (((IntKind.wrap .i64 (Int.tdiv x16 10)).toNat + 1) / 2) < (((x16).toNat + 1) / 2) := by (have hq := wtd (n := x16) (c := 10) (by decide) (by omega) (by omega); omega)
    exact ⟨m21 - 1, by omega, IntKind.wrap .i64 (Int.tdiv x16 10), (toS ([IntKind.wrap .u8 (IntKind.wrap .i64 (48 + (Int.tmod x16 10)))] : List Int)) ++ x17, (by omega), (by omega), rfl, rfl, (Ex.trans hf29 hE38), (by first | omega | (simp only [List.length_append, List.length_cons, List.length_nil, List.length_set, toS_length]; omega)), (by (have hq := wtd (n := x16) (c := 10) (by decide) (by omega) (by omega); omega)), (loopW.cont hk24 hB42).symm.trans hI25⟩
   ·have hb32p := dec_f hb32
    refine CW.cond_f rfl hb32 (CW.exit (tx (tx ?_)))
    have hB46 : B_l_markText_0 p_k (x16, x17) = .brk (x16, x17) := by simp only [B_l_markText_0, hb1, hb32, cond_true, cond_false, loopE_done, loopE_ret]
    have hL45 : loopW (B_l_markText_0 p_k) ((((p_k).toNat + 1) / 2) + 1) (p_k, ([] : Str)) = .done (x16, x17) := hI25.symm.trans (loopW.brk hk24 hB46)
    refine bx (tn (CW.seq (CW.region (sd rfl (yl_move rfl rfl (sd rfl (yl_sadd (a := ([109] : Str)) (b := x17) rfl rfl rfl (by first | omega | (simp only [List.length_append, List.length_cons, List.length_nil, List.length_take, List.length_drop, toS_length]; omega)) (sd rfl (yl_assign rfl rfl (SeqR.done (tn ?_)))))))))))
    refine CW.ret (rr rfl (.cons rfl .nil) ?_)
    have hM47 : (l_markText p_k) = (([109] : Str) ++ x17) := by simp only [l_markText, hb1, hb32, hL45, cond_true, cond_false, loopE_done, loopE_ret]
    rw [hM47]
    exact ⟨rfl, hf29⟩
set_option maxRecDepth 100000 in
set_option maxHeartbeats 2000000 in
theorem c_l_markStringS {A1 : Option Addr} {c1 : Nat} {lo1 hi1 : Nat} {w : World} (p_a : List Str) (p_k : Int) (h1 : OwnL w lo1 hi1 9 1 (RF e_Str) A1 p_a.length c1 p_a) (hrn2 : (0 ≤ lo1 ∧ lo1 ≤ hi1 ∧ hi1 ≤ w.heap.size)) (pre0 : p_k ≤ 9223372036854775807) : Cal Tryd.prog 31 #[.slice A1 p_a.length c1, .int .i64 (p_k)] w fun v w' => v = .int .i64 ((l_markStringS p_a p_k).1) ∧ OwnL w' lo1 hi1 9 1 (RF e_Str) A1 p_a.length c1 ((l_markStringS p_a p_k).2) ∧ Mut [(lo1, hi1)] w w' := by
 refine Cal.of (vs := [.slice A1 p_a.length c1, .int .i64 (p_k)]) Tryd.func31 rfl Tryd.ntmps31 rfl (CW.seq (CW.region (sd rfl (yl_assign rfl rfl (SeqR.done (tn (CW.seq (CW.seq (CW.region ?_)))))))))
 refine sd rfl (yl_assign rfl rfl (SeqR.done (tn (CW.block (CW.loop (fun m16 L17 w18 => ∃ (k3 : Nat) (x14 : Int) (x15 : List Str), m16 = p_a.length - k3 ∧ k3 ≤ p_a.length ∧ w.heap.size ≤ w18.heap.size ∧ lkp L17 0 = some (.slice A1 p_a.length c1) ∧ lkp L17 1 = some (.int .i64 (x14)) ∧ lkp L17 5 = some (.int .i64 ((k3 : Int))) ∧ OwnL w18 lo1 hi1 9 1 (RF e_Str) A1 p_a.length c1 x15 ∧ Mut [(lo1, hi1)] w w18 ∧ x14 ≤ 9223372036854775807 ∧ loopM (B_l_markStringS_0 p_a p_k) (p_a.length - k3) k3 (x14, x15) = loopM (B_l_markStringS_0 p_a p_k) (p_a.length - 0) 0 (p_k, p_a)) (p_a.length - 0) ?_ ?_)))))
 ·exact ⟨0, p_k, p_a, rfl, (by omega), Nat.le_refl _, rfl, rfl, rfl, h1, (Mut.refl (l := [(lo1, hi1)]) w), (by first | omega | assumption | (simp only [IntKind.wrap_i64] at *; omega)), rfl⟩
 ·rintro m19 L20 w21 ⟨k3, x14, x15, rfl, hk22, hsz24, hl25, hl26, hl27, hf28, hf29, hv30, hI23⟩
  refine CW.sub (Sub.cons hl25 (Sub.cons hl26 (Sub.cons hl27 (Sub.nil _)))) ?_
  have hf29z := Mut.size hf29
  have hbg31 := RdS.big (OwnL.rd good_Str hf28)
  rcases Nat.lt_or_ge k3 p_a.length with hlt33 | hlt33
  ·refine CW.seq (CW.seq (CW.region (sd rfl (yl_move rfl rfl (sd rfl (yl_move rfl rfl (sd rfl (yl_len Tryd.un22 rfl rfl (sd rfl (yl_lss rfl rfl rfl (SeqR.done (tn ?_))))))))))))
   refine CW.cond_t rfl (lt_t hlt33) (CW.skip (tn (CW.seq (CW.block (CW.seq (CW.region (sd rfl (yl_move rfl rfl (sd rfl (yl_move rfl rfl ?_))))))))))
   refine sd rfl (yl_move rfl rfl (sd rfl (yl_call Tryd.en56 rfl (opvs_cons rfl opvs_nil) (Cal.mono (c_l_markText x14 (by first | omega | assumption | (simp only [IntKind.wrap_i64] at *; omega))) ?_))))
   rintro v35 w34 ⟨rfl, hE36⟩
   have hE36z := Ex.size hE36
   have q38 := OwnL.ex good_Str hf28 hE36
   obtain ⟨eb39, eo39, ec39, eA39, eS39, ebl39, el39, eR39, eC39⟩ := RdS.atD (OwnL.rd good_Str q38) d_Str (i := k3) (by first | omega | assumption)
   obtain rfl := eR39
   have eC39 : Cells w34 eb39 (eo39 + k3 * 1) [.string (bs ((x15.getD k3 d_Str)))] := eC39
   refine sd rfl (yl_indexAddrN Tryd.un22 Tryd.ty9 rfl rfl rfl eA39 (by first | omega | assumption | (simp only [IntKind.wrap_i64] at *; omega)) ?_)
   have hrg40 := OwnL.rng q38 (i := k3) (by first | omega | assumption | (simp only [IntKind.wrap_i64] at *; omega)) eb39 (by rw [eA39]; rfl)
   refine SeqR.u rfl rfl (yl_storeF (off := eo39) (i := k3) (d := 0) (dx := d_Str) (x' := (l_markText x14)) (vs := [.string (bs ((l_markText x14)))]) Tryd.ty9 rfl q38 eA39 rfl rfl rfl rfl rfl (by first | omega | assumption | (simp only [IntKind.wrap_i64] at *; omega)) (Nat.le_of_ble_eq_true rfl) rfl rfl ?_)
   intro w41 hB42 hO43
   have hO43z := hO43.size
   refine SeqR.done (tn (CW.region (sd rfl (yl_move rfl rfl (sd rfl (yl_add rfl rfl rfl (sd rfl (yl_assign rfl rfl (SeqR.done (bn (tn ?_)))))))))))
   refine CW.region (sd rfl (yl_move rfl rfl (sd rfl (yl_inc rfl rfl rfl (by omega) (sd rfl (yl_assign rfl rfl (SeqR.done (tn ?_))))))))
   have hB44 : B_l_markStringS_0 p_a p_k k3 (x14, x15) = .cont (IntKind.wrap .i64 (x14 + 1), (x15.set k3 (l_markText x14))) := by simp only [B_l_markStringS_0, cond_true, cond_false, loopE_done, loopE_ret]
   exact ⟨p_a.length - (k3 + 1), by omega, k3 + 1, IntKind.wrap .i64 (x14 + 1), (x15.set k3 (l_markText x14)), rfl, hlt33, (by omega), rfl, rfl, rfl, hB42, (Mut.only (Mut.ex hf29 hE36) hO43 (by simp only [InR, or_false]; omega)), (by first | omega | assumption | (simp only [IntKind.wrap_i64] at *; omega)), (loopM.cont hlt33 hB44).symm.trans hI23⟩
  ·refine CW.seq (CW.seq (CW.region (sd rfl (yl_move rfl rfl (sd rfl (yl_move rfl rfl (sd rfl (yl_len Tryd.un22 rfl rfl (sd rfl (yl_lss rfl rfl rfl (SeqR.done (tn ?_))))))))))))
   refine CW.cond_f rfl (lt_f hlt33) (CW.exit (tx (tx ?_)))
   have hL47 : loopM (B_l_markStringS_0 p_a p_k) (p_a.length - 0) 0 (p_k, p_a) = .done (x14, x15) := hI23.symm.trans (loopM.stop hlt33)
   refine bx (tn (CW.seq (CW.region (sd rfl (yl_move rfl rfl (sd rfl (yl_assign rfl rfl (SeqR.done (tn (CW.ret ?_))))))))))
   refine rr rfl (.cons rfl .nil) ?_
   have hM48 : (l_markStringS p_a p_k) = ((x14, x15)) := by simp only [l_markStringS, hL47, cond_true, cond_false, loopE_done, loopE_ret]
   rw [hM48]
   exact ⟨rfl, hf28, hf29⟩
set_option maxRecDepth 100000 in
set_option maxHeartbeats 2000000 in
theorem c_l_markIdxS {A1 : Option Addr} {c1 : Nat} {lo1 hi1 : Nat} {w : World} (p_a : List DIdx) (p_k : Int) (h1 : OwnL w lo1 hi1 74 3 (RF e_Idx) A1 p_a.length c1 p_a) (hrn2 : (0 ≤ lo1 ∧ lo1 ≤ hi1 ∧ hi1 ≤ w.heap.size)) (pre0 : p_k ≤ 9223372036854775807) : Cal Tryd.prog 32 #[.slice A1 p_a.length c1, .int .i64 (p_k)] w fun v w' => v = .int .i64 ((l_markIdxS p_a p_k).1) ∧ OwnL w' lo1 hi1 74 3 (RF e_Idx) A1 p_a.length c1 ((l_markIdxS p_a p_k).2) ∧ Mut [(lo1, hi1)] w w' := by
 refine Cal.of (vs := [.slice A1 p_a.length c1, .int .i64 (p_k)]) Tryd.func32 rfl Tryd.ntmps32 rfl (CW.seq (CW.region (sd rfl (yl_assign rfl rfl (SeqR.done (tn (CW.seq (CW.seq (CW.region ?_)))))))))
 refine sd rfl (yl_assign rfl rfl (SeqR.done (tn (CW.block (CW.loop (fun m28 L29 w30 => ∃ (k3 : Nat) (x26 : Int) (x27 : List DIdx), m28 = p_a.length - k3 ∧ k3 ≤ p_a.length ∧ w.heap.size ≤ w30.heap.size ∧ lkp L29 0 = some (.slice A1 p_a.length c1) ∧ lkp L29 1 = some (.int .i64 (x26)) ∧ lkp L29 5 = some (.int .i64 ((k3 : Int))) ∧ OwnL w30 lo1 hi1 74 3 (RF e_Idx) A1 p_a.length c1 x27 ∧ Mut [(lo1, hi1)] w w30 ∧ x26 ≤ 9223372036854775807 ∧ loopM (B_l_markIdxS_0 p_a p_k) (p_a.length - k3) k3 (x26, x27) = loopM (B_l_markIdxS_0 p_a p_k) (p_a.length - 0) 0 (p_k, p_a)) (p_a.length - 0) ?_ ?_)))))
 ·exact ⟨0, p_k, p_a, rfl, (by omega), Nat.le_refl _, rfl, rfl, rfl, h1, (Mut.refl (l := [(lo1, hi1)]) w), (by first | omega | assumption | (simp only [IntKind.wrap_i64] at *; omega)), rfl⟩
 ·rintro m31 L32 w33 ⟨k3, x26, x27, rfl, hk34, hsz36, hl37, hl38, hl39, hf40, hf41, hv42, hI35⟩
  refine CW.sub (Sub.cons hl37 (Sub.cons hl38 (Sub.cons hl39 (Sub.nil _)))) ?_
  have hf41z := Mut.size hf41
  have hbg43 := RdS.big (OwnL.rd good_Idx hf40)
  rcases Nat.lt_or_ge k3 p_a.length with hlt45 | hlt45
  ·refine CW.seq (CW.seq (CW.region (sd rfl (yl_move rfl rfl (sd rfl (yl_move rfl rfl (sd rfl (yl_len Tryd.un34 rfl rfl (sd rfl (yl_lss rfl rfl rfl (SeqR.done (tn ?_))))))))))))
   refine CW.cond_t rfl (lt_t hlt45) (CW.skip (tn (CW.seq (CW.block (CW.seq (CW.region (sd rfl (yl_move rfl rfl (sd rfl (yl_move rfl rfl ?_))))))))))
   refine sd rfl (yl_move rfl rfl (sd rfl (yl_call Tryd.en56 rfl (opvs_cons rfl opvs_nil) (Cal.mono (c_l_markText x26 (by first | omega | assumption | (simp only [IntKind.wrap_i64] at *; omega))) ?_))))
   rintro v47 w46 ⟨rfl, hE48⟩
   have hE48z := Ex.size hE48
   have q50 := OwnL.ex good_Idx hf40 hE48
   obtain ⟨eb51, eo51, ec51, eA51, eS51, ebl51, el51, eR51, eC51⟩ := RdS.atD (OwnL.rd good_Idx q50) d_Idx (i := k3) (by first | omega | assumption)
   obtain rfl := eR51
   have eC51 : Cells w46 eb51 (eo51 + k3 * 3) [.string (bs ((x27.getD k3 d_Idx).Name)), .int .i64 ((x27.getD k3 d_Idx).Col), .int .i64 ((x27.getD k3 d_Idx).Stage)] := eC51
   refine sd rfl (yl_indexAddrN Tryd.un34 Tryd.ty74 rfl rfl rfl eA51 (by first | omega | assumption | (simp only [IntKind.wrap_i64] at *; omega)) (sd rfl (yl_fieldAddr Tryd.fd74_0 rfl rfl ?_)))
   have hrg52 := OwnL.rng q50 (i := k3) (by first | omega | assumption | (simp only [IntKind.wrap_i64] at *; omega)) eb51 (by rw [eA51]; rfl)
   refine SeqR.u rfl rfl (yl_storeF (off := eo51) (i := k3) (d := 0) (dx := d_Idx) (x' := (⟨(l_markText x26), (x27.getD k3 d_Idx).Col, (x27.getD k3 d_Idx).Stage⟩ : DIdx)) (vs := [.string (bs ((l_markText x26)))]) Tryd.ty9 rfl q50 eA51 rfl rfl rfl rfl rfl (by first | omega | assumption | (simp only [IntKind.wrap_i64] at *; omega)) (Nat.le_of_ble_eq_true rfl) rfl rfl ?_)
   intro w53 hB54 hO55
   have hO55z := hO55.size
   refine SeqR.done (tn (CW.seq (CW.region (sd rfl (yl_move rfl rfl (sd rfl (yl_add rfl rfl rfl (sd rfl (yl_assign rfl rfl (SeqR.done (tn ?_)))))))))))
   refine CW.seq (CW.region (sd rfl (yl_move rfl rfl (sd rfl (yl_move rfl rfl (sd rfl (yl_move rfl rfl ?_)))))))
   obtain ⟨eb57, eo57, ec57, eA57, eS57, ebl57, el57, eR57, eC57⟩ := RdS.atD (OwnL.rd good_Idx hB54) d_Idx (i := k3) (by first | omega | assumption)
   obtain rfl := eR57
   have eC57 : Cells w53 eb57 (eo57 + k3 * 3) [.string (bs (((x27.set k3 (⟨(l_markText x26), (x27.getD k3 d_Idx).Col, (x27.getD k3 d_Idx).Stage⟩ : DIdx)).getD k3 d_Idx).Name)), .int .i64 (((x27.set k3 (⟨(l_markText x26), (x27.getD k3 d_Idx).Col, (x27.getD k3 d_Idx).Stage⟩ : DIdx)).getD k3 d_Idx).Col), .int .i64 (((x27.set k3 (⟨(l_markText x26), (x27.getD k3 d_Idx).Col, (x27.getD k3 d_Idx).Stage⟩ : DIdx)).getD k3 d_Idx).Stage)] := eC57
   refine sd rfl (yl_indexAddrN Tryd.un34 Tryd.ty74 rfl rfl rfl eA57 (by first | omega | assumption | (simp only [IntKind.wrap_i64] at *; omega)) (sd rfl (yl_fieldAddr Tryd.fd74_1 rfl rfl ?_)))
   have hrg58 := OwnL.rng hB54 (i := k3) (by first | omega | assumption | (simp only [IntKind.wrap_i64] at *; omega)) eb57 (by rw [eA57]; rfl)
   refine SeqR.u rfl rfl (yl_storeF (off := eo57) (i := k3) (d := 1) (dx := d_Idx) (x' := (⟨((x27.set k3 (⟨(l_markText x26), (x27.getD k3 d_Idx).Col, (x27.getD k3 d_Idx).Stage⟩ : DIdx)).getD k3 d_Idx).Name, IntKind.wrap .i64 (x26 + 1), ((x27.set k3 (⟨(l_markText x26), (x27.getD k3 d_Idx).Col, (x27.getD k3 d_Idx).Stage⟩ : DIdx)).getD k3 d_Idx).Stage⟩ : DIdx)) (vs := [.int .i64 (IntKind.wrap .i64 (x26 + 1))]) Tryd.ty3 rfl hB54 eA57 rfl rfl rfl rfl rfl (by first | omega | assumption | (simp only [IntKind.wrap_i64] at *; omega)) (Nat.le_of_ble_eq_true rfl) rfl rfl ?_)
   intro w59 hB60 hO61
   have hO61z := hO61.size
   refine SeqR.done (tn (CW.seq (CW.region (sd rfl (yl_move rfl rfl (sd rfl (yl_add rfl rfl rfl (sd rfl (yl_assign rfl rfl (SeqR.done (tn ?_)))))))))))
   refine CW.seq (CW.region (sd rfl (yl_move rfl rfl (sd rfl (yl_move rfl rfl (sd rfl (yl_move rfl rfl ?_)))))))
   obtain ⟨eb63, eo63, ec63, eA63, eS63, ebl63, el63, eR63, eC63⟩ := RdS.atD (OwnL.rd good_Idx hB60) d_Idx (i := k3) (by first | omega | assumption)
   obtain rfl := eR63
   have eC63 : Cells w59 eb63 (eo63 + k3 * 3) [.string (bs ((((x27.set k3 (⟨(l_markText x26), (x27.getD k3 d_Idx).Col, (x27.getD k3 d_Idx).Stage⟩ : DIdx)).set k3 (⟨((x27.set k3 (⟨(l_markText x26), (x27.getD k3 d_Idx).Col, (x27.getD k3 d_Idx).Stage⟩ : DIdx)).getD k3 d_Idx).Name, IntKind.wrap .i64 (x26 + 1), ((x27.set k3 (⟨(l_markText x26), (x27.getD k3 d_Idx).Col, (x27.getD k3 d_Idx).Stage⟩ : DIdx)).getD k3 d_Idx).Stage⟩ : DIdx)).getD k3 d_Idx).Name)), .int .i64 ((((x27.set k3 (⟨(l_markText x26), (x27.getD k3 d_Idx).Col, (x27.getD k3 d_Idx).Stage⟩ : DIdx)).set k3 (⟨((x27.set k3 (⟨(l_markText x26), (x27.getD k3 d_Idx).Col, (x27.getD k3 d_Idx).Stage⟩ : DIdx)).getD k3 d_Idx).Name, IntKind.wrap .i64 (x26 + 1), ((x27.set k3 (⟨(l_markText x26), (x27.getD k3 d_Idx).Col, (x27.getD k3 d_Idx).Stage⟩ : DIdx)).getD k3 d_Idx).Stage⟩ : DIdx)).getD k3 d_Idx).Col), .int .i64 ((((x27.set k3 (⟨(l_markText x26), (x27.getD k3 d_Idx).Col, (x27.getD k3 d_Idx).Stage⟩ : DIdx)).set k3 (⟨((x27.set k3 (⟨(l_markText x26), (x27.getD k3 d_Idx).Col, (x27.getD k3 d_Idx).Stage⟩ : DIdx)).getD k3 d_Idx).Name, IntKind.wrap .i64 (x26 + 1), ((x27.set k3 (⟨(l_markText x26), (x27.getD k3 d_Idx).Col, (x27.getD k3 d_Idx).Stage⟩ : DIdx)).getD k3 d_Idx).Stage⟩ : DIdx)).getD k3 d_Idx).Stage)] := eC63
   refine sd rfl (yl_indexAddrN Tryd.un34 Tryd.ty74 rfl rfl rfl eA63 (by first | omega | assumption | (simp only [IntKind.wrap_i64] at *; omega)) (sd rfl (yl_fieldAddr Tryd.fd74_2 rfl rfl ?_)))
   have hrg64 := OwnL.rng hB60 (i := k3) (by first | omega | assumption | (simp only [IntKind.wrap_i64] at *; omega)) eb63 (by rw [eA63]; rfl)
   refine SeqR.u rfl rfl (yl_storeF (off := eo63) (i := k3) (d := 2) (dx := d_Idx) (x' := (⟨(((x27.set k3 (⟨(l_markText x26), (x27.getD k3 d_Idx).Col, (x27.getD k3 d_Idx).Stage⟩ : DIdx)).set k3 (⟨((x27.set k3 (⟨(l_markText x26), (x27.getD k3 d_Idx).Col, (x27.getD k3 d_Idx).Stage⟩ : DIdx)).getD k3 d_Idx).Name, IntKind.wrap .i64 (x26 + 1), ((x27.set k3 (⟨(l_markText x26), (x27.getD k3 d_Idx).Col, (x27.getD k3 d_Idx).Stage⟩ : DIdx)).getD k3 d_Idx).Stage⟩ : DIdx)).getD k3 d_Idx).Name, (((x27.set k3 (⟨(l_markText x26), (x27.getD k3 d_Idx).Col, (x27.getD k3 d_Idx).Stage⟩ : DIdx)).set k3 (⟨((x27.set k3 (⟨(l_markText x26), (x27.getD k3 d_Idx).Col, (x27.getD k3 d_Idx).Stage⟩ : DIdx)).getD k3 d_Idx).Name, IntKind.wrap .i64 (x26 + 1), ((x27.set k3 (⟨(l_markText x26), (x27.getD k3 d_Idx).Col, (x27.getD k3 d_Idx).Stage⟩ : DIdx)).getD k3 d_Idx).Stage⟩ : DIdx)).getD k3 d_Idx).Col, IntKind.wrap .i64 ((IntKind.wrap .i64 (x26 + 1)) + 1)⟩ : DIdx)) (vs := [.int .i64 (IntKind.wrap .i64 ((IntKind.wrap .i64 (x26 + 1)) + 1))]) Tryd.ty3 rfl hB60 eA63 rfl rfl rfl rfl rfl (by first | omega | assumption | (simp only [IntKind.wrap_i64] at *; omega)) (Nat.le_of_ble_eq_true rfl) rfl rfl ?_)
   intro w65 hB66 hO67
   have hO67z := hO67.size
   refine SeqR.done (tn (CW.region (sd rfl (yl_move rfl rfl (sd rfl (yl_add rfl rfl rfl (sd rfl (yl_assign rfl rfl (SeqR.done (bn (tn ?_)))))))))))
   refine CW.region (sd rfl (yl_move rfl rfl (sd rfl (yl_inc rfl rfl rfl (by omega) (sd rfl (yl_assign rfl rfl (SeqR.done (tn ?_))))))))
   have hB68 : B_l_markIdxS_0 p_a p_k k3 (x26, x27) = .cont (IntKind.wrap .i64 ((IntKind.wrap .i64 ((IntKind.wrap .i64 (x26 + 1)) + 1)) + 1), (((x27.set k3 (⟨(l_markText x26), (x27.getD k3 d_Idx).Col, (x27.getD k3 d_Idx).Stage⟩ : DIdx)).set k3 (⟨((x27.set k3 (⟨(l_markText x26), (x27.getD k3 d_Idx).Col, (x27.getD k3 d_Idx).Stage⟩ : DIdx)).getD k3 d_Idx).Name, IntKind.wrap .i64 (x26 + 1), ((x27.set k3 (⟨(l_markText x26), (x27.getD k3 d_Idx).Col, (x27.getD k3 d_Idx).Stage⟩ : DIdx)).getD k3 d_Idx).Stage⟩ : DIdx)).set k3 (⟨(((x27.set k3 (⟨(l_markText x26), (x27.getD k3 d_Idx).Col, (x27.getD k3 d_Idx).Stage⟩ : DIdx)).set k3 (⟨((x27.set k3 (⟨(l_markText x26), (x27.getD k3 d_Idx).Col, (x27.getD k3 d_Idx).Stage⟩ : DIdx)).getD k3 d_Idx).Name, IntKind.wrap .i64 (x26 + 1), ((x27.set k3 (⟨(l_markText x26), (x27.getD k3 d_Idx).Col, (x27.getD k3 d_Idx).Stage⟩ : DIdx)).getD k3 d_Idx).Stage⟩ : DIdx)).getD k3 d_Idx).Name, (((x27.set k3 (⟨(l_markText x26), (x27.getD k3 d_Idx).Col, (x27.getD k3 d_Idx).Stage⟩ : DIdx)).set k3 (⟨((x27.set k3 (⟨(l_markText x26), (x27.getD k3 d_Idx).Col, (x27.getD k3 d_Idx).Stage⟩ : DIdx)).getD k3 d_Idx).Name, IntKind.wrap .i64 (x26 + 1), ((x27.set k3 (⟨(l_markText x26), (x27.getD k3 d_Idx).Col, (x27.getD k3 d_Idx).Stage⟩ : DIdx)).getD k3 d_Idx).Stage⟩ : DIdx)).getD k3 d_Idx).Col, IntKind.wrap .i64 ((IntKind.wrap .i64 (x26 + 1)) + 1)⟩ : DIdx))) := by simp only [B_l_markIdxS_0, cond_true, cond_false, loopE_done, loopE_ret]
   exact ⟨p_a.length - (k3 + 1), by omega, k3 + 1, IntKind.wrap .i64 ((IntKind.wrap .i64 ((IntKind.wrap .i64 (x26 + 1)) + 1)) + 1), (((x27.set k3 (⟨(l_markText x26), (x27.getD k3 d_Idx).Col, (x27.getD k3 d_Idx).Stage⟩ : DIdx)).set k3 (⟨((x27.set k3 (⟨(l_markText x26), (x27.getD k3 d_Idx).Col, (x27.getD k3 d_Idx).Stage⟩ : DIdx)).getD k3 d_Idx).Name, IntKind.wrap .i64 (x26 + 1), ((x27.set k3 (⟨(l_markText x26), (x27.getD k3 d_Idx).Col, (x27.getD k3 d_Idx).Stage⟩ : DIdx)).getD k3 d_Idx).Stage⟩ : DIdx)).set k3 (⟨(((x27.set k3 (⟨(l_markText x26), (x27.getD k3 d_Idx).Col, (x27.getD k3 d_Idx).Stage⟩ : DIdx)).set k3 (⟨((x27.set k3 (⟨(l_markText x26), (x27.getD k3 d_Idx).Col, (x27.getD k3 d_Idx).Stage⟩ : DIdx)).getD k3 d_Idx).Name, IntKind.wrap .i64 (x26 + 1), ((x27.set k3 (⟨(l_markText x26), (x27.getD k3 d_Idx).Col, (x27.getD k3 d_Idx).Stage⟩ : DIdx)).getD k3 d_Idx).Stage⟩ : DIdx)).getD k3 d_Idx).Name, (((x27.set k3 (⟨(l_markText x26), (x27.getD k3 d_Idx).Col, (x27.getD k3 d_Idx).Stage⟩ : DIdx)).set k3 (⟨((x27.set k3 (⟨(l_markText x26), (x27.getD k3 d_Idx).Col, (x27.getD k3 d_Idx).Stage⟩ : DIdx)).getD k3 d_Idx).Name, IntKind.wrap .i64 (x26 + 1), ((x27.set k3 (⟨(l_markText x26), (x27.getD k3 d_Idx).Col, (x27.getD k3 d_Idx).Stage⟩ : DIdx)).getD k3 d_Idx).Stage⟩ : DIdx)).getD k3 d_Idx).Col, IntKind.wrap .i64 ((IntKind.wrap .i64 (x26 + 1)) + 1)⟩ : DIdx)), rfl, hlt45, (by omega), rfl, rfl, rfl, hB66, (Mut.only (Mut.only (Mut.only (Mut.ex hf41 hE48) hO55 (by simp only [InR, or_false]; omega)) hO61 (by simp only [InR, or_false]; omega)) hO67 (by simp only [InR, or_false]; omega)), (by first | omega | assumption | (simp only [IntKind.wrap_i64] at *; omega)), (loopM.cont hlt45 hB68).symm.trans hI35⟩
  ·refine CW.seq (CW.seq (CW.region (sd rfl (yl_move rfl rfl (sd rfl (yl_move rfl rfl (sd rfl (yl_len Tryd.un34 rfl rfl (sd rfl (yl_lss rfl rfl rfl (SeqR.done (tn ?_))))))))))))
   refine CW.cond_f rfl (lt_f hlt45) (CW.exit (tx (tx ?_)))
   have hL73 : loopM (B_l_markIdxS_0 p_a p_k) (p_a.length - 0) 0 (p_k, p_a) = .done (x26, x27) := hI35.symm.trans (loopM.stop hlt45)
   refine bx (tn (CW.seq (CW.region (sd rfl (yl_move rfl rfl (sd rfl (yl_assign rfl rfl (SeqR.done (tn (CW.ret ?_))))))))))
   refine rr rfl (.cons rfl .nil) ?_
   have hM74 : (l_markIdxS p_a p_k) = ((x26, x27)) := by simp only [l_markIdxS, hL73, cond_true, cond_false, loopE_done, loopE_ret]
   rw [hM74]
   exact ⟨rfl, hf40, hf41⟩
set_option maxRecDepth 100000 in
set_option maxHeartbeats 2000000 in
theorem c_l_markTable {A1 : Option Addr} {c1 : Nat} {lo1 hi1 : Nat} {A2 : Option Addr} {c2 : Nat} {lo2 hi2 : Nat} {w : World} (p_a : DTable) (p_k : Int) (h1 : OwnL w lo1 hi1 9 1 (RF e_Str) A1 p_a.Cols.length c1 p_a.Cols) (h2 : OwnL w lo2 hi2 74 3 (RF e_Idx) A2 p_a.Idxs.length c2 p_a.Idxs) (hrn3 : (0 ≤ lo1 ∧ lo1 ≤ hi1 ∧ hi1 ≤ w.heap.size)) (hrn4 : (0 ≤ lo2 ∧ lo2 ≤ hi2 ∧ hi2 ≤ w.heap.size)) (hrn5 : (hi1 ≤ lo2 ∨ hi2 ≤ lo1)) (pre0 : p_k ≤ 9223372036854775807) : Cal Tryd.prog 13 #[.agg #[.string (bs (p_a.Name)), .slice A1 p_a.Cols.length c1, .slice A2 p_a.Idxs.length c2], .int .i64 (p_k)] w fun v w' => v = .int .i64 ((l_markTable p_a p_k).1) ∧ OwnL w' lo1 hi1 9 1 (RF e_Str) A1 p_a.Cols.length c1 ((l_markTable p_a p_k).2.Cols) ∧ OwnL w' lo2 hi2 74 3 (RF e_Idx) A2 p_a.Idxs.length c2 ((l_markTable p_a p_k).2.Idxs) ∧ Mut [(lo1, hi1), (lo2, hi2)] w w' := by
 refine Cal.of (vs := [.agg #[.string (bs (p_a.Name)), .slice A1 p_a.Cols.length c1, .slice A2 p_a.Idxs.length c2], .int .i64 (p_k)]) Tryd.func13 rfl Tryd.ntmps13 rfl (CW.seq (CW.region (sd rfl (yl_box (cs := [.string (bs (p_a.Name)), .slice A1 p_a.Cols.length c1, .slice A2 p_a.Idxs.length c2]) rfl rfl rfl ?_))))
 intro b6 w7 hs8 hz9 hB10 hE11
 refine sd rfl (yl_assign rfl rfl (SeqR.done (tn (CW.seq (CW.region (sd rfl (yl_fieldAddr Tryd.fd36_1 rfl rfl (sd rfl (yl_load1 Tryd.ty22 rfl rfl ((hB10.cell 1).trans rfl) (sd rfl (yl_move rfl rfl (sd rfl (yl_call Tryd.en31 rfl (opvs_cons rfl (opvs_cons rfl opvs_nil)) (Cal.mono (c_l_markStringS p_a.Cols p_k (OwnL.ex good_Str h1 hE11) (by omega) (by first | omega | assumption | (simp only [IntKind.wrap_i64] at *; omega))) ?_))))))))))))))
 rintro v14 w13 ⟨rfl, h16, hm15⟩
 have hm15z := Mut.size hm15
 have hrf17 := rf_markStringS p_a.Cols p_k (by first | omega | assumption | (simp only [IntKind.wrap_i64] at *; omega))
 refine sd rfl (yl_assign rfl rfl (SeqR.done (tn (CW.seq (CW.region (sd rfl (yl_fieldAddr Tryd.fd36_2 rfl rfl (sd rfl (yl_load1 Tryd.ty34 rfl rfl (((Box.mut hB10 hm15 (fun k hk => by simp only [InR, or_false] at hk; omega)).cell 2).trans rfl) (sd rfl (yl_move rfl rfl (sd rfl (yl_call Tryd.en32 rfl (opvs_cons rfl (opvs_cons rfl opvs_nil)) (Cal.mono (c_l_markIdxS p_a.Idxs ((l_markStringS p_a.Cols p_k).1) (OwnL.mut good_Idx (OwnL.ex good_Idx h2 hE11) hm15 (fun k hk => by simp only [InR, or_false] at hk; omega)) (by omega) (by first | omega | assumption | (simp only [IntKind.wrap_i64] at *; omega))) ?_))))))))))))))
 rintro v22 w21 ⟨rfl, h24, hm23⟩
 have hm23z := Mut.size hm23
 have hrf25 := rf_markIdxS p_a.Idxs ((l_markStringS p_a.Cols p_k).1) (by first | omega | assumption | (simp only [IntKind.wrap_i64] at *; omega))
 refine sd rfl (yl_assign rfl rfl (SeqR.done (tn (CW.seq (CW.region (sd rfl (yl_move rfl rfl (sd rfl (yl_assign rfl rfl (SeqR.done (tn ?_)))))))))))
 refine CW.ret (rr rfl (.cons rfl .nil) ?_)
 have hM26 : (l_markTable p_a p_k) = (((l_markIdxS p_a.Idxs ((l_markStringS p_a.Cols p_k).1)).1, (⟨p_a.Name, (l_markStringS p_a.Cols p_k).2, (l_markIdxS p_a.Idxs ((l_markStringS p_a.Cols p_k).1)).2⟩ : DTable))) := by simp only [l_markTable, cond_true, cond_false, loopE_done, loopE_ret]
 rw [hM26]
 exact ⟨rfl, (OwnL.mut good_Str h16 hm23 (fun k hk => by simp only [InR, or_false] at hk; omega)), h24, (Mut.mut (Mut.mut (Mut.ex (Mut.refl (l := [(lo1, hi1), (lo2, hi2)]) w) hE11) hm15 (fun k hk => by simp only [InR, or_false] at hk ⊢; omega)) hm23 (fun k hk => by simp only [InR, or_false] at hk ⊢; omega))⟩
set_option maxRecDepth 100000 in
set_option maxHeartbeats 2000000 in
theorem c_s_l24Letters {w : World} (p_s : Str) (p_most : Int) (o1 : okS p_s) : Cal Tryd.prog 43 #[.string (bs (p_s)), .int .i64 (p_most)] w fun v w' => v = .bool ((s_l24Letters p_s p_most)) ∧ Ex w w' := by
 have hol2 : p_s.length ≤ 1073741824 := o1
 refine Cal.of (vs := [.string (bs (p_s)), .int .i64 (p_most)]) Tryd.func43 rfl Tryd.ntmps43 rfl (CW.seq (CW.region (sd rfl (yl_assign rfl rfl (SeqR.done (tn (CW.seq (CW.seq (CW.region ?_)))))))))
 refine sd rfl (yl_assign rfl rfl (SeqR.done (tn (CW.block (CW.loop (fun m4 L5 w6 => ∃ (k3 : Nat), m4 = p_s.length - k3 ∧ k3 ≤ p_s.length ∧ w.heap.size ≤ w6.heap.size ∧ lkp L5 0 = some (.string (bs (p_s))) ∧ lkp L5 1 = some (.int .i64 (p_most)) ∧ lkp L5 5 = some (.int .i64 ((k3 : Int))) ∧ Ex w w6 ∧ loopM (B_s_l24Letters_0 p_s p_most) (p_s.length - k3) k3 () = loopM (B_s_l24Letters_0 p_s p_most) (p_s.length - 0) 0 ()) (p_s.length - 0) ?_ ?_)))))
 ·exact ⟨0, rfl, (by omega), Nat.le_refl _, rfl, rfl, rfl, (Ex.refl w), rfl⟩
 ·rintro m7 L8 w9 ⟨k3, rfl, hk10, hsz12, hl13, hl14, hl15, hf16, hI11⟩
  refine CW.sub (Sub.cons hl13 (Sub.cons hl14 (Sub.cons hl15 (Sub.nil _)))) ?_
  have hf16z := Ex.size hf16
  have hbg17 : p_s.length ≤ 1073741824 := o1
  rcases Nat.lt_or_ge k3 p_s.length with hlt18 | hlt18
  ·refine CW.seq (CW.seq (CW.region (sd rfl (yl_move rfl rfl (sd rfl (yl_move rfl rfl (sd rfl (yl_slen Tryd.un9 (a := p_s) rfl rfl (sd rfl (yl_lss rfl rfl rfl (SeqR.done (tn ?_))))))))))))
   refine CW.cond_t rfl (lt_t hlt18) (CW.skip (tn (CW.seq (CW.block (CW.seq (CW.region (sd rfl (yl_move rfl rfl (sd rfl (yl_move rfl rfl ?_))))))))))
   refine sd rfl (yl_sindexN Tryd.un9 (a := p_s) rfl rfl rfl (by first | omega | assumption | (simp only [IntKind.wrap_i64] at *; omega)) (sd rfl (yl_lss rfl rfl rfl (sd rfl (yl_move rfl rfl (bcase (decide (((p_s.getD k3 0).toNat : Int) < 97)) (fun hb19 => ?_) (fun hb19 => ?_)))))))
   ·have hb19p := dec_t hb19
    refine sz rfl rfl hb19 (sz rfl rfl hb19 (sz rfl rfl hb19 (sz rfl rfl hb19 (sd rfl (yl_pick_t rfl rfl hb19 rfl (SeqR.done (tn (CW.cond_t rfl rfl (CW.seq ?_)))))))))
    refine CW.region (sd rfl (yl_assign rfl rfl (SeqR.done (tn (CW.ret (br (tr (tr ?_))))))))
    have hB21 : B_s_l24Letters_0 p_s p_most k3 () = .ret false := by simp only [B_s_l24Letters_0, hb19, cond_true, cond_false, loopE_done, loopE_ret]
    have hL20 : loopM (B_s_l24Letters_0 p_s p_most) (p_s.length - 0) 0 () = .ret false := hI11.symm.trans (loopM.ret hlt18 hB21)
    refine br (tr (rr rfl (.cons rfl .nil) ?_))
    have hM22 : (s_l24Letters p_s p_most) = (false) := by simp only [s_l24Letters, hb19, hL20, cond_true, cond_false, loopE_done, loopE_ret]
    rw [hM22]
    exact ⟨rfl, hf16⟩
   ·have hb19p := dec_f hb19
    refine sy rfl rfl hb19 (yl_move rfl rfl (sy rfl rfl hb19 (yl_move rfl rfl (sy rfl rfl hb19 (yl_sindexN Tryd.un9 (a := p_s) rfl rfl rfl (by first | omega | assumption | (simp only [IntKind.wrap_i64] at *; omega)) (sy rfl rfl hb19 (yl_gtr rfl rfl rfl (sd rfl (yl_pick_f rfl rfl hb19 rfl (SeqR.done (tn (bcase (decide (122 < ((p_s.getD k3 0).toNat : Int))) (fun hb23 => ?_) (fun hb23 => ?_)))))))))))))
    ·have hb23p := dec_t hb23
     refine CW.cond_t rfl hb23 (CW.seq (CW.region (sd rfl (yl_assign rfl rfl (SeqR.done (tn (CW.ret (br (tr ?_)))))))))
     refine tr ?_
     have hB25 : B_s_l24Letters_0 p_s p_most k3 () = .ret false := by simp only [B_s_l24Letters_0, hb19, hb23, cond_true, cond_false, loopE_done, loopE_ret]
     have hL24 : loopM (B_s_l24Letters_0 p_s p_most) (p_s.length - 0) 0 () = .ret false := hI11.symm.trans (loopM.ret hlt18 hB25)
     refine br (tr (rr rfl (.cons rfl .nil) ?_))
     have hM26 : (s_l24Letters p_s p_most) = (false) := by simp only [s_l24Letters, hb19, hb23, hL24, cond_true, cond_false, loopE_done, loopE_ret]
     rw [hM26]
     exact ⟨rfl, hf16⟩
    ·have hb23p := dec_f hb23
     refine CW.cond_f rfl hb23 (CW.skip (bn (tn (CW.region (sd rfl (yl_move rfl rfl (sd rfl (yl_inc rfl rfl rfl (by omega) (sd rfl (yl_assign rfl rfl (SeqR.done ?_)))))))))))
     refine tn ?_
     have hB27 : B_s_l24Letters_0 p_s p_most k3 () = .cont () := by simp only [B_s_l24Letters_0, hb19, hb23, cond_true, cond_false, loopE_done, loopE_ret]
     exact ⟨p_s.length - (k3 + 1), by omega, k3 + 1, rfl, hlt18, (by omega), rfl, rfl, rfl, hf16, (loopM.cont hlt18 hB27).symm.trans hI11⟩
  ·refine CW.seq (CW.seq (CW.region (sd rfl (yl_move rfl rfl (sd rfl (yl_move rfl rfl (sd rfl (yl_slen Tryd.un9 (a := p_s) rfl rfl (sd rfl (yl_lss rfl rfl rfl (SeqR.done (tn ?_))))))))))))
   refine CW.cond_f rfl (lt_f hlt18) (CW.exit (tx (tx ?_)))
   have hL28 : loopM (B_s_l24Letters_0 p_s p_most) (p_s.length - 0) 0 () = .done () := hI11.symm.trans (loopM.stop hlt18)
   refine bx (tn (CW.seq (CW.region (sd rfl (yl_move rfl rfl (sd rfl (yl_slen Tryd.un9 (a := p_s) rfl rfl (sd rfl (yl_geq rfl rfl rfl (sd rfl (yl_move rfl rfl (bcase (decide (1 ≤ (p_s.length : Int))) (fun hb29 => ?_) (fun hb29 => ?_)))))))))))))
   ·have hb29p := dec_t hb29
    refine sy rfl rfl hb29 (yl_move rfl rfl (sy rfl rfl hb29 (yl_slen Tryd.un9 (a := p_s) rfl rfl (sy rfl rfl hb29 (yl_move rfl rfl (sy rfl rfl hb29 (yl_leq rfl rfl rfl (sd rfl (yl_pick_t rfl rfl hb29 rfl (sd rfl (yl_assign rfl rfl (SeqR.done (tn (CW.ret ?_))))))))))))))
    refine rr rfl (.cons rfl .nil) ?_
    have hM30 : (s_l24Letters p_s p_most) = (decide ((p_s.length : Int) ≤ p_most)) := by simp only [s_l24Letters, hb29, hL28, cond_true, cond_false, loopE_done, loopE_ret]
    rw [hM30]
    exact ⟨rfl, hf16⟩
   ·have hb29p := dec_f hb29
    refine sz rfl rfl hb29 (sz rfl rfl hb29 (sz rfl rfl hb29 (sz rfl rfl hb29 (sd rfl (yl_pick_f rfl rfl hb29 rfl (sd rfl (yl_assign rfl rfl (SeqR.done (tn (CW.ret ?_))))))))))
    refine rr rfl (.cons rfl .nil) ?_
    have hM31 : (s_l24Letters p_s p_most) = (false) := by simp only [s_l24Letters, hb29, hL28, cond_true, cond_false, loopE_done, loopE_ret]
    rw [hM31]
    exact ⟨rfl, hf16⟩
set_option maxRecDepth 100000 in
set_option maxHeartbeats 2000000 in
theorem c_s_l1In {w : World} (p_n : Int) (p_lo : Int) (p_hi : Int) : Cal Tryd.prog 45 #[.int .i64 (p_n), .int .i64 (p_lo), .int .i64 (p_hi)] w fun v w' => v = .bool ((s_l1In p_n p_lo p_hi)) ∧ Ex w w' := by
 refine Cal.of (vs := [.int .i64 (p_n), .int .i64 (p_lo), .int .i64 (p_hi)]) Tryd.func45 rfl Tryd.ntmps45 rfl (CW.seq (CW.region (sd rfl (yl_assign rfl rfl (SeqR.done (tn (CW.seq (CW.region (sd rfl (yl_move rfl rfl ?_))))))))))
 refine sd rfl (yl_move rfl rfl (sd rfl (yl_geq rfl rfl rfl (sd rfl (yl_move rfl rfl (bcase (decide (p_lo ≤ p_n)) (fun hb1 => ?_) (fun hb1 => ?_)))))))
 ·have hb1p := dec_t hb1
  refine sy rfl rfl hb1 (yl_move rfl rfl (sy rfl rfl hb1 (yl_move rfl rfl (sy rfl rfl hb1 (yl_leq rfl rfl rfl (sd rfl (yl_pick_t rfl rfl hb1 rfl (sd rfl (yl_assign rfl rfl (SeqR.done (tn (CW.ret (rr rfl (.cons rfl .nil) ?_)))))))))))))
  have hM2 : (s_l1In p_n p_lo p_hi) = (decide (p_n ≤ p_hi)) := by simp only [s_l1In, hb1, cond_true, cond_false, loopE_done, loopE_ret]
  rw [hM2]
  exact ⟨rfl, (Ex.refl w)⟩
 ·have hb1p := dec_f hb1
  refine sz rfl rfl hb1 (sz rfl rfl hb1 (sz rfl rfl hb1 (sd rfl (yl_pick_f rfl rfl hb1 rfl (sd rfl (yl_assign rfl rfl (SeqR.done (tn (CW.ret (rr rfl (.cons rfl .nil) ?_))))))))))
  have hM3 : (s_l1In p_n p_lo p_hi) = (false) := by simp only [s_l1In, hb1, cond_true, cond_false, loopE_done, loopE_ret]
  rw [hM3]
  exact ⟨rfl, (Ex.refl w)⟩
set_option maxRecDepth 100000 in
set_option maxHeartbeats 2000000 in
theorem c_s_l24At {A1 : Option Addr} {c1 : Nat} {w : World} (p_l : List Str) (p_s : Str) (h1 : RdS w (Iv 0 w.heap.size) (RF e_Str) 1 A1 p_l.length c1 p_l) (o2 : (okL okS) p_l) (o3 : okS p_s) : Cal Tryd.prog 65 #[.slice A1 p_l.length c1, .string (bs (p_s))] w fun v w' => v = .int .i64 ((s_l24At p_l p_s)) ∧ Ex w w' := by
 have hol4 := o2.1
 have hol5 : p_s.length ≤ 1073741824 := o3
 refine Cal.of (vs := [.slice A1 p_l.length c1, .string (bs (p_s))]) Tryd.func65 rfl Tryd.ntmps65 rfl (CW.seq (CW.region (sd rfl (yl_assign rfl rfl (SeqR.done (tn (CW.seq (CW.seq (CW.region ?_)))))))))
 refine sd rfl (yl_move rfl rfl (sd rfl (yl_len Tryd.un22 rfl rfl (sd rfl (yl_move rfl rfl (SeqR.done (tn (CW.block (CW.loop (fun m7 L8 w9 => ∃ (k6 : Nat), m7 = p_l.length - k6 ∧ k6 ≤ p_l.length ∧ w.heap.size ≤ w9.heap.size ∧ lkp L8 1 = some (.string (bs (p_s))) ∧ lkp L8 7 = some (.slice A1 p_l.length c1) ∧ lkp L8 8 = some (.int .i64 ((p_l.length : Int))) ∧ lkp L8 9 = some (.int .i64 ((k6 : Int))) ∧ RdS w9 (Iv 0 w.heap.size) (RF e_Str) 1 A1 p_l.length c1 p_l ∧ Ex w w9 ∧ loopM (B_s_l24At_0 p_l p_s) (p_l.length - k6) k6 () = loopM (B_s_l24At_0 p_l p_s) (p_l.length - 0) 0 ()) (p_l.length - 0) ?_ ?_)))))))))
 ·exact ⟨0, rfl, (by omega), Nat.le_refl _, rfl, rfl, rfl, rfl, h1, (Ex.refl w), rfl⟩
 ·rintro m10 L11 w12 ⟨k6, rfl, hk13, hsz15, hl16, hl17, hl18, hl19, hf20, hf21, hI14⟩
  refine CW.sub (Sub.cons hl16 (Sub.cons hl17 (Sub.cons hl18 (Sub.cons hl19 (Sub.nil _))))) ?_
  have hf21z := Ex.size hf21
  have hbg22 := RdS.big hf20
  rcases Nat.lt_or_ge k6 p_l.length with hlt23 | hlt23
  ·refine CW.seq (CW.region (sd rfl (yl_lss rfl rfl rfl (SeqR.done (tn (CW.seq (CW.cond_t rfl (lt_t hlt23) (CW.skip (tn ?_)))))))))
   refine CW.seq (CW.block (CW.seq (CW.region (sd rfl (yl_move rfl rfl ?_)))))
   obtain ⟨eb24, eo24, ec24, eA24, eS24, ebl24, el24, eR24, eC24⟩ := RdS.atD hf20 d_Str (i := k6) (by first | omega | assumption)
   obtain rfl := eR24
   have eC24 : Cells w12 eb24 (eo24 + k6 * 1) [.string (bs ((p_l.getD k6 d_Str)))] := eC24
   refine sd rfl (yl_indexAddrN Tryd.un22 Tryd.ty9 rfl rfl rfl eA24 (by first | omega | assumption | (simp only [IntKind.wrap_i64] at *; omega)) (sd rfl (yl_load1 Tryd.ty9 rfl rfl (eC24 0 _ rfl) (sd rfl (yl_assign rfl rfl (sd rfl (yl_assign rfl rfl (SeqR.done (tn (CW.seq (CW.region (sd rfl (yl_move rfl rfl ?_)))))))))))))
   refine sd rfl (yl_move rfl rfl (sd rfl (yl_seql (a := (p_l.getD k6 d_Str)) (b := p_s) rfl rfl rfl (SeqR.done (tn (bcase ((p_l.getD k6 d_Str) == p_s) (fun hb25 => ?_) (fun hb25 => ?_)))))))
   ·refine CW.cond_t rfl hb25 (CW.seq (CW.region (sd rfl (yl_move rfl rfl (sd rfl (yl_assign rfl rfl (SeqR.done (tn (CW.ret (br ?_))))))))))
    refine tr (tr ?_)
    have hB27 : B_s_l24At_0 p_l p_s k6 () = .ret (k6 : Int) := by simp only [B_s_l24At_0, hb25, cond_true, cond_false, loopE_done, loopE_ret]
    have hL26 : loopM (B_s_l24At_0 p_l p_s) (p_l.length - 0) 0 () = .ret (k6 : Int) := hI14.symm.trans (loopM.ret hlt23 hB27)
    refine br (tr (rr rfl (.cons rfl .nil) ?_))
    have hM28 : (s_l24At p_l p_s) = ((k6 : Int)) := by simp only [s_l24At, hb25, hL26, cond_true, cond_false, loopE_done, loopE_ret]
    rw [hM28]
    exact ⟨rfl, hf21⟩
   ·refine CW.cond_f rfl hb25 (CW.skip (bn (tn (CW.region (sd rfl (yl_inc rfl rfl rfl (by omega) (sd rfl (yl_move rfl rfl (SeqR.done (tn ?_))))))))))
    have hB29 : B_s_l24At_0 p_l p_s k6 () = .cont () := by simp only [B_s_l24At_0, hb25, cond_true, cond_false, loopE_done, loopE_ret]
    exact ⟨p_l.length - (k6 + 1), by omega, k6 + 1, rfl, hlt23, (by omega), rfl, rfl, rfl, rfl, hf20, hf21, (loopM.cont hlt23 hB29).symm.trans hI14⟩
  ·refine CW.seq (CW.region (sd rfl (yl_lss rfl rfl rfl (SeqR.done (tn (CW.seq (CW.cond_f rfl (lt_f hlt23) (CW.exit (tx ?_)))))))))
   refine tx ?_
   have hL30 : loopM (B_s_l24At_0 p_l p_s) (p_l.length - 0) 0 () = .done () := hI14.symm.trans (loopM.stop hlt23)
   refine bx (tn (CW.seq (CW.region (sd rfl (yl_assign rfl rfl (SeqR.done (tn (CW.ret (rr rfl (.cons rfl .nil) ?_)))))))))
   have hM31 : (s_l24At p_l p_s) = (-1) := by simp only [s_l24At, hL30, cond_true, cond_false, loopE_done, loopE_ret]
   rw [hM31]
   exact ⟨rfl, hf21⟩
set_option maxRecDepth 100000 in
set_option maxHeartbeats 2000000 in
theorem c_s_l24Cols {A1 : Option Addr} {c1 : Nat} {w : World} (p_l : List Str) (h1 : RdS w (Iv 0 w.heap.size) (RF e_Str) 1 A1 p_l.length c1 p_l) (o2 : (okL okS) p_l) : Cal Tryd.prog 44 #[.slice A1 p_l.length c1] w fun v w' => v = .bool ((s_l24Cols p_l)) ∧ Ex w w' := by
 have hol3 := o2.1
 refine Cal.of (vs := [.slice A1 p_l.length c1]) Tryd.func44 rfl Tryd.ntmps44 rfl (CW.seq (CW.region (sd rfl (yl_assign rfl rfl (SeqR.done (tn (CW.seq (CW.seq (CW.region ?_)))))))))
 refine sd rfl (yl_move rfl rfl (sd rfl (yl_len Tryd.un22 rfl rfl (sd rfl (yl_move rfl rfl (SeqR.done (tn (CW.block (CW.loop (fun m5 L6 w7 => ∃ (k4 : Nat), m5 = p_l.length - k4 ∧ k4 ≤ p_l.length ∧ w.heap.size ≤ w7.heap.size ∧ lkp L6 0 = some (.slice A1 p_l.length c1) ∧ lkp L6 5 = some (.slice A1 p_l.length c1) ∧ lkp L6 6 = some (.int .i64 ((p_l.length : Int))) ∧ lkp L6 7 = some (.int .i64 ((k4 : Int))) ∧ RdS w7 (Iv 0 w.heap.size) (RF e_Str) 1 A1 p_l.length c1 p_l ∧ Ex w w7 ∧ loopM (B_s_l24Cols_0 p_l) (p_l.length - k4) k4 () = loopM (B_s_l24Cols_0 p_l) (p_l.length - 0) 0 ()) (p_l.length - 0) ?_ ?_)))))))))
 ·exact ⟨0, rfl, (by omega), Nat.le_refl _, rfl, rfl, rfl, rfl, h1, (Ex.refl w), rfl⟩
 ·rintro m8 L9 w10 ⟨k4, rfl, hk11, hsz13, hl14, hl15, hl16, hl17, hf18, hf19, hI12⟩
  refine CW.sub (Sub.cons hl14 (Sub.cons hl15 (Sub.cons hl16 (Sub.cons hl17 (Sub.nil _))))) ?_
  have hf19z := Ex.size hf19
  have hbg20 := RdS.big hf18
  rcases Nat.lt_or_ge k4 p_l.length with hlt21 | hlt21
  ·refine CW.seq (CW.region (sd rfl (yl_lss rfl rfl rfl (SeqR.done (tn (CW.seq (CW.cond_t rfl (lt_t hlt21) (CW.skip (tn ?_)))))))))
   refine CW.seq (CW.block (CW.seq (CW.region (sd rfl (yl_move rfl rfl ?_)))))
   obtain ⟨eb22, eo22, ec22, eA22, eS22, ebl22, el22, eR22, eC22⟩ := RdS.atD hf18 d_Str (i := k4) (by first | omega | assumption)
   obtain rfl := eR22
   have eC22 : Cells w10 eb22 (eo22 + k4 * 1) [.string (bs ((p_l.getD k4 d_Str)))] := eC22
   refine sd rfl (yl_indexAddrN Tryd.un22 Tryd.ty9 rfl rfl rfl eA22 (by first | omega | assumption | (simp only [IntKind.wrap_i64] at *; omega)) (sd rfl (yl_load1 Tryd.ty9 rfl rfl (eC22 0 _ rfl) (sd rfl (yl_assign rfl rfl (sd rfl (yl_assign rfl rfl (SeqR.done (tn (CW.seq (CW.region (sd rfl (yl_move rfl rfl ?_)))))))))))))
   refine sd rfl (yl_call Tryd.en43 rfl (opvs_cons rfl (opvs_cons rfl opvs_nil)) (Cal.mono (c_s_l24Letters (p_l.getD k4 d_Str) 3 (okL.getD o2 ok_d_Str _)) ?_))
   rintro v24 w23 ⟨rfl, hE25⟩
   have hE25z := Ex.size hE25
   refine sd rfl (yl_not rfl rfl (sd rfl (yl_move rfl rfl (bcase (s_l24Letters (p_l.getD k4 d_Str) 3) (fun hb26 => ?_) (fun hb26 => ?_)))))
   ·refine sy rfl rfl (not_t hb26) (yl_move rfl rfl (sy rfl rfl (not_t hb26) (yl_move rfl rfl ?_)))
    have q27 := RdS.ex good_Str hf18 hE25
    obtain ⟨A28, c29, he32, h31⟩ := RdS.sl (RdS.drop (RdS.take q27 (k := k4) (by omega)) (k := 0) (by omega))
    have hrc33 := (q27).2.1
    refine sy rfl rfl (not_t hb26) (yl_sliceR (kl := .i64) (l := 0) (h := k4) Tryd.un22 Tryd.ty9 rfl rfl (.inl ⟨rfl, rfl⟩) (.inr ⟨_, rfl, rfl⟩) (by omega) (by omega) he32 (sy rfl rfl (not_t hb26) (yl_move rfl rfl (sy rfl rfl (not_t hb26) (yl_call Tryd.en65 rfl (opvs_cons rfl (opvs_cons rfl opvs_nil)) (Cal.mono (c_s_l24At (p_l.take k4) (p_l.getD k4 d_Str) (RdS.up h31 good_Str) (okL.take o2 _) (okL.getD o2 ok_d_Str _)) ?_))))))
    rintro v35 w34 ⟨rfl, hE36⟩
    have hE36z := Ex.size hE36
    refine sy rfl rfl (not_t hb26) (yl_geq rfl rfl rfl (sd rfl (yl_pick_f rfl rfl (not_t hb26) rfl (SeqR.done (tn (bcase (decide (0 ≤ (s_l24At (p_l.take k4) (p_l.getD k4 d_Str)))) (fun hb37 => ?_) (fun hb37 => ?_)))))))
    ·have hb37p := dec_t hb37
     refine CW.cond_t rfl hb37 (CW.seq (CW.region (sd rfl (yl_assign rfl rfl (SeqR.done (tn (CW.ret (br (tr ?_)))))))))
     refine tr ?_
     have hB39 : B_s_l24Cols_0 p_l k4 () = .ret false := by simp only [B_s_l24Cols_0, hb26, hb37, cond_true, cond_false, loopE_done, loopE_ret]
     have hL38 : loopM (B_s_l24Cols_0 p_l) (p_l.length - 0) 0 () = .ret false := hI12.symm.trans (loopM.ret hlt21 hB39)
     refine br (tr (rr rfl (.cons rfl .nil) ?_))
     have hM40 : (s_l24Cols p_l) = (false) := by simp only [s_l24Cols, hb26, hb37, hL38, cond_true, cond_false, loopE_done, loopE_ret]
     rw [hM40]
     exact ⟨rfl, (Ex.trans (Ex.trans hf19 hE25) hE36)⟩
    ·have hb37p := dec_f hb37
     refine CW.cond_f rfl hb37 (CW.skip (bn (tn (CW.region (sd rfl (yl_inc rfl rfl rfl (by omega) (sd rfl (yl_move rfl rfl (SeqR.done (tn ?_))))))))))
     have hB43 : B_s_l24Cols_0 p_l k4 () = .cont () := by simp only [B_s_l24Cols_0, hb26, hb37, cond_true, cond_false, loopE_done, loopE_ret]
     exact ⟨p_l.length - (k4 + 1), by omega, k4 + 1, rfl, hlt21, (by omega), rfl, rfl, rfl, rfl, (RdS.ex good_Str q27 hE36), (Ex.trans (Ex.trans hf19 hE25) hE36), (loopM.cont hlt21 hB43).symm.trans hI12⟩
   ·refine sz rfl rfl (not_f hb26) (sz rfl rfl (not_f hb26) (sz rfl rfl (not_f hb26) (sz rfl rfl (not_f hb26) (sz rfl rfl (not_f hb26) (sz rfl rfl (not_f hb26) (sd rfl (yl_pick_t rfl rfl (not_f hb26) rfl (SeqR.done (tn ?_)))))))))
    refine CW.cond_t rfl rfl (CW.seq (CW.region (sd rfl (yl_assign rfl rfl (SeqR.done (tn (CW.ret (br (tr ?_)))))))))
    refine tr ?_
    have hB48 : B_s_l24Cols_0 p_l k4 () = .ret false := by simp only [B_s_l24Cols_0, hb26, cond_true, cond_false, loopE_done, loopE_ret]
    have hL47 : loopM (B_s_l24Cols_0 p_l) (p_l.length - 0) 0 () = .ret false := hI12.symm.trans (loopM.ret hlt21 hB48)
    refine br (tr (rr rfl (.cons rfl .nil) ?_))
    have hM49 : (s_l24Cols p_l) = (false) := by simp only [s_l24Cols, hb26, hL47, cond_true, cond_false, loopE_done, loopE_ret]
    rw [hM49]
    exact ⟨rfl, (Ex.trans hf19 hE25)⟩
  ·refine CW.seq (CW.region (sd rfl (yl_lss rfl rfl rfl (SeqR.done (tn (CW.seq (CW.cond_f rfl (lt_f hlt21) (CW.exit (tx ?_)))))))))
   refine tx ?_
   have hL51 : loopM (B_s_l24Cols_0 p_l) (p_l.length - 0) 0 () = .done () := hI12.symm.trans (loopM.stop hlt21)
   refine bx (tn (CW.seq (CW.region (sd rfl (yl_move rfl rfl (sd rfl (yl_len Tryd.un22 rfl rfl (sd rfl (yl_call Tryd.en45 rfl (opvs_cons rfl (opvs_cons rfl (opvs_cons rfl opvs_nil))) (Cal.mono (c_s_l1In (p_l.length : Int) 2 4) ?_))))))))))
   rintro v53 w52 ⟨rfl, hE54⟩
   have hE54z := Ex.size hE54
   refine sd rfl (yl_assign rfl rfl (SeqR.done (tn (CW.ret (rr rfl (.cons rfl .nil) ?_)))))
   have hM55 : (s_l24Cols p_l) = ((s_l1In (p_l.length : Int) 2 4)) := by simp only [s_l24Cols, hL51, cond_true, cond_false, loopE_done, loopE_ret]
   rw [hM55]
   exact ⟨rfl, (Ex.trans hf19 hE54)⟩
set_option maxRecDepth 100000 in
set_option maxHeartbeats 2000000 in
theorem c_s_GoodTable {A1 : Option Addr} {c1 : Nat} {A2 : Option Addr} {c2 : Nat} {w : World} (p_0 : DTable) (h1 : RdS w (Iv 0 w.heap.size) (RF e_Str) 1 A1 p_0.Cols.length c1 p_0.Cols) (h2 : RdS w (Iv 0 w.heap.size) (RF e_Idx) 3 A2 p_0.Idxs.length c2 p_0.Idxs) (o3 : ok_Table p_0) : Cal Tryd.prog 24 #[.agg #[.string (bs (p_0.Name)), .slice A1 p_0.Cols.length c1, .slice A2 p_0.Idxs.length c2]] w fun v w' => v = .bool ((s_GoodTable p_0)) ∧ Ex w w' := by
 have hol4 : p_0.Name.length ≤ 1073741824 := o3.1
 have hol5 := o3.2.1.1
 have hol6 := o3.2.2.1
 refine Cal.of (vs := [.agg #[.string (bs (p_0.Name)), .slice A1 p_0.Cols.length c1, .slice A2 p_0.Idxs.length c2]]) Tryd.func24 rfl Tryd.ntmps24 rfl (CW.seq (CW.region (sd rfl (yl_box (cs := [.string (bs (p_0.Name)), .slice A1 p_0.Cols.length c1, .slice A2 p_0.Idxs.length c2]) rfl rfl rfl ?_))))
 intro b7 w8 hs9 hz10 hB11 hE12
 refine sd rfl (yl_assign rfl rfl (SeqR.done (tn (CW.seq (CW.seq (CW.region (sd rfl (yl_fieldAddr Tryd.fd36_0 rfl rfl (sd rfl (yl_load1 Tryd.ty9 rfl rfl ((hB11.cell 0).trans rfl) (sd rfl (yl_call Tryd.en43 rfl (opvs_cons rfl (opvs_cons rfl opvs_nil)) (Cal.mono (c_s_l24Letters p_0.Name 1 o3.1) ?_)))))))))))))
 rintro v14 w13 ⟨rfl, hE15⟩
 have hE15z := Ex.size hE15
 refine sd rfl (yl_not rfl rfl (sd rfl (yl_move rfl rfl (bcase (s_l24Letters p_0.Name 1) (fun hb16 => ?_) (fun hb16 => ?_)))))
 ·refine sy rfl rfl (not_t hb16) (yl_fieldAddr Tryd.fd36_1 rfl rfl ?_)
  have q17 := Box.ex hB11 hE15
  refine sy rfl rfl (not_t hb16) (yl_load1 Tryd.ty22 rfl rfl ((q17.cell 1).trans rfl) ?_)
  have q19 := RdS.ex good_Str (RdS.ex good_Str h1 hE12) hE15
  refine sy rfl rfl (not_t hb16) (yl_call Tryd.en44 rfl (opvs_cons rfl opvs_nil) (Cal.mono (c_s_l24Cols p_0.Cols (RdS.up q19 good_Str) o3.2.1) ?_))
  rintro v21 w20 ⟨rfl, hE22⟩
  have hE22z := Ex.size hE22
  refine sy rfl rfl (not_t hb16) (yl_not rfl rfl (sd rfl (yl_pick_f rfl rfl (not_t hb16) rfl (sd rfl (yl_move rfl rfl (bcase (s_l24Cols p_0.Cols) (fun hb23 => ?_) (fun hb23 => ?_)))))))
  ·refine sy rfl rfl (not_t hb23) (yl_fieldAddr Tryd.fd36_2 rfl rfl ?_)
   have q24 := Box.ex q17 hE22
   refine sy rfl rfl (not_t hb23) (yl_load1 Tryd.ty34 rfl rfl ((q24.cell 2).trans rfl) (sy rfl rfl (not_t hb23) (yl_len Tryd.un34 rfl rfl (sy rfl rfl (not_t hb23) (yl_gtr rfl rfl rfl (sd rfl (yl_pick_f rfl rfl (not_t hb23) rfl (SeqR.done (tn (bcase (decide (3 < (p_0.Idxs.length : Int))) (fun hb25 => ?_) (fun hb25 => ?_)))))))))))
   ·have hb25p := dec_t hb25
    refine CW.cond_t rfl hb25 (CW.seq (CW.region (sd rfl (yl_assign rfl rfl (SeqR.done (tn (CW.ret (tr (rr rfl (.cons rfl .nil) ?_)))))))))
    have hM26 : (s_GoodTable p_0) = (false) := by simp only [s_GoodTable, hb16, hb23, hb25, cond_true, cond_false, loopE_done, loopE_ret]
    rw [hM26]
    exact ⟨rfl, (Ex.trans (Ex.trans (Ex.trans (Ex.refl w) hE12) hE15) hE22)⟩
   ·have hb25p := dec_f hb25
    refine CW.cond_f rfl hb25 (CW.skip (tn (CW.seq (CW.seq (CW.region (sd rfl (yl_fieldAddr Tryd.fd36_2 rfl rfl (sd rfl (yl_load1 Tryd.ty34 rfl rfl ((q24.cell 2).trans rfl) (sd rfl (yl_len Tryd.un34 rfl rfl ?_)))))))))))
    refine sd rfl (yl_move rfl rfl (SeqR.done (tn (CW.block (CW.loop (fun m68 L69 w70 => ∃ (k30 : Nat), m68 = p_0.Idxs.length - k30 ∧ k30 ≤ p_0.Idxs.length ∧ w20.heap.size ≤ w70.heap.size ∧ lkp L69 1 = some (.pointer (some ⟨b7, 0, none⟩)) ∧ lkp L69 22 = some (.slice A2 p_0.Idxs.length c2) ∧ lkp L69 23 = some (.int .i64 ((p_0.Idxs.length : Int))) ∧ lkp L69 24 = some (.int .i64 ((k30 : Int))) ∧ Box w70 b7 36 [.string (bs (p_0.Name)), .slice A1 p_0.Cols.length c1, .slice A2 p_0.Idxs.length c2] ∧ RdS w70 (Iv 0 w.heap.size) (RF e_Str) 1 A1 p_0.Cols.length c1 p_0.Cols ∧ RdS w70 (Iv 0 w.heap.size) (RF e_Idx) 3 A2 p_0.Idxs.length c2 p_0.Idxs ∧ Ex w w70 ∧ loopM (B_s_GoodTable_0 p_0) (p_0.Idxs.length - k30) k30 () = loopM (B_s_GoodTable_0 p_0) (p_0.Idxs.length - 0) 0 ()) (p_0.Idxs.length - 0) ?_ ?_)))))
    ·exact ⟨0, rfl, (by omega), Nat.le_refl _, rfl, rfl, rfl, rfl, q24, (RdS.ex good_Str q19 hE22), (RdS.ex good_Idx (RdS.ex good_Idx (RdS.ex good_Idx h2 hE12) hE15) hE22), (Ex.trans (Ex.trans (Ex.trans (Ex.refl w) hE12) hE15) hE22), rfl⟩
    ·rintro m78 L79 w80 ⟨k30, rfl, hk81, hsz83, hl84, hl85, hl86, hl87, hf88, hf89, hf90, hf91, hI82⟩
     refine CW.sub (Sub.cons hl84 (Sub.cons hl85 (Sub.cons hl86 (Sub.cons hl87 (Sub.nil _))))) ?_
     have hf88z := Box.lt hf88
     have hf91z := Ex.size hf91
     have hbg92 := RdS.big hf90
     rcases Nat.lt_or_ge k30 p_0.Idxs.length with hlt93 | hlt93
     ·refine CW.seq (CW.region (sd rfl (yl_lss rfl rfl rfl (SeqR.done (tn (CW.seq (CW.cond_t rfl (lt_t hlt93) (CW.skip (tn ?_)))))))))
      refine CW.seq (CW.block (CW.seq (CW.region (sd rfl (yl_move rfl rfl ?_)))))
      obtain ⟨eb94, eo94, ec94, eA94, eS94, ebl94, el94, eR94, eC94⟩ := RdS.atD hf90 d_Idx (i := k30) (by first | omega | assumption)
      obtain rfl := eR94
      have eC94 : Cells w80 eb94 (eo94 + k30 * 3) [.string (bs ((p_0.Idxs.getD k30 d_Idx).Name)), .int .i64 ((p_0.Idxs.getD k30 d_Idx).Col), .int .i64 ((p_0.Idxs.getD k30 d_Idx).Stage)] := eC94
      refine sd rfl (yl_indexAddrN Tryd.un34 Tryd.ty74 rfl rfl rfl eA94 (by first | omega | assumption | (simp only [IntKind.wrap_i64] at *; omega)) (sd rfl (yl_loadN (cs := [.string (bs ((p_0.Idxs.getD k30 d_Idx).Name)), .int .i64 ((p_0.Idxs.getD k30 d_Idx).Col), .int .i64 ((p_0.Idxs.getD k30 d_Idx).Stage)]) Tryd.ty74 rfl rfl eC94 rfl (sd rfl (yl_alloc Tryd.ty74 (cs := [.string (bs (([] : Str))), .int .i64 (0), .int .i64 (0)]) rfl rfl ?_)))))
      intro b95 w96 hs97 hz98 hB99 hE100
      refine sd rfl (yl_assign rfl rfl (SeqR.u rfl rfl (yl_store (vs := [.string (bs ((p_0.Idxs.getD k30 d_Idx).Name)), .int .i64 ((p_0.Idxs.getD k30 d_Idx).Col), .int .i64 ((p_0.Idxs.getD k30 d_Idx).Stage)]) Tryd.ty74 rfl rfl rfl rfl rfl rfl hB99 (Nat.le_of_ble_eq_true rfl) ?_)))
      intro w101 hB102 hO103
      have hB102 : Box w101 b95 74 [.string (bs ((p_0.Idxs.getD k30 d_Idx).Name)), .int .i64 ((p_0.Idxs.getD k30 d_Idx).Col), .int .i64 ((p_0.Idxs.getD k30 d_Idx).Stage)] := hB102
      have hO103z := hO103.size
      refine SeqR.done (tn (CW.seq (bcase (s_l24Letters ((p_0.Idxs.getD k30 d_Idx).Name) 1) (fun hb105 => ?_) (fun hb105 => ?_))))
      ·refine bcase (s_l1In ((p_0.Idxs.getD k30 d_Idx).Col) 1 (IntKind.wrap .i64 ((p_0.Cols.length : Int) - 1))) (fun hb110 => ?_) (fun hb110 => ?_)
       ·have hb110p := f_l1In hb110
        refine bcase (s_l1In ((p_0.Idxs.getD k30 d_Idx).Stage) 0 3) (fun hb116 => ?_) (fun hb116 => ?_)
        ·have hb116p := f_l1In hb116
         refine bcase (decide (0 < (k30 : Int))) (fun hb122 => ?_) (fun hb122 => ?_)
         ·have hb122p := dec_t hb122
          have q125 := Box.only (Box.ex hf88 hE100) hO103 (by omega)
          have q129 := RdS.only good_Idx (RdS.ex good_Idx hf90 hE100) hO103 (by simp only [Iv]; omega)
          obtain ⟨eb130, eo130, ec130, eA130, eS130, ebl130, el130, eR130, eC130⟩ := RdS.atD q129 d_Idx (i := (IntKind.wrap .i64 ((k30 : Int) - 1)).toNat) (by first | omega | assumption | (simp only [IntKind.wrap_i64] at *; omega))
          obtain rfl := eR130
          have eC130 : Cells w101 eb130 (eo130 + ((IntKind.wrap .i64 ((k30 : Int) - 1)).toNat) * 3) [.string (bs ((p_0.Idxs.getD ((IntKind.wrap .i64 ((k30 : Int) - 1)).toNat) d_Idx).Name)), .int .i64 ((p_0.Idxs.getD ((IntKind.wrap .i64 ((k30 : Int) - 1)).toNat) d_Idx).Col), .int .i64 ((p_0.Idxs.getD ((IntKind.wrap .i64 ((k30 : Int) - 1)).toNat) d_Idx).Stage)] := eC130
          refine CW.drawsI 36 (vgetI [DetI (.pointer (some ⟨b95, 0 + 0, none⟩)), DetI (.string (bs ((p_0.Idxs.getD k30 d_Idx).Name))), DetI (.bool ((s_l24Letters ((p_0.Idxs.getD k30 d_Idx).Name) 1))), DetI (.bool (!(s_l24Letters ((p_0.Idxs.getD k30 d_Idx).Name) 1))), DetI (.bool (!(s_l24Letters ((p_0.Idxs.getD k30 d_Idx).Name) 1))), DetI (.pointer (some ⟨b95, 0 + 1, none⟩)), DetI (.int .i64 ((p_0.Idxs.getD k30 d_Idx).Col)), DetI (.pointer (some ⟨b7, 0 + 1, none⟩)), DetI (.slice A1 p_0.Cols.length c1), DetI (.int .i64 ((p_0.Cols.length : Int))), DetI (.int .i64 (IntKind.wrap .i64 ((p_0.Cols.length : Int) - 1))), DetI (.bool ((s_l1In ((p_0.Idxs.getD k30 d_Idx).Col) 1 (IntKind.wrap .i64 ((p_0.Cols.length : Int) - 1))))), DetI (.bool (!(s_l1In ((p_0.Idxs.getD k30 d_Idx).Col) 1 (IntKind.wrap .i64 ((p_0.Cols.length : Int) - 1))))), DetI (.bool (!(s_l1In ((p_0.Idxs.getD k30 d_Idx).Col) 1 (IntKind.wrap .i64 ((p_0.Cols.length : Int) - 1))))), DetI (.bool (!(s_l1In ((p_0.Idxs.getD k30 d_Idx).Col) 1 (IntKind.wrap .i64 ((p_0.Cols.length : Int) - 1))))), DetI (.pointer (some ⟨b95, 0 + 2, none⟩)), DetI (.int .i64 ((p_0.Idxs.getD k30 d_Idx).Stage)), DetI (.bool ((s_l1In ((p_0.Idxs.getD k30 d_Idx).Stage) 0 3))), DetI (.bool (!(s_l1In ((p_0.Idxs.getD k30 d_Idx).Stage) 0 3))), DetI (.bool (!(s_l1In ((p_0.Idxs.getD k30 d_Idx).Stage) 0 3))), DetI (.bool (!(s_l1In ((p_0.Idxs.getD k30 d_Idx).Stage) 0 3))), DetI (.int .i64 ((k30 : Int))), DetI (.bool (decide (0 < (k30 : Int)))), DetI (.bool (decide (0 < (k30 : Int)))), DetI (.pointer (some ⟨b7, 0 + 2, none⟩)), DetI (.slice A2 p_0.Idxs.length c2), DetI (.int .i64 ((k30 : Int))), DetI (.int .i64 (IntKind.wrap .i64 ((k30 : Int) - 1))), DetI (.pointer (some ⟨eb130, eo130 + ((IntKind.wrap .i64 ((k30 : Int) - 1)).toNat) * 3, none⟩)), DetI (.pointer (some ⟨eb130, eo130 + ((IntKind.wrap .i64 ((k30 : Int) - 1)).toNat) * 3 + 0, none⟩)), DetI (.string (bs ((p_0.Idxs.getD ((IntKind.wrap .i64 ((k30 : Int) - 1)).toNat) d_Idx).Name))), DetI (.pointer (some ⟨b95, 0 + 0, none⟩)), DetI (.string (bs ((p_0.Idxs.getD k30 d_Idx).Name))), DetI (.bool (!(sLt ((p_0.Idxs.getD ((IntKind.wrap .i64 ((k30 : Int) - 1)).toNat) d_Idx).Name) ((p_0.Idxs.getD k30 d_Idx).Name)))), DetI (.bool (!(sLt ((p_0.Idxs.getD ((IntKind.wrap .i64 ((k30 : Int) - 1)).toNat) d_Idx).Name) ((p_0.Idxs.getD k30 d_Idx).Name)))), DetI (.bool (!(sLt ((p_0.Idxs.getD ((IntKind.wrap .i64 ((k30 : Int) - 1)).toNat) d_Idx).Name) ((p_0.Idxs.getD k30 d_Idx).Name))))]) Tryd.follows rfl rfl rfl rfl rfl rfl (vgetI_stable ⟨StableI.det _, StableI.det _, StableI.det _, StableI.det _, StableI.det _, StableI.det _, StableI.det _, StableI.det _, StableI.det _, StableI.det _, StableI.det _, StableI.det _, StableI.det _, StableI.det _, StableI.det _, StableI.det _, StableI.det _, StableI.det _, StableI.det _, StableI.det _, StableI.det _, StableI.det _, StableI.det _, StableI.det _, StableI.det _, StableI.det _, StableI.det _, StableI.det _, StableI.det _, StableI.det _, StableI.det _, StableI.det _, StableI.det _, StableI.det _, StableI.det _, StableI.det _, trivial⟩) ⟨?_, ?_, ?_, ?_, ?_, ?_, ?_, ?_, ?_, ?_, ?_, ?_, ?_, ?_, ?_, ?_, ?_, ?_, ?_, ?_, ?_, ?_, ?_, ?_, ?_, ?_, ?_, ?_, ?_, ?_, ?_, ?_, ?_, ?_, ?_, ?_, trivial⟩ ?_
          ·exact fun _ _ h => os rfl ((yl_fieldAddr Tryd.fd74_0 rfl (h.old 4 _ rfl rfl) kI))
          ·exact fun _ _ h => os rfl ((yl_load1 Tryd.ty9 rfl (h.dt 0 29 rfl rfl rfl) (((Box.ex hB102 h.ex).cell 0).trans rfl) kI))
          ·intro L142 w143 hi144
           refine OpR.op' rfl (yl_call Tryd.en43 rfl (opvs_cons (hi144.dt 1 30 rfl rfl rfl) (opvs_cons rfl opvs_nil)) (Cal.mono (c_s_l24Letters ((p_0.Idxs.getD k30 d_Idx).Name) 1 (okL.getD o3.2.2 ok_d_Idx _)) ?_))
           rintro v148 w147 ⟨rfl, hE149⟩
           exact ⟨rfl, hE149⟩
          ·exact fun _ _ h => os rfl ((yl_not rfl (h.dt 2 31 rfl rfl rfl) kI))
          ·exact fun _ _ h => os rfl ((yl_move rfl (h.dt 3 32 rfl rfl rfl) kI))
          ·exact fun _ _ h => OpR.want rfl rfl (h.dt 4 33 rfl rfl rfl) (not_t hb105) (Yl.sameI (yl_fieldAddr Tryd.fd74_1 rfl (h.old 4 _ rfl rfl) kI))
          ·exact fun _ _ h => OpR.want rfl rfl (h.dt 4 33 rfl rfl rfl) (not_t hb105) (Yl.sameI (yl_load1 Tryd.ty3 rfl (h.dt 5 34 rfl rfl rfl) (((Box.ex hB102 h.ex).cell 1).trans rfl) kI))
          ·exact fun _ _ h => OpR.want rfl rfl (h.dt 4 33 rfl rfl rfl) (not_t hb105) (Yl.sameI (yl_fieldAddr Tryd.fd36_1 rfl (h.old 1 _ rfl rfl) kI))
          ·exact fun _ _ h => OpR.want rfl rfl (h.dt 4 33 rfl rfl rfl) (not_t hb105) (Yl.sameI (yl_load1 Tryd.ty22 rfl (h.dt 7 36 rfl rfl rfl) (((Box.ex q125 h.ex).cell 1).trans rfl) kI))
          ·exact fun _ _ h => OpR.want rfl rfl (h.dt 4 33 rfl rfl rfl) (not_t hb105) (Yl.sameI (yl_len Tryd.un22 rfl (h.dt 8 37 rfl rfl rfl) kI))
          ·exact fun _ _ h => OpR.want rfl rfl (h.dt 4 33 rfl rfl rfl) (not_t hb105) (Yl.sameI (yl_sub rfl (h.dt 9 38 rfl rfl rfl) rfl kI))
          ·intro L198 w199 hi200
           refine OpR.want rfl rfl (hi200.dt 4 33 rfl rfl rfl) (not_t hb105) (yl_call Tryd.en45 rfl (opvs_cons (hi200.dt 6 35 rfl rfl rfl) (opvs_cons rfl (opvs_cons (hi200.dt 10 39 rfl rfl rfl) opvs_nil))) (Cal.mono (c_s_l1In ((p_0.Idxs.getD k30 d_Idx).Col) 1 (IntKind.wrap .i64 ((p_0.Cols.length : Int) - 1))) ?_))
           rintro v206 w205 ⟨rfl, hE207⟩
           exact ⟨rfl, hE207⟩
          ·exact fun _ _ h => OpR.want rfl rfl (h.dt 4 33 rfl rfl rfl) (not_t hb105) (Yl.sameI (yl_not rfl (h.dt 11 40 rfl rfl rfl) kI))
          ·exact fun _ _ h => os rfl ((yl_pick_f rfl (h.dt 4 33 rfl rfl rfl) (not_t hb105) (h.dt 12 41 rfl rfl rfl) kI))
          ·exact fun _ _ h => os rfl ((yl_move rfl (h.dt 13 42 rfl rfl rfl) kI))
          ·exact fun _ _ h => OpR.want rfl rfl (h.dt 14 43 rfl rfl rfl) (not_t hb110) (Yl.sameI (yl_fieldAddr Tryd.fd74_2 rfl (h.old 4 _ rfl rfl) kI))
          ·exact fun _ _ h => OpR.want rfl rfl (h.dt 14 43 rfl rfl rfl) (not_t hb110) (Yl.sameI (yl_load1 Tryd.ty3 rfl (h.dt 15 44 rfl rfl rfl) (((Box.ex hB102 h.ex).cell 2).trans rfl) kI))
          ·intro L238 w239 hi240
           refine OpR.want rfl rfl (hi240.dt 14 43 rfl rfl rfl) (not_t hb110) (yl_call Tryd.en45 rfl (opvs_cons (hi240.dt 16 45 rfl rfl rfl) (opvs_cons rfl (opvs_cons rfl opvs_nil))) (Cal.mono (c_s_l1In ((p_0.Idxs.getD k30 d_Idx).Stage) 0 3) ?_))
           rintro v245 w244 ⟨rfl, hE246⟩
           exact ⟨rfl, hE246⟩
          ·exact fun _ _ h => OpR.want rfl rfl (h.dt 14 43 rfl rfl rfl) (not_t hb110) (Yl.sameI (yl_not rfl (h.dt 17 46 rfl rfl rfl) kI))
          ·exact fun _ _ h => os rfl ((yl_pick_f rfl (h.dt 14 43 rfl rfl rfl) (not_t hb110) (h.dt 18 47 rfl rfl rfl) kI))
          ·exact fun _ _ h => os rfl ((yl_move rfl (h.dt 19 48 rfl rfl rfl) kI))
          ·exact fun _ _ h => OpR.want rfl rfl (h.dt 20 49 rfl rfl rfl) (not_t hb116) (Yl.sameI (yl_move rfl (h.old 3 _ rfl rfl) kI))
          ·exact fun _ _ h => OpR.want rfl rfl (h.dt 20 49 rfl rfl rfl) (not_t hb116) (Yl.sameI (yl_gtr rfl (h.dt 21 50 rfl rfl rfl) rfl kI))
          ·exact fun _ _ h => OpR.want rfl rfl (h.dt 20 49 rfl rfl rfl) (not_t hb116) (Yl.sameI (yl_move rfl (h.dt 22 51 rfl rfl rfl) kI))
          ·exact fun _ _ h => OpR.want rfl rfl (h.dt 23 52 rfl rfl rfl) hb122 (Yl.sameI (yl_fieldAddr Tryd.fd36_2 rfl (h.old 1 _ rfl rfl) kI))
          ·exact fun _ _ h => OpR.want rfl rfl (h.dt 23 52 rfl rfl rfl) hb122 (Yl.sameI (yl_load1 Tryd.ty34 rfl (h.dt 24 53 rfl rfl rfl) (((Box.ex q125 h.ex).cell 2).trans rfl) kI))
          ·exact fun _ _ h => OpR.want rfl rfl (h.dt 23 52 rfl rfl rfl) hb122 (Yl.sameI (yl_move rfl (h.old 3 _ rfl rfl) kI))
          ·exact fun _ _ h => OpR.want rfl rfl (h.dt 23 52 rfl rfl rfl) hb122 (Yl.sameI (yl_sub rfl (h.dt 26 55 rfl rfl rfl) rfl kI))
          ·intro L307 w308 hi309
           have hE310 := hi309.ex
           have hE310z := Ex.size hE310
           exact OpR.want rfl rfl (hi309.dt 23 52 rfl rfl rfl) hb122 (Yl.sameI (yl_indexAddr Tryd.un34 Tryd.ty74 rfl (hi309.dt 25 54 rfl rfl rfl) (hi309.dt 27 56 rfl rfl rfl) eA130 (by first | omega | assumption | (simp only [IntKind.wrap_i64] at *; omega)) (by first | omega | assumption | (simp only [IntKind.wrap_i64] at *; omega)) kI))
          ·exact fun _ _ h => OpR.want rfl rfl (h.dt 23 52 rfl rfl rfl) hb122 (Yl.sameI (yl_fieldAddr Tryd.fd74_0 rfl (h.dt 28 57 rfl rfl rfl) kI))
          ·exact fun _ _ h => OpR.want rfl rfl (h.dt 23 52 rfl rfl rfl) hb122 (Yl.sameI (yl_load1 Tryd.ty9 rfl (h.dt 29 58 rfl rfl rfl) ((Cells.ex eC130 h.ex) 0 _ rfl) kI))
          ·exact fun _ _ h => OpR.want rfl rfl (h.dt 23 52 rfl rfl rfl) hb122 (Yl.sameI (yl_fieldAddr Tryd.fd74_0 rfl (h.old 4 _ rfl rfl) kI))
          ·exact fun _ _ h => OpR.want rfl rfl (h.dt 23 52 rfl rfl rfl) hb122 (Yl.sameI (yl_load1 Tryd.ty9 rfl (h.dt 31 60 rfl rfl rfl) (((Box.ex hB102 h.ex).cell 0).trans rfl) kI))
          ·exact fun _ _ h => OpR.want rfl rfl (h.dt 23 52 rfl rfl rfl) hb122 (Yl.sameI (yl_sgeq (a := ((p_0.Idxs.getD ((IntKind.wrap .i64 ((k30 : Int) - 1)).toNat) d_Idx).Name)) (b := ((p_0.Idxs.getD k30 d_Idx).Name)) rfl (h.dt 30 59 rfl rfl rfl) (h.dt 32 61 rfl rfl rfl) kI))
          ·exact fun _ _ h => OpR.want rfl rfl (h.dt 20 49 rfl rfl rfl) (not_t hb116) (Yl.sameI (yl_pick_t rfl (h.dt 23 52 rfl rfl rfl) hb122 (h.dt 33 62 rfl rfl rfl) kI))
          ·exact fun _ _ h => os rfl ((yl_pick_f rfl (h.dt 20 49 rfl rfl rfl) (not_t hb116) (h.dt 34 63 rfl rfl rfl) kI))
          ·intro fl363 fh364 L360 w361 hp362
           have hE365 := hp362.ex
           have hE365z := Ex.size hE365
           refine SeqR.done (tn (CW.sub (Sub.cons (d := 1) (hp362.old 1 _ rfl rfl) (Sub.cons (d := 22) (hp362.old 22 _ rfl rfl) (Sub.cons (d := 23) (hp362.old 23 _ rfl rfl) (Sub.cons (d := 24) (hp362.old 24 _ rfl rfl) (Sub.cons (d := 34) (hp362.nt 5 34 rfl rfl rfl) (Sub.cons (d := 35) (hp362.nt 6 35 rfl rfl rfl) (Sub.cons (d := 36) (hp362.nt 7 36 rfl rfl rfl) (Sub.cons (d := 37) (hp362.nt 8 37 rfl rfl rfl) (Sub.cons (d := 38) (hp362.nt 9 38 rfl rfl rfl) (Sub.cons (d := 39) (hp362.nt 10 39 rfl rfl rfl) (Sub.cons (d := 40) (hp362.nt 11 40 rfl rfl rfl) (Sub.cons (d := 41) (hp362.nt 12 41 rfl rfl rfl) (Sub.cons (d := 44) (hp362.nt 15 44 rfl rfl rfl) (Sub.cons (d := 45) (hp362.nt 16 45 rfl rfl rfl) (Sub.cons (d := 46) (hp362.nt 17 46 rfl rfl rfl) (Sub.cons (d := 47) (hp362.nt 18 47 rfl rfl rfl) (Sub.cons (d := 50) (hp362.nt 21 50 rfl rfl rfl) (Sub.cons (d := 51) (hp362.nt 22 51 rfl rfl rfl) (Sub.cons (d := 52) (hp362.nt 23 52 rfl rfl rfl) (Sub.cons (d := 53) (hp362.nt 24 53 rfl rfl rfl) (Sub.cons (d := 54) (hp362.nt 25 54 rfl rfl rfl) (Sub.cons (d := 55) (hp362.nt 26 55 rfl rfl rfl) (Sub.cons (d := 56) (hp362.nt 27 56 rfl rfl rfl) (Sub.cons (d := 57) (hp362.nt 28 57 rfl rfl rfl) (Sub.cons (d := 58) (hp362.nt 29 58 rfl rfl rfl) (Sub.cons (d := 59) (hp362.nt 30 59 rfl rfl rfl) (Sub.cons (d := 60) (hp362.nt 31 60 rfl rfl rfl) (Sub.cons (d := 61) (hp362.nt 32 61 rfl rfl rfl) (Sub.cons (d := 62) (hp362.nt 33 62 rfl rfl rfl) (Sub.cons (d := 63) (hp362.nt 34 63 rfl rfl rfl) (Sub.cons (d := 64) (hp362.nt 35 64 rfl rfl rfl) (Sub.nil _)))))))))))))))))))))))))))))))) ?_))
           refine bcase (sLt ((p_0.Idxs.getD ((IntKind.wrap .i64 ((k30 : Int) - 1)).toNat) d_Idx).Name) ((p_0.Idxs.getD k30 d_Idx).Name)) (fun hb397 => ?_) (fun hb397 => ?_)
           ·refine CW.cond_f rfl (not_t hb397) (CW.skip (bn (tn (CW.region (sd rfl (yl_inc rfl rfl rfl (by omega) (sd rfl (yl_move rfl rfl (SeqR.done (tn ?_))))))))))
            have hB398 : B_s_GoodTable_0 p_0 k30 () = .cont () := by simp only [B_s_GoodTable_0, hb16, hb23, hb25, hb105, hb110, hb116, hb122, hb397, cond_true, cond_false, loopE_done, loopE_ret]
            exact ⟨p_0.Idxs.length - (k30 + 1), by omega, k30 + 1, rfl, hlt93, (by omega), rfl, rfl, rfl, rfl, (Box.ex q125 hE365), (RdS.ex good_Str (RdS.only good_Str (RdS.ex good_Str hf89 hE100) hO103 (by simp only [Iv]; omega)) hE365), (RdS.ex good_Idx q129 hE365), (Ex.trans (Below.only (Ex.trans hf91 hE100) hO103 (by omega)) hE365), (loopM.cont hlt93 hB398).symm.trans hI82⟩
           ·refine CW.cond_t rfl (not_f hb397) (CW.seq (CW.region (sd rfl (yl_assign rfl rfl (SeqR.done (tn (CW.ret (br (tr ?_)))))))))
            refine tr ?_
            have hB408 : B_s_GoodTable_0 p_0 k30 () = .ret false := by simp only [B_s_GoodTable_0, hb16, hb23, hb25, hb105, hb110, hb116, hb122, hb397, cond_true, cond_false, loopE_done, loopE_ret]
            have hL407 : loopM (B_s_GoodTable_0 p_0) (p_0.Idxs.length - 0) 0 () = .ret false := hI82.symm.trans (loopM.ret hlt93 hB408)
            refine br (tr (rr rfl (.cons rfl .nil) ?_))
            have hM409 : (s_GoodTable p_0) = (false) := by simp only [s_GoodTable, hb16, hb23, hb25, hb105, hb110, hb116, hb122, hb397, hL407, cond_true, cond_false, loopE_done, loopE_ret]
            rw [hM409]
            exact ⟨rfl, (Ex.trans (Below.only (Ex.trans hf91 hE100) hO103 (by omega)) hE365)⟩
         ·have hb122p := dec_f hb122
          have q415 := Box.only (Box.ex hf88 hE100) hO103 (by omega)
          refine CW.drawsI 36 (vgetI [DetI (.pointer (some ⟨b95, 0 + 0, none⟩)), DetI (.string (bs ((p_0.Idxs.getD k30 d_Idx).Name))), DetI (.bool ((s_l24Letters ((p_0.Idxs.getD k30 d_Idx).Name) 1))), DetI (.bool (!(s_l24Letters ((p_0.Idxs.getD k30 d_Idx).Name) 1))), DetI (.bool (!(s_l24Letters ((p_0.Idxs.getD k30 d_Idx).Name) 1))), DetI (.pointer (some ⟨b95, 0 + 1, none⟩)), DetI (.int .i64 ((p_0.Idxs.getD k30 d_Idx).Col)), DetI (.pointer (some ⟨b7, 0 + 1, none⟩)), DetI (.slice A1 p_0.Cols.length c1), DetI (.int .i64 ((p_0.Cols.length : Int))), DetI (.int .i64 (IntKind.wrap .i64 ((p_0.Cols.length : Int) - 1))), DetI (.bool ((s_l1In ((p_0.Idxs.getD k30 d_Idx).Col) 1 (IntKind.wrap .i64 ((p_0.Cols.length : Int) - 1))))), DetI (.bool (!(s_l1In ((p_0.Idxs.getD k30 d_Idx).Col) 1 (IntKind.wrap .i64 ((p_0.Cols.length : Int) - 1))))), DetI (.bool (!(s_l1In ((p_0.Idxs.getD k30 d_Idx).Col) 1 (IntKind.wrap .i64 ((p_0.Cols.length : Int) - 1))))), DetI (.bool (!(s_l1In ((p_0.Idxs.getD k30 d_Idx).Col) 1 (IntKind.wrap .i64 ((p_0.Cols.length : Int) - 1))))), DetI (.pointer (some ⟨b95, 0 + 2, none⟩)), DetI (.int .i64 ((p_0.Idxs.getD k30 d_Idx).Stage)), DetI (.bool ((s_l1In ((p_0.Idxs.getD k30 d_Idx).Stage) 0 3))), DetI (.bool (!(s_l1In ((p_0.Idxs.getD k30 d_Idx).Stage) 0 3))), DetI (.bool (!(s_l1In ((p_0.Idxs.getD k30 d_Idx).Stage) 0 3))), DetI (.bool (!(s_l1In ((p_0.Idxs.getD k30 d_Idx).Stage) 0 3))), DetI (.int .i64 ((k30 : Int))), DetI (.bool (decide (0 < (k30 : Int)))), DetI (.bool (decide (0 < (k30 : Int)))), DetI (undef), DetI (undef), DetI (undef), DetI (undef), DetI (undef), DetI (undef), DetI (undef), DetI (undef), DetI (undef), DetI (undef), DetI (.bool (false)), DetI (.bool (false))]) Tryd.follows rfl rfl rfl rfl rfl rfl (vgetI_stable ⟨StableI.det _, StableI.det _, StableI.det _, StableI.det _, StableI.det _, StableI.det _, StableI.det _, StableI.det _, StableI.det _, StableI.det _, StableI.det _, StableI.det _, StableI.det _, StableI.det _, StableI.det _, StableI.det _, StableI.det _, StableI.det _, StableI.det _, StableI.det _, StableI.det _, StableI.det _, StableI.det _, StableI.det _, StableI.det _, StableI.det _, StableI.det _, StableI.det _, StableI.det _, StableI.det _, StableI.det _, StableI.det _, StableI.det _, StableI.det _, StableI.det _, StableI.det _, trivial⟩) ⟨?_, ?_, ?_, ?_, ?_, ?_, ?_, ?_, ?_, ?_, ?_, ?_, ?_, ?_, ?_, ?_, ?_, ?_, ?_, ?_, ?_, ?_, ?_, ?_, ?_, ?_, ?_, ?_, ?_, ?_, ?_, ?_, ?_, ?_, ?_, ?_, trivial⟩ ?_
          ·exact fun _ _ h => os rfl ((yl_fieldAddr Tryd.fd74_0 rfl (h.old 4 _ rfl rfl) kI))
          ·exact fun _ _ h => os rfl ((yl_load1 Tryd.ty9 rfl (h.dt 0 29 rfl rfl rfl) (((Box.ex hB102 h.ex).cell 0).trans rfl) kI))
          ·intro L429 w430 hi431
           refine OpR.op' rfl (yl_call Tryd.en43 rfl (opvs_cons (hi431.dt 1 30 rfl rfl rfl) (opvs_cons rfl opvs_nil)) (Cal.mono (c_s_l24Letters ((p_0.Idxs.getD k30 d_Idx).Name) 1 (okL.getD o3.2.2 ok_d_Idx _)) ?_))
           rintro v435 w434 ⟨rfl, hE436⟩
           exact ⟨rfl, hE436⟩
          ·exact fun _ _ h => os rfl ((yl_not rfl (h.dt 2 31 rfl rfl rfl) kI))
          ·exact fun _ _ h => os rfl ((yl_move rfl (h.dt 3 32 rfl rfl rfl) kI))
          ·exact fun _ _ h => OpR.want rfl rfl (h.dt 4 33 rfl rfl rfl) (not_t hb105) (Yl.sameI (yl_fieldAddr Tryd.fd74_1 rfl (h.old 4 _ rfl rfl) kI))
          ·exact fun _ _ h => OpR.want rfl rfl (h.dt 4 33 rfl rfl rfl) (not_t hb105) (Yl.sameI (yl_load1 Tryd.ty3 rfl (h.dt 5 34 rfl rfl rfl) (((Box.ex hB102 h.ex).cell 1).trans rfl) kI))
          ·exact fun _ _ h => OpR.want rfl rfl (h.dt 4 33 rfl rfl rfl) (not_t hb105) (Yl.sameI (yl_fieldAddr Tryd.fd36_1 rfl (h.old 1 _ rfl rfl) kI))
          ·exact fun _ _ h => OpR.want rfl rfl (h.dt 4 33 rfl rfl rfl) (not_t hb105) (Yl.sameI (yl_load1 Tryd.ty22 rfl (h.dt 7 36 rfl rfl rfl) (((Box.ex q415 h.ex).cell 1).trans rfl) kI))
          ·exact fun _ _ h => OpR.want rfl rfl (h.dt 4 33 rfl rfl rfl) (not_t hb105) (Yl.sameI (yl_len Tryd.un22 rfl (h.dt 8 37 rfl rfl rfl) kI))
          ·exact fun _ _ h => OpR.want rfl rfl (h.dt 4 33 rfl rfl rfl) (not_t hb105) (Yl.sameI (yl_sub rfl (h.dt 9 38 rfl rfl rfl) rfl kI))
          ·intro L485 w486 hi487
           refine OpR.want rfl rfl (hi487.dt 4 33 rfl rfl rfl) (not_t hb105) (yl_call Tryd.en45 rfl (opvs_cons (hi487.dt 6 35 rfl rfl rfl) (opvs_cons rfl (opvs_cons (hi487.dt 10 39 rfl rfl rfl) opvs_nil))) (Cal.mono (c_s_l1In ((p_0.Idxs.getD k30 d_Idx).Col) 1 (IntKind.wrap .i64 ((p_0.Cols.length : Int) - 1))) ?_))
           rintro v493 w492 ⟨rfl, hE494⟩
           exact ⟨rfl, hE494⟩
          ·exact fun _ _ h => OpR.want rfl rfl (h.dt 4 33 rfl rfl rfl) (not_t hb105) (Yl.sameI (yl_not rfl (h.dt 11 40 rfl rfl rfl) kI))
          ·exact fun _ _ h => os rfl ((yl_pick_f rfl (h.dt 4 33 rfl rfl rfl) (not_t hb105) (h.dt 12 41 rfl rfl rfl) kI))
          ·exact fun _ _ h => os rfl ((yl_move rfl (h.dt 13 42 rfl rfl rfl) kI))
          ·exact fun _ _ h => OpR.want rfl rfl (h.dt 14 43 rfl rfl rfl) (not_t hb110) (Yl.sameI (yl_fieldAddr Tryd.fd74_2 rfl (h.old 4 _ rfl rfl) kI))
          ·exact fun _ _ h => OpR.want rfl rfl (h.dt 14 43 rfl rfl rfl) (not_t hb110) (Yl.sameI (yl_load1 Tryd.ty3 rfl (h.dt 15 44 rfl rfl rfl) (((Box.ex hB102 h.ex).cell 2).trans rfl) kI))
          ·intro L525 w526 hi527
           refine OpR.want rfl rfl (hi527.dt 14 43 rfl rfl rfl) (not_t hb110) (yl_call Tryd.en45 rfl (opvs_cons (hi527.dt 16 45 rfl rfl rfl) (opvs_cons rfl (opvs_cons rfl opvs_nil))) (Cal.mono (c_s_l1In ((p_0.Idxs.getD k30 d_Idx).Stage) 0 3) ?_))
           rintro v532 w531 ⟨rfl, hE533⟩
           exact ⟨rfl, hE533⟩
          ·exact fun _ _ h => OpR.want rfl rfl (h.dt 14 43 rfl rfl rfl) (not_t hb110) (Yl.sameI (yl_not rfl (h.dt 17 46 rfl rfl rfl) kI))
          ·exact fun _ _ h => os rfl ((yl_pick_f rfl (h.dt 14 43 rfl rfl rfl) (not_t hb110) (h.dt 18 47 rfl rfl rfl) kI))
          ·exact fun _ _ h => os rfl ((yl_move rfl (h.dt 19 48 rfl rfl rfl) kI))
          ·exact fun _ _ h => OpR.want rfl rfl (h.dt 20 49 rfl rfl rfl) (not_t hb116) (Yl.sameI (yl_move rfl (h.old 3 _ rfl rfl) kI))
          ·exact fun _ _ h => OpR.want rfl rfl (h.dt 20 49 rfl rfl rfl) (not_t hb116) (Yl.sameI (yl_gtr rfl (h.dt 21 50 rfl rfl rfl) rfl kI))
          ·exact fun _ _ h => OpR.want rfl rfl (h.dt 20 49 rfl rfl rfl) (not_t hb116) (Yl.sameI (yl_move rfl (h.dt 22 51 rfl rfl rfl) kI))
          ·exact fun _ _ h => OpR.skip rfl rfl (h.dt 23 52 rfl rfl rfl) hb122 ⟨rfl, Ex.refl _⟩
          ·exact fun _ _ h => OpR.skip rfl rfl (h.dt 23 52 rfl rfl rfl) hb122 ⟨rfl, Ex.refl _⟩
          ·exact fun _ _ h => OpR.skip rfl rfl (h.dt 23 52 rfl rfl rfl) hb122 ⟨rfl, Ex.refl _⟩
          ·exact fun _ _ h => OpR.skip rfl rfl (h.dt 23 52 rfl rfl rfl) hb122 ⟨rfl, Ex.refl _⟩
          ·exact fun _ _ h => OpR.skip rfl rfl (h.dt 23 52 rfl rfl rfl) hb122 ⟨rfl, Ex.refl _⟩
          ·exact fun _ _ h => OpR.skip rfl rfl (h.dt 23 52 rfl rfl rfl) hb122 ⟨rfl, Ex.refl _⟩
          ·exact fun _ _ h => OpR.skip rfl rfl (h.dt 23 52 rfl rfl rfl) hb122 ⟨rfl, Ex.refl _⟩
          ·exact fun _ _ h => OpR.skip rfl rfl (h.dt 23 52 rfl rfl rfl) hb122 ⟨rfl, Ex.refl _⟩
          ·exact fun _ _ h => OpR.skip rfl rfl (h.dt 23 52 rfl rfl rfl) hb122 ⟨rfl, Ex.refl _⟩
          ·exact fun _ _ h => OpR.skip rfl rfl (h.dt 23 52 rfl rfl rfl) hb122 ⟨rfl, Ex.refl _⟩
          ·exact fun _ _ h => OpR.want rfl rfl (h.dt 20 49 rfl rfl rfl) (not_t hb116) (Yl.sameI (yl_pick_f rfl (h.dt 23 52 rfl rfl rfl) hb122 rfl kI))
          ·exact fun _ _ h => os rfl ((yl_pick_f rfl (h.dt 20 49 rfl rfl rfl) (not_t hb116) (h.dt 34 63 rfl rfl rfl) kI))
          ·intro fl635 fh636 L632 w633 hp634
           have hE637 := hp634.ex
           have hE637z := Ex.size hE637
           refine SeqR.done (tn (CW.sub (Sub.cons (d := 1) (hp634.old 1 _ rfl rfl) (Sub.cons (d := 22) (hp634.old 22 _ rfl rfl) (Sub.cons (d := 23) (hp634.old 23 _ rfl rfl) (Sub.cons (d := 24) (hp634.old 24 _ rfl rfl) (Sub.cons (d := 34) (hp634.nt 5 34 rfl rfl rfl) (Sub.cons (d := 35) (hp634.nt 6 35 rfl rfl rfl) (Sub.cons (d := 36) (hp634.nt 7 36 rfl rfl rfl) (Sub.cons (d := 37) (hp634.nt 8 37 rfl rfl rfl) (Sub.cons (d := 38) (hp634.nt 9 38 rfl rfl rfl) (Sub.cons (d := 39) (hp634.nt 10 39 rfl rfl rfl) (Sub.cons (d := 40) (hp634.nt 11 40 rfl rfl rfl) (Sub.cons (d := 41) (hp634.nt 12 41 rfl rfl rfl) (Sub.cons (d := 44) (hp634.nt 15 44 rfl rfl rfl) (Sub.cons (d := 45) (hp634.nt 16 45 rfl rfl rfl) (Sub.cons (d := 46) (hp634.nt 17 46 rfl rfl rfl) (Sub.cons (d := 47) (hp634.nt 18 47 rfl rfl rfl) (Sub.cons (d := 50) (hp634.nt 21 50 rfl rfl rfl) (Sub.cons (d := 51) (hp634.nt 22 51 rfl rfl rfl) (Sub.cons (d := 52) (hp634.nt 23 52 rfl rfl rfl) (Sub.cons (d := 53) (hp634.nt 24 53 rfl rfl rfl) (Sub.cons (d := 54) (hp634.nt 25 54 rfl rfl rfl) (Sub.cons (d := 55) (hp634.nt 26 55 rfl rfl rfl) (Sub.cons (d := 56) (hp634.nt 27 56 rfl rfl rfl) (Sub.cons (d := 57) (hp634.nt 28 57 rfl rfl rfl) (Sub.cons (d := 58) (hp634.nt 29 58 rfl rfl rfl) (Sub.cons (d := 59) (hp634.nt 30 59 rfl rfl rfl) (Sub.cons (d := 60) (hp634.nt 31 60 rfl rfl rfl) (Sub.cons (d := 61) (hp634.nt 32 61 rfl rfl rfl) (Sub.cons (d := 62) (hp634.nt 33 62 rfl rfl rfl) (Sub.cons (d := 63) (hp634.nt 34 63 rfl rfl rfl) (Sub.cons (d := 64) (hp634.nt 35 64 rfl rfl rfl) (Sub.nil _)))))))))))))))))))))))))))))))) ?_))
           refine CW.cond_f rfl rfl (CW.skip (bn (tn (CW.region (sd rfl (yl_inc rfl rfl rfl (by omega) (sd rfl (yl_move rfl rfl (SeqR.done (tn ?_))))))))))
           have hB669 : B_s_GoodTable_0 p_0 k30 () = .cont () := by simp only [B_s_GoodTable_0, hb16, hb23, hb25, hb105, hb110, hb116, hb122, cond_true, cond_false, loopE_done, loopE_ret]
           exact ⟨p_0.Idxs.length - (k30 + 1), by omega, k30 + 1, rfl, hlt93, (by omega), rfl, rfl, rfl, rfl, (Box.ex q415 hE637), (RdS.ex good_Str (RdS.only good_Str (RdS.ex good_Str hf89 hE100) hO103 (by simp only [Iv]; omega)) hE637), (RdS.ex good_Idx (RdS.only good_Idx (RdS.ex good_Idx hf90 hE100) hO103 (by simp only [Iv]; omega)) hE637), (Ex.trans (Below.only (Ex.trans hf91 hE100) hO103 (by omega)) hE637), (loopM.cont hlt93 hB669).symm.trans hI82⟩
        ·refine CW.drawsI 36 (vgetI [DetI (.pointer (some ⟨b95, 0 + 0, none⟩)), DetI (.string (bs ((p_0.Idxs.getD k30 d_Idx).Name))), DetI (.bool ((s_l24Letters ((p_0.Idxs.getD k30 d_Idx).Name) 1))), DetI (.bool (!(s_l24Letters ((p_0.Idxs.getD k30 d_Idx).Name) 1))), DetI (.bool (!(s_l24Letters ((p_0.Idxs.getD k30 d_Idx).Name) 1))), DetI (.pointer (some ⟨b95, 0 + 1, none⟩)), DetI (.int .i64 ((p_0.Idxs.getD k30 d_Idx).Col)), DetI (.pointer (some ⟨b7, 0 + 1, none⟩)), DetI (.slice A1 p_0.Cols.length c1), DetI (.int .i64 ((p_0.Cols.length : Int))), DetI (.int .i64 (IntKind.wrap .i64 ((p_0.Cols.length : Int) - 1))), DetI (.bool ((s_l1In ((p_0.Idxs.getD k30 d_Idx).Col) 1 (IntKind.wrap .i64 ((p_0.Cols.length : Int) - 1))))), DetI (.bool (!(s_l1In ((p_0.Idxs.getD k30 d_Idx).Col) 1 (IntKind.wrap .i64 ((p_0.Cols.length : Int) - 1))))), DetI (.bool (!(s_l1In ((p_0.Idxs.getD k30 d_Idx).Col) 1 (IntKind.wrap .i64 ((p_0.Cols.length : Int) - 1))))), DetI (.bool (!(s_l1In ((p_0.Idxs.getD k30 d_Idx).Col) 1 (IntKind.wrap .i64 ((p_0.Cols.length : Int) - 1))))), DetI (.pointer (some ⟨b95, 0 + 2, none⟩)), DetI (.int .i64 ((p_0.Idxs.getD k30 d_Idx).Stage)), DetI (.bool ((s_l1In ((p_0.Idxs.getD k30 d_Idx).Stage) 0 3))), DetI (.bool (!(s_l1In ((p_0.Idxs.getD k30 d_Idx).Stage) 0 3))), DetI (.bool (!(s_l1In ((p_0.Idxs.getD k30 d_Idx).Stage) 0 3))), DetI (.bool (!(s_l1In ((p_0.Idxs.getD k30 d_Idx).Stage) 0 3))), DetI (undef), DetI (undef), DetI (undef), DetI (undef), DetI (undef), DetI (undef), DetI (undef), DetI (undef), DetI (undef), DetI (undef), DetI (undef), DetI (undef), DetI (undef), DetI (undef), DetI (.bool (true))]) Tryd.follows rfl rfl rfl rfl rfl rfl (vgetI_stable ⟨StableI.det _, StableI.det _, StableI.det _, StableI.det _, StableI.det _, StableI.det _, StableI.det _, StableI.det _, StableI.det _, StableI.det _, StableI.det _, StableI.det _, StableI.det _, StableI.det _, StableI.det _, StableI.det _, StableI.det _, StableI.det _, StableI.det _, StableI.det _, StableI.det _, StableI.det _, StableI.det _, StableI.det _, StableI.det _, StableI.det _, StableI.det _, StableI.det _, StableI.det _, StableI.det _, StableI.det _, StableI.det _, StableI.det _, StableI.det _, StableI.det _, StableI.det _, trivial⟩) ⟨?_, ?_, ?_, ?_, ?_, ?_, ?_, ?_, ?_, ?_, ?_, ?_, ?_, ?_, ?_, ?_, ?_, ?_, ?_, ?_, ?_, ?_, ?_, ?_, ?_, ?_, ?_, ?_, ?_, ?_, ?_, ?_, ?_, ?_, ?_, ?_, trivial⟩ ?_
         ·exact fun _ _ h => os rfl ((yl_fieldAddr Tryd.fd74_0 rfl (h.old 4 _ rfl rfl) kI))
         ·exact fun _ _ h => os rfl ((yl_load1 Tryd.ty9 rfl (h.dt 0 29 rfl rfl rfl) (((Box.ex hB102 h.ex).cell 0).trans rfl) kI))
         ·intro L696 w697 hi698
          refine OpR.op' rfl (yl_call Tryd.en43 rfl (opvs_cons (hi698.dt 1 30 rfl rfl rfl) (opvs_cons rfl opvs_nil)) (Cal.mono (c_s_l24Letters ((p_0.Idxs.getD k30 d_Idx).Name) 1 (okL.getD o3.2.2 ok_d_Idx _)) ?_))
          rintro v702 w701 ⟨rfl, hE703⟩
          exact ⟨rfl, hE703⟩
         ·exact fun _ _ h => os rfl ((yl_not rfl (h.dt 2 31 rfl rfl rfl) kI))
         ·exact fun _ _ h => os rfl ((yl_move rfl (h.dt 3 32 rfl rfl rfl) kI))
         ·exact fun _ _ h => OpR.want rfl rfl (h.dt 4 33 rfl rfl rfl) (not_t hb105) (Yl.sameI (yl_fieldAddr Tryd.fd74_1 rfl (h.old 4 _ rfl rfl) kI))
         ·exact fun _ _ h => OpR.want rfl rfl (h.dt 4 33 rfl rfl rfl) (not_t hb105) (Yl.sameI (yl_load1 Tryd.ty3 rfl (h.dt 5 34 rfl rfl rfl) (((Box.ex hB102 h.ex).cell 1).trans rfl) kI))
         ·exact fun _ _ h => OpR.want rfl rfl (h.dt 4 33 rfl rfl rfl) (not_t hb105) (Yl.sameI (yl_fieldAddr Tryd.fd36_1 rfl (h.old 1 _ rfl rfl) kI))
         ·intro L733 w734 hi735
          have hE736 := hi735.ex
          have hE736z := Ex.size hE736
          exact OpR.want rfl rfl (hi735.dt 4 33 rfl rfl rfl) (not_t hb105) (Yl.sameI (yl_load1 Tryd.ty22 rfl (hi735.dt 7 36 rfl rfl rfl) (((Box.ex (Box.only (Box.ex hf88 hE100) hO103 (by omega)) hE736).cell 1).trans rfl) kI))
         ·exact fun _ _ h => OpR.want rfl rfl (h.dt 4 33 rfl rfl rfl) (not_t hb105) (Yl.sameI (yl_len Tryd.un22 rfl (h.dt 8 37 rfl rfl rfl) kI))
         ·exact fun _ _ h => OpR.want rfl rfl (h.dt 4 33 rfl rfl rfl) (not_t hb105) (Yl.sameI (yl_sub rfl (h.dt 9 38 rfl rfl rfl) rfl kI))
         ·intro L752 w753 hi754
          refine OpR.want rfl rfl (hi754.dt 4 33 rfl rfl rfl) (not_t hb105) (yl_call Tryd.en45 rfl (opvs_cons (hi754.dt 6 35 rfl rfl rfl) (opvs_cons rfl (opvs_cons (hi754.dt 10 39 rfl rfl rfl) opvs_nil))) (Cal.mono (c_s_l1In ((p_0.Idxs.getD k30 d_Idx).Col) 1 (IntKind.wrap .i64 ((p_0.Cols.length : Int) - 1))) ?_))
          rintro v760 w759 ⟨rfl, hE761⟩
          exact ⟨rfl, hE761⟩
         ·exact fun _ _ h => OpR.want rfl rfl (h.dt 4 33 rfl rfl rfl) (not_t hb105) (Yl.sameI (yl_not rfl (h.dt 11 40 rfl rfl rfl) kI))
         ·exact fun _ _ h => os rfl ((yl_pick_f rfl (h.dt 4 33 rfl rfl rfl) (not_t hb105) (h.dt 12 41 rfl rfl rfl) kI))
         ·exact fun _ _ h => os rfl ((yl_move rfl (h.dt 13 42 rfl rfl rfl) kI))
         ·exact fun _ _ h => OpR.want rfl rfl (h.dt 14 43 rfl rfl rfl) (not_t hb110) (Yl.sameI (yl_fieldAddr Tryd.fd74_2 rfl (h.old 4 _ rfl rfl) kI))
         ·exact fun _ _ h => OpR.want rfl rfl (h.dt 14 43 rfl rfl rfl) (not_t hb110) (Yl.sameI (yl_load1 Tryd.ty3 rfl (h.dt 15 44 rfl rfl rfl) (((Box.ex hB102 h.ex).cell 2).trans rfl) kI))
         ·intro L792 w793 hi794
          refine OpR.want rfl rfl (hi794.dt 14 43 rfl rfl rfl) (not_t hb110) (yl_call Tryd.en45 rfl (opvs_cons (hi794.dt 16 45 rfl rfl rfl) (opvs_cons rfl (opvs_cons rfl opvs_nil))) (Cal.mono (c_s_l1In ((p_0.Idxs.getD k30 d_Idx).Stage) 0 3) ?_))
          rintro v799 w798 ⟨rfl, hE800⟩
          exact ⟨rfl, hE800⟩
         ·exact fun _ _ h => OpR.want rfl rfl (h.dt 14 43 rfl rfl rfl) (not_t hb110) (Yl.sameI (yl_not rfl (h.dt 17 46 rfl rfl rfl) kI))
         ·exact fun _ _ h => os rfl ((yl_pick_f rfl (h.dt 14 43 rfl rfl rfl) (not_t hb110) (h.dt 18 47 rfl rfl rfl) kI))
         ·exact fun _ _ h => os rfl ((yl_move rfl (h.dt 19 48 rfl rfl rfl) kI))
         ·exact fun _ _ h => OpR.skip rfl rfl (h.dt 20 49 rfl rfl rfl) (not_f hb116) ⟨rfl, Ex.refl _⟩
         ·exact fun _ _ h => OpR.skip rfl rfl (h.dt 20 49 rfl rfl rfl) (not_f hb116) ⟨rfl, Ex.refl _⟩
         ·exact fun _ _ h => OpR.skip rfl rfl (h.dt 20 49 rfl rfl rfl) (not_f hb116) ⟨rfl, Ex.refl _⟩
         ·exact fun _ _ h => OpR.undef rfl rfl (h.dt 23 52 rfl rfl rfl) ⟨rfl, Ex.refl _⟩
         ·exact fun _ _ h => OpR.undef rfl rfl (h.dt 23 52 rfl rfl rfl) ⟨rfl, Ex.refl _⟩
         ·exact fun _ _ h => OpR.undef rfl rfl (h.dt 23 52 rfl rfl rfl) ⟨rfl, Ex.refl _⟩
         ·exact fun _ _ h => OpR.undef rfl rfl (h.dt 23 52 rfl rfl rfl) ⟨rfl, Ex.refl _⟩
         ·exact fun _ _ h => OpR.undef rfl rfl (h.dt 23 52 rfl rfl rfl) ⟨rfl, Ex.refl _⟩
         ·exact fun _ _ h => OpR.undef rfl rfl (h.dt 23 52 rfl rfl rfl) ⟨rfl, Ex.refl _⟩
         ·exact fun _ _ h => OpR.undef rfl rfl (h.dt 23 52 rfl rfl rfl) ⟨rfl, Ex.refl _⟩
         ·exact fun _ _ h => OpR.undef rfl rfl (h.dt 23 52 rfl rfl rfl) ⟨rfl, Ex.refl _⟩
         ·exact fun _ _ h => OpR.undef rfl rfl (h.dt 23 52 rfl rfl rfl) ⟨rfl, Ex.refl _⟩
         ·exact fun _ _ h => OpR.undef rfl rfl (h.dt 23 52 rfl rfl rfl) ⟨rfl, Ex.refl _⟩
         ·exact fun _ _ h => OpR.skip rfl rfl (h.dt 20 49 rfl rfl rfl) (not_f hb116) ⟨rfl, Ex.refl _⟩
         ·exact fun _ _ h => os rfl ((yl_pick_t rfl (h.dt 20 49 rfl rfl rfl) (not_f hb116) rfl kI))
         ·intro fl897 fh898 L894 w895 hp896
          have hE899 := hp896.ex
          have hE899z := Ex.size hE899
          refine SeqR.done (tn (CW.sub (Sub.cons (d := 1) (hp896.old 1 _ rfl rfl) (Sub.cons (d := 22) (hp896.old 22 _ rfl rfl) (Sub.cons (d := 23) (hp896.old 23 _ rfl rfl) (Sub.cons (d := 24) (hp896.old 24 _ rfl rfl) (Sub.cons (d := 34) (hp896.nt 5 34 rfl rfl rfl) (Sub.cons (d := 35) (hp896.nt 6 35 rfl rfl rfl) (Sub.cons (d := 36) (hp896.nt 7 36 rfl rfl rfl) (Sub.cons (d := 37) (hp896.nt 8 37 rfl rfl rfl) (Sub.cons (d := 38) (hp896.nt 9 38 rfl rfl rfl) (Sub.cons (d := 39) (hp896.nt 10 39 rfl rfl rfl) (Sub.cons (d := 40) (hp896.nt 11 40 rfl rfl rfl) (Sub.cons (d := 41) (hp896.nt 12 41 rfl rfl rfl) (Sub.cons (d := 44) (hp896.nt 15 44 rfl rfl rfl) (Sub.cons (d := 45) (hp896.nt 16 45 rfl rfl rfl) (Sub.cons (d := 46) (hp896.nt 17 46 rfl rfl rfl) (Sub.cons (d := 47) (hp896.nt 18 47 rfl rfl rfl) (Sub.cons (d := 50) (hp896.nt 21 50 rfl rfl rfl) (Sub.cons (d := 51) (hp896.nt 22 51 rfl rfl rfl) (Sub.cons (d := 52) (hp896.nt 23 52 rfl rfl rfl) (Sub.cons (d := 53) (hp896.nt 24 53 rfl rfl rfl) (Sub.cons (d := 54) (hp896.nt 25 54 rfl rfl rfl) (Sub.cons (d := 55) (hp896.nt 26 55 rfl rfl rfl) (Sub.cons (d := 56) (hp896.nt 27 56 rfl rfl rfl) (Sub.cons (d := 57) (hp896.nt 28 57 rfl rfl rfl) (Sub.cons (d := 58) (hp896.nt 29 58 rfl rfl rfl) (Sub.cons (d := 59) (hp896.nt 30 59 rfl rfl rfl) (Sub.cons (d := 60) (hp896.nt 31 60 rfl rfl rfl) (Sub.cons (d := 61) (hp896.nt 32 61 rfl rfl rfl) (Sub.cons (d := 62) (hp896.nt 33 62 rfl rfl rfl) (Sub.cons (d := 63) (hp896.nt 34 63 rfl rfl rfl) (Sub.cons (d := 64) (hp896.nt 35 64 rfl rfl rfl) (Sub.nil _)))))))))))))))))))))))))))))))) ?_))
          refine CW.cond_t rfl rfl (CW.seq (CW.region (sd rfl (yl_assign rfl rfl (SeqR.done (tn (CW.ret (br (tr ?_)))))))))
          refine tr ?_
          have hB932 : B_s_GoodTable_0 p_0 k30 () = .ret false := by simp only [B_s_GoodTable_0, hb16, hb23, hb25, hb105, hb110, hb116, cond_true, cond_false, loopE_done, loopE_ret]
          have hL931 : loopM (B_s_GoodTable_0 p_0) (p_0.Idxs.length - 0) 0 () = .ret false := hI82.symm.trans (loopM.ret hlt93 hB932)
          refine br (tr (rr rfl (.cons rfl .nil) ?_))
          have hM933 : (s_GoodTable p_0) = (false) := by simp only [s_GoodTable, hb16, hb23, hb25, hb105, hb110, hb116, hL931, cond_true, cond_false, loopE_done, loopE_ret]
          rw [hM933]
          exact ⟨rfl, (Ex.trans (Below.only (Ex.trans hf91 hE100) hO103 (by omega)) hE899)⟩
       ·refine CW.drawsI 36 (vgetI [DetI (.pointer (some ⟨b95, 0 + 0, none⟩)), DetI (.string (bs ((p_0.Idxs.getD k30 d_Idx).Name))), DetI (.bool ((s_l24Letters ((p_0.Idxs.getD k30 d_Idx).Name) 1))), DetI (.bool (!(s_l24Letters ((p_0.Idxs.getD k30 d_Idx).Name) 1))), DetI (.bool (!(s_l24Letters ((p_0.Idxs.getD k30 d_Idx).Name) 1))), DetI (.pointer (some ⟨b95, 0 + 1, none⟩)), DetI (.int .i64 ((p_0.Idxs.getD k30 d_Idx).Col)), DetI (.pointer (some ⟨b7, 0 + 1, none⟩)), DetI (.slice A1 p_0.Cols.length c1), DetI (.int .i64 ((p_0.Cols.length : Int))), DetI (.int .i64 (IntKind.wrap .i64 ((p_0.Cols.length : Int) - 1))), DetI (.bool ((s_l1In ((p_0.Idxs.getD k30 d_Idx).Col) 1 (IntKind.wrap .i64 ((p_0.Cols.length : Int) - 1))))), DetI (.bool (!(s_l1In ((p_0.Idxs.getD k30 d_Idx).Col) 1 (IntKind.wrap .i64 ((p_0.Cols.length : Int) - 1))))), DetI (.bool (!(s_l1In ((p_0.Idxs.getD k30 d_Idx).Col) 1 (IntKind.wrap .i64 ((p_0.Cols.length : Int) - 1))))), DetI (.bool (!(s_l1In ((p_0.Idxs.getD k30 d_Idx).Col) 1 (IntKind.wrap .i64 ((p_0.Cols.length : Int) - 1))))), DetI (undef), DetI (undef), DetI (undef), DetI (undef), DetI (.bool (true)), DetI (.bool (true)), DetI (undef), DetI (undef), DetI (undef), DetI (undef), DetI (undef), DetI (undef), DetI (undef), DetI (undef), DetI (undef), DetI (undef), DetI (undef), DetI (undef), DetI (undef), DetI (undef), DetI (.bool (true))]) Tryd.follows rfl rfl rfl rfl rfl rfl (vgetI_stable ⟨StableI.det _, StableI.det _, StableI.det _, StableI.det _, StableI.det _, StableI.det _, StableI.det _, StableI.det _, StableI.det _, StableI.det _, StableI.det _, StableI.det _, StableI.det _, StableI.det _, StableI.det _, StableI.det _, StableI.det _, StableI.det _, StableI.det _, StableI.det _, StableI.det _, StableI.det _, StableI.det _, StableI.det _, StableI.det _, StableI.det _, StableI.det _, StableI.det _, StableI.det _, StableI.det _, StableI.det _, StableI.det _, StableI.det _, StableI.det _, StableI.det _, StableI.det _, trivial⟩) ⟨?_, ?_, ?_, ?_, ?_, ?_, ?_, ?_, ?_, ?_, ?_, ?_, ?_, ?_, ?_, ?_, ?_, ?_, ?_, ?_, ?_, ?_, ?_, ?_, ?_, ?_, ?_, ?_, ?_, ?_, ?_, ?_, ?_, ?_, ?_, ?_, trivial⟩ ?_
        ·exact fun _ _ h => os rfl ((yl_fieldAddr Tryd.fd74_0 rfl (h.old 4 _ rfl rfl) kI))
        ·exact fun _ _ h => os rfl ((yl_load1 Tryd.ty9 rfl (h.dt 0 29 rfl rfl rfl) (((Box.ex hB102 h.ex).cell 0).trans rfl) kI))
        ·intro L952 w953 hi954
         refine OpR.op' rfl (yl_call Tryd.en43 rfl (opvs_cons (hi954.dt 1 30 rfl rfl rfl) (opvs_cons rfl opvs_nil)) (Cal.mono (c_s_l24Letters ((p_0.Idxs.getD k30 d_Idx).Name) 1 (okL.getD o3.2.2 ok_d_Idx _)) ?_))
         rintro v958 w957 ⟨rfl, hE959⟩
         exact ⟨rfl, hE959⟩
        ·exact fun _ _ h => os rfl ((yl_not rfl (h.dt 2 31 rfl rfl rfl) kI))
        ·exact fun _ _ h => os rfl ((yl_move rfl (h.dt 3 32 rfl rfl rfl) kI))
        ·exact fun _ _ h => OpR.want rfl rfl (h.dt 4 33 rfl rfl rfl) (not_t hb105) (Yl.sameI (yl_fieldAddr Tryd.fd74_1 rfl (h.old 4 _ rfl rfl) kI))
        ·exact fun _ _ h => OpR.want rfl rfl (h.dt 4 33 rfl rfl rfl) (not_t hb105) (Yl.sameI (yl_load1 Tryd.ty3 rfl (h.dt 5 34 rfl rfl rfl) (((Box.ex hB102 h.ex).cell 1).trans rfl) kI))
        ·exact fun _ _ h => OpR.want rfl rfl (h.dt 4 33 rfl rfl rfl) (not_t hb105) (Yl.sameI (yl_fieldAddr Tryd.fd36_1 rfl (h.old 1 _ rfl rfl) kI))
        ·intro L989 w990 hi991
         have hE992 := hi991.ex
         have hE992z := Ex.size hE992
         exact OpR.want rfl rfl (hi991.dt 4 33 rfl rfl rfl) (not_t hb105) (Yl.sameI (yl_load1 Tryd.ty22 rfl (hi991.dt 7 36 rfl rfl rfl) (((Box.ex (Box.only (Box.ex hf88 hE100) hO103 (by omega)) hE992).cell 1).trans rfl) kI))
        ·exact fun _ _ h => OpR.want rfl rfl (h.dt 4 33 rfl rfl rfl) (not_t hb105) (Yl.sameI (yl_len Tryd.un22 rfl (h.dt 8 37 rfl rfl rfl) kI))
        ·exact fun _ _ h => OpR.want rfl rfl (h.dt 4 33 rfl rfl rfl) (not_t hb105) (Yl.sameI (yl_sub rfl (h.dt 9 38 rfl rfl rfl) rfl kI))
        ·intro L1008 w1009 hi1010
         refine OpR.want rfl rfl (hi1010.dt 4 33 rfl rfl rfl) (not_t hb105) (yl_call Tryd.en45 rfl (opvs_cons (hi1010.dt 6 35 rfl rfl rfl) (opvs_cons rfl (opvs_cons (hi1010.dt 10 39 rfl rfl rfl) opvs_nil))) (Cal.mono (c_s_l1In ((p_0.Idxs.getD k30 d_Idx).Col) 1 (IntKind.wrap .i64 ((p_0.Cols.length : Int) - 1))) ?_))
         rintro v1016 w1015 ⟨rfl, hE1017⟩
         exact ⟨rfl, hE1017⟩
        ·exact fun _ _ h => OpR.want rfl rfl (h.dt 4 33 rfl rfl rfl) (not_t hb105) (Yl.sameI (yl_not rfl (h.dt 11 40 rfl rfl rfl) kI))
        ·exact fun _ _ h => os rfl ((yl_pick_f rfl (h.dt 4 33 rfl rfl rfl) (not_t hb105) (h.dt 12 41 rfl rfl rfl) kI))
        ·exact fun _ _ h => os rfl ((yl_move rfl (h.dt 13 42 rfl rfl rfl) kI))
        ·exact fun _ _ h => OpR.skip rfl rfl (h.dt 14 43 rfl rfl rfl) (not_f hb110) ⟨rfl, Ex.refl _⟩
        ·exact fun _ _ h => OpR.skip rfl rfl (h.dt 14 43 rfl rfl rfl) (not_f hb110) ⟨rfl, Ex.refl _⟩
        ·exact fun _ _ h => OpR.skip rfl rfl (h.dt 14 43 rfl rfl rfl) (not_f hb110) ⟨rfl, Ex.refl _⟩
        ·exact fun _ _ h => OpR.skip rfl rfl (h.dt 14 43 rfl rfl rfl) (not_f hb110) ⟨rfl, Ex.refl _⟩
        ·exact fun _ _ h => os rfl ((yl_pick_t rfl (h.dt 14 43 rfl rfl rfl) (not_f hb110) rfl kI))
        ·exact fun _ _ h => os rfl ((yl_move rfl (h.dt 19 48 rfl rfl rfl) kI))
        ·exact fun _ _ h => OpR.skip rfl rfl (h.dt 20 49 rfl rfl rfl) rfl ⟨rfl, Ex.refl _⟩
        ·exact fun _ _ h => OpR.skip rfl rfl (h.dt 20 49 rfl rfl rfl) rfl ⟨rfl, Ex.refl _⟩
        ·exact fun _ _ h => OpR.skip rfl rfl (h.dt 20 49 rfl rfl rfl) rfl ⟨rfl, Ex.refl _⟩
        ·exact fun _ _ h => OpR.undef rfl rfl (h.dt 23 52 rfl rfl rfl) ⟨rfl, Ex.refl _⟩
        ·exact fun _ _ h => OpR.undef rfl rfl (h.dt 23 52 rfl rfl rfl) ⟨rfl, Ex.refl _⟩
        ·exact fun _ _ h => OpR.undef rfl rfl (h.dt 23 52 rfl rfl rfl) ⟨rfl, Ex.refl _⟩
        ·exact fun _ _ h => OpR.undef rfl rfl (h.dt 23 52 rfl rfl rfl) ⟨rfl, Ex.refl _⟩
        ·exact fun _ _ h => OpR.undef rfl rfl (h.dt 23 52 rfl rfl rfl) ⟨rfl, Ex.refl _⟩
        ·exact fun _ _ h => OpR.undef rfl rfl (h.dt 23 52 rfl rfl rfl) ⟨rfl, Ex.refl _⟩
        ·exact fun _ _ h => OpR.undef rfl rfl (h.dt 23 52 rfl rfl rfl) ⟨rfl, Ex.refl _⟩
        ·exact fun _ _ h => OpR.undef rfl rfl (h.dt 23 52 rfl rfl rfl) ⟨rfl, Ex.refl _⟩
        ·exact fun _ _ h => OpR.undef rfl rfl (h.dt 23 52 rfl rfl rfl) ⟨rfl, Ex.refl _⟩
        ·exact fun _ _ h => OpR.undef rfl rfl (h.dt 23 52 rfl rfl rfl) ⟨rfl, Ex.refl _⟩
        ·exact fun _ _ h => OpR.skip rfl rfl (h.dt 20 49 rfl rfl rfl) rfl ⟨rfl, Ex.refl _⟩
        ·exact fun _ _ h => os rfl ((yl_pick_t rfl (h.dt 20 49 rfl rfl rfl) rfl rfl kI))
        ·intro fl1145 fh1146 L1142 w1143 hp1144
         have hE1147 := hp1144.ex
         have hE1147z := Ex.size hE1147
         refine SeqR.done (tn (CW.sub (Sub.cons (d := 1) (hp1144.old 1 _ rfl rfl) (Sub.cons (d := 22) (hp1144.old 22 _ rfl rfl) (Sub.cons (d := 23) (hp1144.old 23 _ rfl rfl) (Sub.cons (d := 24) (hp1144.old 24 _ rfl rfl) (Sub.cons (d := 34) (hp1144.nt 5 34 rfl rfl rfl) (Sub.cons (d := 35) (hp1144.nt 6 35 rfl rfl rfl) (Sub.cons (d := 36) (hp1144.nt 7 36 rfl rfl rfl) (Sub.cons (d := 37) (hp1144.nt 8 37 rfl rfl rfl) (Sub.cons (d := 38) (hp1144.nt 9 38 rfl rfl rfl) (Sub.cons (d := 39) (hp1144.nt 10 39 rfl rfl rfl) (Sub.cons (d := 40) (hp1144.nt 11 40 rfl rfl rfl) (Sub.cons (d := 41) (hp1144.nt 12 41 rfl rfl rfl) (Sub.cons (d := 44) (hp1144.nt 15 44 rfl rfl rfl) (Sub.cons (d := 45) (hp1144.nt 16 45 rfl rfl rfl) (Sub.cons (d := 46) (hp1144.nt 17 46 rfl rfl rfl) (Sub.cons (d := 47) (hp1144.nt 18 47 rfl rfl rfl) (Sub.cons (d := 50) (hp1144.nt 21 50 rfl rfl rfl) (Sub.cons (d := 51) (hp1144.nt 22 51 rfl rfl rfl) (Sub.cons (d := 52) (hp1144.nt 23 52 rfl rfl rfl) (Sub.cons (d := 53) (hp1144.nt 24 53 rfl rfl rfl) (Sub.cons (d := 54) (hp1144.nt 25 54 rfl rfl rfl) (Sub.cons (d := 55) (hp1144.nt 26 55 rfl rfl rfl) (Sub.cons (d := 56) (hp1144.nt 27 56 rfl rfl rfl) (Sub.cons (d := 57) (hp1144.nt 28 57 rfl rfl rfl) (Sub.cons (d := 58) (hp1144.nt 29 58 rfl rfl rfl) (Sub.cons (d := 59) (hp1144.nt 30 59 rfl rfl rfl) (Sub.cons (d := 60) (hp1144.nt 31 60 rfl rfl rfl) (Sub.cons (d := 61) (hp1144.nt 32 61 rfl rfl rfl) (Sub.cons (d := 62) (hp1144.nt 33 62 rfl rfl rfl) (Sub.cons (d := 63) (hp1144.nt 34 63 rfl rfl rfl) (Sub.cons (d := 64) (hp1144.nt 35 64 rfl rfl rfl) (Sub.nil _)))))))))))))))))))))))))))))))) ?_))
         refine CW.cond_t rfl rfl (CW.seq (CW.region (sd rfl (yl_assign rfl rfl (SeqR.done (tn (CW.ret (br (tr ?_)))))))))
         refine tr ?_
         have hB1180 : B_s_GoodTable_0 p_0 k30 () = .ret false := by simp only [B_s_GoodTable_0, hb16, hb23, hb25, hb105, hb110, cond_true, cond_false, loopE_done, loopE_ret]
         have hL1179 : loopM (B_s_GoodTable_0 p_0) (p_0.Idxs.length - 0) 0 () = .ret false := hI82.symm.trans (loopM.ret hlt93 hB1180)
         refine br (tr (rr rfl (.cons rfl .nil) ?_))
         have hM1181 : (s_GoodTable p_0) = (false) := by simp only [s_GoodTable, hb16, hb23, hb25, hb105, hb110, hL1179, cond_true, cond_false, loopE_done, loopE_ret]
         rw [hM1181]
         exact ⟨rfl, (Ex.trans (Below.only (Ex.trans hf91 hE100) hO103 (by omega)) hE1147)⟩
      ·refine CW.drawsI 36 (vgetI [DetI (.pointer (some ⟨b95, 0 + 0, none⟩)), DetI (.string (bs ((p_0.Idxs.getD k30 d_Idx).Name))), DetI (.bool ((s_l24Letters ((p_0.Idxs.getD k30 d_Idx).Name) 1))), DetI (.bool (!(s_l24Letters ((p_0.Idxs.getD k30 d_Idx).Name) 1))), DetI (.bool (!(s_l24Letters ((p_0.Idxs.getD k30 d_Idx).Name) 1))), DetI (undef), DetI (undef), DetI (undef), DetI (undef), DetI (undef), DetI (undef), DetI (undef), DetI (undef), DetI (.bool (true)), DetI (.bool (true)), DetI (undef), DetI (undef), DetI (undef), DetI (undef), DetI (.bool (true)), DetI (.bool (true)), DetI (undef), DetI (undef), DetI (undef), DetI (undef), DetI (undef), DetI (undef), DetI (undef), DetI (undef), DetI (undef), DetI (undef), DetI (undef), DetI (undef), DetI (undef), DetI (undef), DetI (.bool (true))]) Tryd.follows rfl rfl rfl rfl rfl rfl (vgetI_stable ⟨StableI.det _, StableI.det _, StableI.det _, StableI.det _, StableI.det _, StableI.det _, StableI.det _, StableI.det _, StableI.det _, StableI.det _, StableI.det _, StableI.det _, StableI.det _, StableI.det _, StableI.det _, StableI.det _, StableI.det _, StableI.det _, StableI.det _, StableI.det _, StableI.det _, StableI.det _, StableI.det _, StableI.det _, StableI.det _, StableI.det _, StableI.det _, StableI.det _, StableI.det _, StableI.det _, StableI.det _, StableI.det _, StableI.det _, StableI.det _, StableI.det _, StableI.det _, trivial⟩) ⟨?_, ?_, ?_, ?_, ?_, ?_, ?_, ?_, ?_, ?_, ?_, ?_, ?_, ?_, ?_, ?_, ?_, ?_, ?_, ?_, ?_, ?_, ?_, ?_, ?_, ?_, ?_, ?_, ?_, ?_, ?_, ?_, ?_, ?_, ?_, ?_, trivial⟩ ?_
       ·exact fun _ _ h => os rfl ((yl_fieldAddr Tryd.fd74_0 rfl (h.old 4 _ rfl rfl) kI))
       ·exact fun _ _ h => os rfl ((yl_load1 Tryd.ty9 rfl (h.dt 0 29 rfl rfl rfl) (((Box.ex hB102 h.ex).cell 0).trans rfl) kI))
       ·intro L1197 w1198 hi1199
        refine OpR.op' rfl (yl_call Tryd.en43 rfl (opvs_cons (hi1199.dt 1 30 rfl rfl rfl) (opvs_cons rfl opvs_nil)) (Cal.mono (c_s_l24Letters ((p_0.Idxs.getD k30 d_Idx).Name) 1 (okL.getD o3.2.2 ok_d_Idx _)) ?_))
        rintro v1203 w1202 ⟨rfl, hE1204⟩
        exact ⟨rfl, hE1204⟩
       ·exact fun _ _ h => os rfl ((yl_not rfl (h.dt 2 31 rfl rfl rfl) kI))
       ·exact fun _ _ h => os rfl ((yl_move rfl (h.dt 3 32 rfl rfl rfl) kI))
       ·exact fun _ _ h => OpR.skip rfl rfl (h.dt 4 33 rfl rfl rfl) (not_f hb105) ⟨rfl, Ex.refl _⟩
       ·exact fun _ _ h => OpR.skip rfl rfl (h.dt 4 33 rfl rfl rfl) (not_f hb105) ⟨rfl, Ex.refl _⟩
       ·exact fun _ _ h => OpR.skip rfl rfl (h.dt 4 33 rfl rfl rfl) (not_f hb105) ⟨rfl, Ex.refl _⟩
       ·exact fun _ _ h => OpR.skip rfl rfl (h.dt 4 33 rfl rfl rfl) (not_f hb105) ⟨rfl, Ex.refl _⟩
       ·exact fun _ _ h => OpR.skip rfl rfl (h.dt 4 33 rfl rfl rfl) (not_f hb105) ⟨rfl, Ex.refl _⟩
       ·exact fun _ _ h => OpR.skip rfl rfl (h.dt 4 33 rfl rfl rfl) (not_f hb105) ⟨rfl, Ex.refl _⟩
       ·exact fun _ _ h => OpR.skip rfl rfl (h.dt 4 33 rfl rfl rfl) (not_f hb105) ⟨rfl, Ex.refl _⟩
       ·exact fun _ _ h => OpR.skip rfl rfl (h.dt 4 33 rfl rfl rfl) (not_f hb105) ⟨rfl, Ex.refl _⟩
       ·exact fun _ _ h => os rfl ((yl_pick_t rfl (h.dt 4 33 rfl rfl rfl) (not_f hb105) rfl kI))
       ·exact fun _ _ h => os rfl ((yl_move rfl (h.dt 13 42 rfl rfl rfl) kI))
       ·exact fun _ _ h => OpR.skip rfl rfl (h.dt 14 43 rfl rfl rfl) rfl ⟨rfl, Ex.refl _⟩
       ·exact fun _ _ h => OpR.skip rfl rfl (h.dt 14 43 rfl rfl rfl) rfl ⟨rfl, Ex.refl _⟩
       ·exact fun _ _ h => OpR.skip rfl rfl (h.dt 14 43 rfl rfl rfl) rfl ⟨rfl, Ex.refl _⟩
       ·exact fun _ _ h => OpR.skip rfl rfl (h.dt 14 43 rfl rfl rfl) rfl ⟨rfl, Ex.refl _⟩
       ·exact fun _ _ h => os rfl ((yl_pick_t rfl (h.dt 14 43 rfl rfl rfl) rfl rfl kI))
       ·exact fun _ _ h => os rfl ((yl_move rfl (h.dt 19 48 rfl rfl rfl) kI))
       ·exact fun _ _ h => OpR.skip rfl rfl (h.dt 20 49 rfl rfl rfl) rfl ⟨rfl, Ex.refl _⟩
       ·exact fun _ _ h => OpR.skip rfl rfl (h.dt 20 49 rfl rfl rfl) rfl ⟨rfl, Ex.refl _⟩
       ·exact fun _ _ h => OpR.skip rfl rfl (h.dt 20 49 rfl rfl rfl) rfl ⟨rfl, Ex.refl _⟩
       ·exact fun _ _ h => OpR.undef rfl rfl (h.dt 23 52 rfl rfl rfl) ⟨rfl, Ex.refl _⟩
       ·exact fun _ _ h => OpR.undef rfl rfl (h.dt 23 52 rfl rfl rfl) ⟨rfl, Ex.refl _⟩
       ·exact fun _ _ h => OpR.undef rfl rfl (h.dt 23 52 rfl rfl rfl) ⟨rfl, Ex.refl _⟩
       ·exact fun _ _ h => OpR.undef rfl rfl (h.dt 23 52 rfl rfl rfl) ⟨rfl, Ex.refl _⟩
       ·exact fun _ _ h => OpR.undef rfl rfl (h.dt 23 52 rfl rfl rfl) ⟨rfl, Ex.refl _⟩
       ·exact fun _ _ h => OpR.undef rfl rfl (h.dt 23 52 rfl rfl rfl) ⟨rfl, Ex.refl _⟩
       ·exact fun _ _ h => OpR.undef rfl rfl (h.dt 23 52 rfl rfl rfl) ⟨rfl, Ex.refl _⟩
       ·exact fun _ _ h => OpR.undef rfl rfl (h.dt 23 52 rfl rfl rfl) ⟨rfl, Ex.refl _⟩
       ·exact fun _ _ h => OpR.undef rfl rfl (h.dt 23 52 rfl rfl rfl) ⟨rfl, Ex.refl _⟩
       ·exact fun _ _ h => OpR.undef rfl rfl (h.dt 23 52 rfl rfl rfl) ⟨rfl, Ex.refl _⟩
       ·exact fun _ _ h => OpR.skip rfl rfl (h.dt 20 49 rfl rfl rfl) rfl ⟨rfl, Ex.refl _⟩
       ·exact fun _ _ h => os rfl ((yl_pick_t rfl (h.dt 20 49 rfl rfl rfl) rfl rfl kI))
       ·intro fl1376 fh1377 L1373 w1374 hp1375
        have hE1378 := hp1375.ex
        have hE1378z := Ex.size hE1378
        refine SeqR.done (tn (CW.sub (Sub.cons (d := 1) (hp1375.old 1 _ rfl rfl) (Sub.cons (d := 22) (hp1375.old 22 _ rfl rfl) (Sub.cons (d := 23) (hp1375.old 23 _ rfl rfl) (Sub.cons (d := 24) (hp1375.old 24 _ rfl rfl) (Sub.cons (d := 34) (hp1375.nt 5 34 rfl rfl rfl) (Sub.cons (d := 35) (hp1375.nt 6 35 rfl rfl rfl) (Sub.cons (d := 36) (hp1375.nt 7 36 rfl rfl rfl) (Sub.cons (d := 37) (hp1375.nt 8 37 rfl rfl rfl) (Sub.cons (d := 38) (hp1375.nt 9 38 rfl rfl rfl) (Sub.cons (d := 39) (hp1375.nt 10 39 rfl rfl rfl) (Sub.cons (d := 40) (hp1375.nt 11 40 rfl rfl rfl) (Sub.cons (d := 41) (hp1375.nt 12 41 rfl rfl rfl) (Sub.cons (d := 44) (hp1375.nt 15 44 rfl rfl rfl) (Sub.cons (d := 45) (hp1375.nt 16 45 rfl rfl rfl) (Sub.cons (d := 46) (hp1375.nt 17 46 rfl rfl rfl) (Sub.cons (d := 47) (hp1375.nt 18 47 rfl rfl rfl) (Sub.cons (d := 50) (hp1375.nt 21 50 rfl rfl rfl) (Sub.cons (d := 51) (hp1375.nt 22 51 rfl rfl rfl) (Sub.cons (d := 52) (hp1375.nt 23 52 rfl rfl rfl) (Sub.cons (d := 53) (hp1375.nt 24 53 rfl rfl rfl) (Sub.cons (d := 54) (hp1375.nt 25 54 rfl rfl rfl) (Sub.cons (d := 55) (hp1375.nt 26 55 rfl rfl rfl) (Sub.cons (d := 56) (hp1375.nt 27 56 rfl rfl rfl) (Sub.cons (d := 57) (hp1375.nt 28 57 rfl rfl rfl) (Sub.cons (d := 58) (hp1375.nt 29 58 rfl rfl rfl) (Sub.cons (d := 59) (hp1375.nt 30 59 rfl rfl rfl) (Sub.cons (d := 60) (hp1375.nt 31 60 rfl rfl rfl) (Sub.cons (d := 61) (hp1375.nt 32 61 rfl rfl rfl) (Sub.cons (d := 62) (hp1375.nt 33 62 rfl rfl rfl) (Sub.cons (d := 63) (hp1375.nt 34 63 rfl rfl rfl) (Sub.cons (d := 64) (hp1375.nt 35 64 rfl rfl rfl) (Sub.nil _)))))))))))))))))))))))))))))))) ?_))
        refine CW.cond_t rfl rfl (CW.seq (CW.region (sd rfl (yl_assign rfl rfl (SeqR.done (tn (CW.ret (br (tr ?_)))))))))
        refine tr ?_
        have hB1411 : B_s_GoodTable_0 p_0 k30 () = .ret false := by simp only [B_s_GoodTable_0, hb16, hb23, hb25, hb105, cond_true, cond_false, loopE_done, loopE_ret]
        have hL1410 : loopM (B_s_GoodTable_0 p_0) (p_0.Idxs.length - 0) 0 () = .ret false := hI82.symm.trans (loopM.ret hlt93 hB1411)
        refine br (tr (rr rfl (.cons rfl .nil) ?_))
        have hM1412 : (s_GoodTable p_0) = (false) := by simp only [s_GoodTable, hb16, hb23, hb25, hb105, hL1410, cond_true, cond_false, loopE_done, loopE_ret]
        rw [hM1412]
        exact ⟨rfl, (Ex.trans (Below.only (Ex.trans hf91 hE100) hO103 (by omega)) hE1378)⟩
     ·refine CW.seq (CW.region (sd rfl (yl_lss rfl rfl rfl (SeqR.done (tn (CW.seq (CW.cond_f rfl (lt_f hlt93) (CW.exit (tx ?_)))))))))
      refine tx ?_
      have hL1416 : loopM (B_s_GoodTable_0 p_0) (p_0.Idxs.length - 0) 0 () = .done () := hI82.symm.trans (loopM.stop hlt93)
      refine bx (tn (CW.seq (CW.region (sd rfl (yl_assign rfl rfl (SeqR.done (tn (CW.ret (rr rfl (.cons rfl .nil) ?_)))))))))
      have hM1417 : (s_GoodTable p_0) = (true) := by simp only [s_GoodTable, hb16, hb23, hb25, hL1416, cond_true, cond_false, loopE_done, loopE_ret]
      rw [hM1417]
      exact ⟨rfl, hf91⟩
  ·refine sz rfl rfl (not_f hb23) (sz rfl rfl (not_f hb23) (sz rfl rfl (not_f hb23) (sz rfl rfl (not_f hb23) (sd rfl (yl_pick_t rfl rfl (not_f hb23) rfl (SeqR.done (tn (CW.cond_t rfl rfl (CW.seq ?_)))))))))
   refine CW.region (sd rfl (yl_assign rfl rfl (SeqR.done (tn (CW.ret (tr (rr rfl (.cons rfl .nil) ?_)))))))
   have hM1418 : (s_GoodTable p_0) = (false) := by simp only [s_GoodTable, hb16, hb23, cond_true, cond_false, loopE_done, loopE_ret]
   rw [hM1418]
   exact ⟨rfl, (Ex.trans (Ex.trans (Ex.trans (Ex.refl w) hE12) hE15) hE22)⟩
 ·refine sz rfl rfl (not_f hb16) (sz rfl rfl (not_f hb16) (sz rfl rfl (not_f hb16) (sz rfl rfl (not_f hb16) (sd rfl (yl_pick_t rfl rfl (not_f hb16) rfl (sd rfl (yl_move rfl rfl (sz rfl rfl rfl (sz rfl rfl rfl (sz rfl rfl rfl ?_))))))))))
  refine sz rfl rfl rfl (sd rfl (yl_pick_t rfl rfl rfl rfl (SeqR.done (tn (CW.cond_t rfl rfl (CW.seq (CW.region (sd rfl (yl_assign rfl rfl (SeqR.done ?_))))))))))
  refine tn (CW.ret (tr (rr rfl (.cons rfl .nil) ?_)))
  have hM1422 : (s_GoodTable p_0) = (false) := by simp only [s_GoodTable, hb16, cond_true, cond_false, loopE_done, loopE_ret]
  rw [hM1422]
  exact ⟨rfl, (Ex.trans (Ex.trans (Ex.refl w) hE12) hE15)⟩
set_option maxRecDepth 100000 in
set_option maxHeartbeats 2000000 in
theorem c_s_l1Split {w : World} (p_s : Str) (p_b : Int) (o1 : okS p_s) : Cal Tryd.prog 40 #[.string (bs (p_s)), .int .u8 (p_b)] w fun v w' => ∃ A_1 c_1 lo_1 hi_1, v = .slice A_1 ((s_l1Split p_s p_b).length) c_1 ∧ OwnL w' lo_1 hi_1 9 1 (RF e_Str) A_1 ((s_l1Split p_s p_b).length) c_1 (s_l1Split p_s p_b) ∧ (w.heap.size ≤ lo_1 ∧ lo_1 ≤ hi_1 ∧ hi_1 ≤ w'.heap.size) ∧ Ex w w' := by
 have hol2 : p_s.length ≤ 1073741824 := o1
 refine Cal.of (vs := [.string (bs (p_s)), .int .u8 (p_b)]) Tryd.func40 rfl Tryd.ntmps40 rfl (CW.seq (CW.region (sd rfl (yl_assign rfl rfl (SeqR.done (tn (CW.seq (CW.region (sd rfl (yl_assign rfl rfl ?_))))))))))
 refine SeqR.done (tn (CW.seq (CW.region (sd rfl (yl_assign rfl rfl (SeqR.done (tn (CW.seq (CW.seq ?_)))))))))
 refine CW.region (sd rfl (yl_assign rfl rfl (SeqR.done (tn (CW.block (CW.loop (fun m26 L27 w28 => ∃ (k3 : Nat) (x21 : List Str) (x25 : Int) (A22 : Option Addr) (c23 : Nat) (u24 : Nat), m26 = p_s.length - k3 ∧ k3 ≤ p_s.length ∧ w.heap.size ≤ w28.heap.size ∧ lkp L27 0 = some (.string (bs (p_s))) ∧ lkp L27 1 = some (.int .u8 (p_b)) ∧ lkp L27 5 = some (.slice A22 x21.length c23) ∧ lkp L27 6 = some (.int .i64 (x25)) ∧ lkp L27 7 = some (.int .i64 ((k3 : Int))) ∧ OwnL w28 w.heap.size u24 9 1 (RF e_Str) A22 x21.length c23 x21 ∧ Ex w w28 ∧ (w.heap.size ≤ u24 ∧ u24 ≤ w28.heap.size) ∧ x21.length ≤ 0 + 1 * (k3 - 0) ∧ (∀ y ∈ x21, okS y) ∧ 0 ≤ x25 ∧ x25 ≤ (k3 : Int) ∧ loopM (B_s_l1Split_0 p_s p_b) (p_s.length - k3) k3 (x21, x25) = loopM (B_s_l1Split_0 p_s p_b) (p_s.length - 0) 0 (([] : List Str), 0)) (p_s.length - 0) ?_ ?_))))))
 ·exact ⟨0, ([] : List Str), 0, none, 0, w.heap.size, rfl, (by omega), Nat.le_refl _, rfl, rfl, rfl, rfl, rfl, (OwnL.nil w w.heap.size w.heap.size 9 1 (RF e_Str)), (Ex.refl w), (by omega), (by first | (simp; done) | (first | omega | (simp only [List.length_append, List.length_cons, List.length_nil, List.length_set, toS_length]; omega))), okE.nil, (by first | omega | assumption | (simp only [IntKind.wrap_i64] at *; omega)), (by first | omega | assumption | (simp only [IntKind.wrap_i64] at *; omega)), rfl⟩
 ·rintro m29 L30 w31 ⟨k3, x21, x25, A22, c23, u24, rfl, hk32, hsz34, hl35, hl36, hl37, hl38, hl39, hf40, hf41, hu42, hln43, hok44, hv45, hv46, hI33⟩
  refine CW.sub (Sub.cons hl35 (Sub.cons hl36 (Sub.cons hl37 (Sub.cons hl38 (Sub.cons hl39 (Sub.nil _)))))) ?_
  have hf41z := Ex.size hf41
  have hbg47 : p_s.length ≤ 1073741824 := o1
  rcases Nat.lt_or_ge k3 p_s.length with hlt48 | hlt48
  ·refine CW.seq (CW.seq (CW.region (sd rfl (yl_move rfl rfl (sd rfl (yl_move rfl rfl (sd rfl (yl_slen Tryd.un9 (a := p_s) rfl rfl (sd rfl (yl_lss rfl rfl rfl (SeqR.done (tn ?_))))))))))))
   refine CW.cond_t rfl (lt_t hlt48) (CW.skip (tn (CW.seq (CW.block (CW.seq (CW.region (sd rfl (yl_move rfl rfl (sd rfl (yl_move rfl rfl ?_))))))))))
   refine sd rfl (yl_sindexN Tryd.un9 (a := p_s) rfl rfl rfl (by first | omega | assumption | (simp only [IntKind.wrap_i64] at *; omega)) (sd rfl (yl_move rfl rfl (sd rfl (yl_eql rfl rfl rfl (SeqR.done (tn (bcase (decide (((p_s.getD k3 0).toNat : Int) = p_b)) (fun hb49 => ?_) (fun hb49 => ?_)))))))))
   ·have hb49p := dec_t hb49
    refine CW.cond_t rfl hb49 (CW.seq (CW.region (sd rfl (yl_move rfl rfl (sd rfl (yl_move rfl rfl (sd rfl (yl_move rfl rfl (sd rfl (yl_move rfl rfl (sd rfl (yl_sslice_lh Tryd.un9 (a := p_s) (l := (x25).toNat) (h := k3) rfl rfl (toNat_op rfl (by omega)) rfl (by omega) (by omega) (sd rfl (yl_buildSlice (cs := [.string (bs (((p_s.take k3).drop ((x25).toNat))))]) Tryd.un22 Tryd.ty9 (by decide) rfl (opvs_cons rfl opvs_nil) (by kernel_rfl) ?_))))))))))))))
    intro b50 w51 hs52 hz53 hB54 hE55
    have hO56 : OwnL w51 b50 (b50 + 1) 9 1 (RF e_Str) (some ⟨b50, 0, none⟩) 1 1 ([((p_s.take k3).drop ((x25).toNat))] : List Str) := OwnL.of_box (S := fun _ => False) hB54 (Nat.le_refl _) (Nat.lt_succ_self _) (EncL.cons (c := [.string (bs (((p_s.take k3).drop ((x25).toNat))))]) rfl rfl EncL.nil) (Nat.le_of_ble_eq_true rfl) (fun h => h) (fun _ h => False.elim h)
    refine sd rfl (yl_appendL (S := (fun _ => False)) (lo := w.heap.size) (hi := u24) (xs := x21) (ys := ([((p_s.take k3).drop ((x25).toNat))] : List Str)) good_Str Tryd.un22 Tryd.ty9 rfl (Nat.le_of_ble_eq_true rfl) rfl rfl rfl (OwnL.ex good_Str hf40 hE55) (EncL.cons (c := [.string (bs (((p_s.take k3).drop ((x25).toNat))))]) rfl rfl EncL.nil) (Or.inr ⟨_, _, rfl, rfl, hB54.cells (o := 0) (n := 1) rfl⟩) rfl (by first | omega | (simp only [List.length_append, List.length_cons, List.length_nil, List.length_take, List.length_drop, List.length_replicate, List.length_set, toS_length]; omega)) (by first | omega | (simp only [List.length_append, List.length_cons, List.length_nil, List.length_take, List.length_drop, List.length_replicate, List.length_set, toS_length]; omega)) (by omega) (by omega) (fun _ h _ => False.elim h) (by omega) ?_)
    intro A58 c59 w60 row61 hO62 hG63 hrg64
    have hG63z := hG63.size
    refine sd rfl (yl_assign rfl rfl (SeqR.done (tn (CW.region (sd rfl (yl_move rfl rfl (sd rfl (yl_inc rfl rfl rfl (by omega) (sd rfl (yl_assign rfl rfl (SeqR.done (bn ?_))))))))))))
    refine tn (CW.region (sd rfl (yl_move rfl rfl (sd rfl (yl_inc rfl rfl rfl (by omega) (sd rfl (yl_assign rfl rfl (SeqR.done (tn ?_)))))))))
    have hB65 : B_s_l1Split_0 p_s p_b k3 (x21, x25) = .cont ((x21 ++ ([((p_s.take k3).drop ((x25).toNat))] : List Str)), ((k3 + 1 : Nat) : Int)) := by simp only [B_s_l1Split_0, hb49, cond_true, cond_false, loopE_done, loopE_ret]
    exact ⟨p_s.length - (k3 + 1), by omega, k3 + 1, (x21 ++ ([((p_s.take k3).drop ((x25).toNat))] : List Str)), ((k3 + 1 : Nat) : Int), A58, c59, w60.heap.size, rfl, hlt48, (by omega), rfl, rfl, rfl, rfl, rfl, hO62, (Below.grown (Ex.trans hf41 hE55) hG63 (by omega) (fun k hk => by have := hrg64 k hk; omega)), (by omega), (by first | omega | (simp only [List.length_append, List.length_cons, List.length_nil, List.length_set, toS_length]; omega)), (okE.append hok44 ((okL.mk (Nat.le_of_ble_eq_true rfl) (okE.cons (okS.drop (okS.take o1 _) _) okE.nil))).2), (by first | omega | assumption | (simp only [IntKind.wrap_i64] at *; omega)), (by first | omega | assumption | (simp only [IntKind.wrap_i64] at *; omega)), (loopM.cont hlt48 hB65).symm.trans hI33⟩
   ·have hb49p := dec_f hb49
    refine CW.cond_f rfl hb49 (CW.skip (bn (tn (CW.region (sd rfl (yl_move rfl rfl (sd rfl (yl_inc rfl rfl rfl (by omega) (sd rfl (yl_assign rfl rfl (SeqR.done ?_)))))))))))
    refine tn ?_
    have hB68 : B_s_l1Split_0 p_s p_b k3 (x21, x25) = .cont (x21, x25) := by simp only [B_s_l1Split_0, hb49, cond_true, cond_false, loopE_done, loopE_ret]
    exact ⟨p_s.length - (k3 + 1), by omega, k3 + 1, x21, x25, A22, c23, u24, rfl, hlt48, (by omega), rfl, rfl, rfl, rfl, rfl, hf40, hf41, (by omega), (by first | omega | (simp only [List.length_append, List.length_cons, List.length_nil, List.length_set, toS_length]; omega)), hok44, (by first | omega | assumption | (simp only [IntKind.wrap_i64] at *; omega)), (by first | omega | assumption | (simp only [IntKind.wrap_i64] at *; omega)), (loopM.cont hlt48 hB68).symm.trans hI33⟩
  ·refine CW.seq (CW.seq (CW.region (sd rfl (yl_move rfl rfl (sd rfl (yl_move rfl rfl (sd rfl (yl_slen Tryd.un9 (a := p_s) rfl rfl (sd rfl (yl_lss rfl rfl rfl (SeqR.done (tn ?_))))))))))))
   refine CW.cond_f rfl (lt_f hlt48) (CW.exit (tx (tx ?_)))
   have hL69 : loopM (B_s_l1Split_0 p_s p_b) (p_s.length - 0) 0 (([] : List Str), 0) = .done (x21, x25) := hI33.symm.trans (loopM.stop hlt48)
   refine bx (tn (CW.seq (CW.region (sd rfl (yl_move rfl rfl (sd rfl (yl_move rfl rfl (sd rfl (yl_move rfl rfl (sd rfl (yl_sslice_lo Tryd.un9 (a := p_s) (l := (x25).toNat) rfl rfl (toNat_op rfl (by omega)) (by omega) (sd rfl (yl_buildSlice (cs := [.string (bs ((p_s.drop ((x25).toNat))))]) Tryd.un22 Tryd.ty9 (by decide) rfl (opvs_cons rfl opvs_nil) (by kernel_rfl) ?_)))))))))))))
   intro b70 w71 hs72 hz73 hB74 hE75
   have hO76 : OwnL w71 b70 (b70 + 1) 9 1 (RF e_Str) (some ⟨b70, 0, none⟩) 1 1 ([(p_s.drop ((x25).toNat))] : List Str) := OwnL.of_box (S := fun _ => False) hB74 (Nat.le_refl _) (Nat.lt_succ_self _) (EncL.cons (c := [.string (bs ((p_s.drop ((x25).toNat))))]) rfl rfl EncL.nil) (Nat.le_of_ble_eq_true rfl) (fun h => h) (fun _ h => False.elim h)
   refine sd rfl (yl_appendL (S := (fun _ => False)) (lo := w.heap.size) (hi := u24) (xs := x21) (ys := ([(p_s.drop ((x25).toNat))] : List Str)) good_Str Tryd.un22 Tryd.ty9 rfl (Nat.le_of_ble_eq_true rfl) rfl rfl rfl (OwnL.ex good_Str hf40 hE75) (EncL.cons (c := [.string (bs ((p_s.drop ((x25).toNat))))]) rfl rfl EncL.nil) (Or.inr ⟨_, _, rfl, rfl, hB74.cells (o := 0) (n := 1) rfl⟩) rfl (by first | omega | (simp only [List.length_append, List.length_cons, List.length_nil, List.length_take, List.length_drop, List.length_replicate, List.length_set, toS_length]; omega)) (by first | omega | (simp only [List.length_append, List.length_cons, List.length_nil, List.length_take, List.length_drop, List.length_replicate, List.length_set, toS_length]; omega)) (by omega) (by omega) (fun _ h _ => False.elim h) (by omega) ?_)
   intro A78 c79 w80 row81 hO82 hG83 hrg84
   have hG83z := hG83.size
   refine sd rfl (yl_assign rfl rfl (SeqR.done (tn (CW.ret (rr rfl (.cons rfl .nil) ?_)))))
   have hM85 : (s_l1Split p_s p_b) = ((x21 ++ ([(p_s.drop ((x25).toNat))] : List Str))) := by simp only [s_l1Split, hL69, cond_true, cond_false, loopE_done, loopE_ret]
   rw [hM85]
   exact ⟨A78, c79, w.heap.size, w80.heap.size, rfl, hO82, (by omega), (Below.grown (Ex.trans hf41 hE75) hG83 (by omega) (fun k hk => by have := hrg84 k hk; omega))⟩
set_option maxRecDepth 100000 in
set_option maxHeartbeats 2000000 in
theorem c_s_l30Vals {w : World} (p_s : Str) (o1 : okS p_s) : Cal Tryd.prog 73 #[.string (bs (p_s))] w fun v w' => ∃ A_1 c_1 lo_1 hi_1, v = .agg #[.slice A_1 (((s_l30Vals p_s).Vals).length) c_1] ∧ OwnL w' lo_1 hi_1 9 1 (RF e_Str) A_1 (((s_l30Vals p_s).Vals).length) c_1 ((s_l30Vals p_s).Vals) ∧ ok_Row (s_l30Vals p_s) ∧ (w.heap.size ≤ lo_1 ∧ lo_1 ≤ hi_1 ∧ hi_1 ≤ w'.heap.size) ∧ Ex w w' := by
 have hol2 : p_s.length ≤ 1073741824 := o1
 refine Cal.of (vs := [.string (bs (p_s))]) Tryd.func73 rfl Tryd.ntmps73 rfl (CW.seq (CW.region (sd rfl (yl_alloc Tryd.ty31 (cs := [.slice none 0 0]) rfl rfl ?_))))
 intro b3 w4 hs5 hz6 hB7 hE8
 refine SeqR.done (tn (CW.seq (CW.region (sd rfl (yl_move rfl rfl (sd rfl (yl_call Tryd.en40 rfl (opvs_cons rfl (opvs_cons rfl opvs_nil)) (Cal.mono (c_s_l1Split p_s 44 o1) ?_))))))))
 rintro v11 w9 ⟨A10, c10, lo10, hi10, rfl, h10, hrn13, hE12⟩
 have hE12z := Ex.size hE12
 have hrf14 := rf_l1Split p_s 44
 refine sd rfl (yl_build (cs := [.slice A10 ((s_l1Split p_s 44).length) c10]) rfl (opvs_cons rfl opvs_nil) (by kernel_rfl) (SeqR.u rfl rfl (yl_store (vs := [.slice A10 ((s_l1Split p_s 44).length) c10]) Tryd.ty31 rfl rfl rfl rfl rfl rfl (Box.ex hB7 hE12) (Nat.le_of_ble_eq_true rfl) ?_)))
 intro w16 hB17 hO18
 have hB17 : Box w16 b3 31 [.slice A10 ((s_l1Split p_s 44).length) c10] := hB17
 have hO18z := hO18.size
 refine SeqR.done (tn (CW.ret (rr rfl (.cons ⟨_, rfl, run_loadN Tryd.ty31 (cs := [.slice A10 ((s_l1Split p_s 44).length) c10]) rfl (hB17.cells (n := 1) rfl)⟩ .nil) ?_)))
 have hM19 : (s_l30Vals p_s) = ((⟨(s_l1Split p_s 44)⟩ : DRow)) := by simp only [s_l30Vals, cond_true, cond_false, loopE_done, loopE_ret]
 rw [hM19]
 exact ⟨A10, c10, lo10, hi10, rfl, (OwnL.only good_Str h10 hO18 (by omega)), (okL_l1Split o1), (by omega), (Below.only (Ex.trans (Ex.trans (Ex.refl w) hE8) hE12) hO18 (by omega))⟩
set_option maxRecDepth 100000 in
set_option maxHeartbeats 2000000 in
theorem c_s_l30Read {A1 : Option Addr} {c1 : Nat} {w : World} (p_0 : List Str) (h1 : RdS w (Iv 0 w.heap.size) (RF e_Str) 1 A1 p_0.length c1 p_0) (o2 : (okL okS) p_0) : Cal Tryd.prog 57 #[.slice A1 p_0.length c1] w fun v w' => ∃ A_1 c_1 lo_1 hi_1 A_2 c_2 lo_2 hi_2, v = .agg #[.int .i64 ((s_l30Read p_0).Kind), .int .i64 ((s_l30Read p_0).Act.Kind), .slice A_1 (((s_l30Read p_0).Act.Old.Vals).length) c_1, .slice A_2 (((s_l30Read p_0).Act.New.Vals).length) c_2, .string (bs ((s_l30Read p_0).Idx)), .string (bs ((s_l30Read p_0).Low)), .string (bs ((s_l30Read p_0).High))] ∧ OwnL w' lo_1 hi_1 9 1 (RF e_Str) A_1 (((s_l30Read p_0).Act.Old.Vals).length) c_1 ((s_l30Read p_0).Act.Old.Vals) ∧ OwnL w' lo_2 hi_2 9 1 (RF e_Str) A_2 (((s_l30Read p_0).Act.New.Vals).length) c_2 ((s_l30Read p_0).Act.New.Vals) ∧ ok_Stmt (s_l30Read p_0) ∧ (w.heap.size ≤ lo_1 ∧ lo_1 ≤ hi_1 ∧ hi_1 ≤ w'.heap.size) ∧ (w.heap.size ≤ lo_2 ∧ lo_2 ≤ hi_2 ∧ hi_2 ≤ w'.heap.size) ∧ (hi_1 ≤ lo_2 ∨ hi_2 ≤ lo_1) ∧ Ex w w' := by
 have hol3 := o2.1
 refine Cal.of (vs := [.slice A1 p_0.length c1]) Tryd.func57 rfl Tryd.ntmps57 rfl (CW.seq (CW.region (sd rfl (yl_alloc Tryd.ty48 (cs := [.int .i64 (0), .int .i64 (0), .slice none 0 0, .slice none 0 0, .string (bs (([] : Str))), .string (bs (([] : Str))), .string (bs (([] : Str)))]) rfl rfl ?_))))
 intro b4 w5 hs6 hz7 hB8 hE9
 refine SeqR.done (tn (CW.seq (CW.block (CW.seq (CW.region (sd rfl (yl_move rfl rfl (sd rfl (yl_len Tryd.un22 rfl rfl (sd rfl (yl_eql rfl rfl rfl ?_)))))))))))
 refine sd rfl (yl_move rfl rfl (bcase (decide ((p_0.length : Int) = 3)) (fun hb10 => ?_) (fun hb10 => ?_)))
 ·have hb10p := dec_t hb10
  refine sy rfl rfl hb10 (yl_move rfl rfl ?_)
  have q11 := RdS.ex good_Str h1 hE9
  obtain ⟨eb12, eo12, ec12, eA12, eS12, ebl12, el12, eR12, eC12⟩ := RdS.atD q11 d_Str (i := 0) (by first | omega | assumption)
  obtain rfl := eR12
  have eC12 : Cells w5 eb12 (eo12 + 0 * 1) [.string (bs ((p_0.getD 0 d_Str)))] := eC12
  refine sy rfl rfl hb10 (yl_indexAddrN Tryd.un22 Tryd.ty9 rfl rfl rfl eA12 (by first | omega | assumption | (simp only [IntKind.wrap_i64] at *; omega)) (sy rfl rfl hb10 (yl_load1 Tryd.ty9 rfl rfl (eC12 0 _ rfl) (sy rfl rfl hb10 (yl_seql (a := (p_0.getD 0 d_Str)) (b := ([103, 101, 116] : Str)) rfl rfl rfl (sd rfl (yl_pick_t rfl rfl hb10 rfl (sd rfl (yl_assign rfl rfl (SeqR.done (tn (bcase ((p_0.getD 0 d_Str) == ([103, 101, 116] : Str)) (fun hb13 => ?_) (fun hb13 => ?_)))))))))))))
  ·refine CW.cond_t rfl hb13 (CW.seq (CW.region (sd rfl (yl_move rfl rfl ?_))))
   obtain ⟨eb14, eo14, ec14, eA14, eS14, ebl14, el14, eR14, eC14⟩ := RdS.atD q11 d_Str (i := 2) (by first | omega | assumption)
   obtain rfl := eR14
   have eC14 : Cells w5 eb14 (eo14 + 2 * 1) [.string (bs ((p_0.getD 2 d_Str)))] := eC14
   refine sd rfl (yl_indexAddrN Tryd.un22 Tryd.ty9 rfl rfl rfl eA14 (by first | omega | assumption | (simp only [IntKind.wrap_i64] at *; omega)) (sd rfl (yl_load1 Tryd.ty9 rfl rfl (eC14 0 _ rfl) (sd rfl (yl_build (cs := [.int .i64 (2), .int .i64 (0), .slice none 0 0, .slice none 0 0, .string (bs (([] : Str))), .string (bs ((p_0.getD 2 d_Str))), .string (bs (([] : Str)))]) rfl (opvs_cons rfl (opvs_cons rfl opvs_nil)) (by kernel_rfl) (SeqR.u rfl rfl (yl_store (vs := [.int .i64 (2), .int .i64 (0), .slice none 0 0, .slice none 0 0, .string (bs (([] : Str))), .string (bs ((p_0.getD 2 d_Str))), .string (bs (([] : Str)))]) Tryd.ty48 rfl rfl rfl rfl rfl rfl hB8 (Nat.le_of_ble_eq_true rfl) ?_)))))))
   intro w15 hB16 hO17
   have hB16 : Box w15 b4 48 [.int .i64 (2), .int .i64 (0), .slice none 0 0, .slice none 0 0, .string (bs (([] : Str))), .string (bs ((p_0.getD 2 d_Str))), .string (bs (([] : Str)))] := hB16
   have hO17z := hO17.size
   refine SeqR.done (tn (CW.ret (br (tr (rr rfl (.cons ⟨_, rfl, run_loadN Tryd.ty48 (cs := [.int .i64 (2), .int .i64 (0), .slice none 0 0, .slice none 0 0, .string (bs (([] : Str))), .string (bs ((p_0.getD 2 d_Str))), .string (bs (([] : Str)))]) rfl (hB16.cells (n := 7) rfl)⟩ .nil) ?_)))))
   have hM18 : (s_l30Read p_0) = ((⟨2, (⟨0, (⟨[]⟩ : DRow), (⟨[]⟩ : DRow)⟩ : DRowAct), ([] : Str), (p_0.getD 2 d_Str), ([] : Str)⟩ : DStmt)) := by simp only [s_l30Read, hb10, hb13, cond_true, cond_false, loopE_done, loopE_ret]
   rw [hM18]
   exact ⟨none, 0, w15.heap.size, w15.heap.size, none, 0, w15.heap.size, w15.heap.size, rfl, (OwnL.nil _ _ _ _ _ _), (OwnL.nil _ _ _ _ _ _), ⟨⟨(okL.nil _), (okL.nil _)⟩, (okS.lit rfl), (okL.getD o2 ok_d_Str _), (okS.lit rfl)⟩, (by omega), (by omega), (by omega), (Below.only (Ex.trans (Ex.refl w) hE9) hO17 (by omega))⟩
  ·refine CW.cond_f rfl hb13 (CW.seq (CW.region (sd rfl (yl_move rfl rfl (sd rfl (yl_len Tryd.un22 rfl rfl (sd rfl (yl_eql rfl rfl rfl (sd rfl (yl_move rfl rfl (bcase (decide ((p_0.length : Int) = 5)) (fun hb21 => ?_) (fun hb21 => ?_))))))))))))
   ·have hb21p := dec_t hb21
    refine sy rfl rfl hb21 (yl_move rfl rfl (sy rfl rfl hb21 (yl_indexAddrN Tryd.un22 Tryd.ty9 rfl rfl rfl eA12 (by first | omega | assumption | (simp only [IntKind.wrap_i64] at *; omega)) (sy rfl rfl hb21 (yl_load1 Tryd.ty9 rfl rfl (eC12 0 _ rfl) (sy rfl rfl hb21 (yl_seql (a := (p_0.getD 0 d_Str)) (b := ([114, 97, 110, 103, 101] : Str)) rfl rfl rfl (sd rfl (yl_pick_t rfl rfl hb21 rfl (sd rfl (yl_assign rfl rfl (SeqR.done (tn (bcase ((p_0.getD 0 d_Str) == ([114, 97, 110, 103, 101] : Str)) (fun hb22 => ?_) (fun hb22 => ?_)))))))))))))))
    ·refine CW.cond_t rfl hb22 (CW.seq ?_)
     obtain ⟨eb23, eo23, ec23, eA23, eS23, ebl23, el23, eR23, eC23⟩ := RdS.atD q11 d_Str (i := 2) (by first | omega | assumption)
     obtain rfl := eR23
     have eC23 : Cells w5 eb23 (eo23 + 2 * 1) [.string (bs ((p_0.getD 2 d_Str)))] := eC23
     obtain ⟨eb24, eo24, ec24, eA24, eS24, ebl24, el24, eR24, eC24⟩ := RdS.atD q11 d_Str (i := 3) (by first | omega | assumption)
     obtain rfl := eR24
     have eC24 : Cells w5 eb24 (eo24 + 3 * 1) [.string (bs ((p_0.getD 3 d_Str)))] := eC24
     obtain ⟨eb25, eo25, ec25, eA25, eS25, ebl25, el25, eR25, eC25⟩ := RdS.atD q11 d_Str (i := 4) (by first | omega | assumption)
     obtain rfl := eR25
     have eC25 : Cells w5 eb25 (eo25 + 4 * 1) [.string (bs ((p_0.getD 4 d_Str)))] := eC25
     refine CW.drawsI 9 (vgetI [DetI (.slice A1 p_0.length c1), DetI (.pointer (some ⟨eb23, eo23 + 2 * 1, none⟩)), DetI (.string (bs ((p_0.getD 2 d_Str)))), DetI (.slice A1 p_0.length c1), DetI (.pointer (some ⟨eb24, eo24 + 3 * 1, none⟩)), DetI (.string (bs ((p_0.getD 3 d_Str)))), DetI (.slice A1 p_0.length c1), DetI (.pointer (some ⟨eb25, eo25 + 4 * 1, none⟩)), DetI (.string (bs ((p_0.getD 4 d_Str))))]) Tryd.follows rfl rfl rfl rfl rfl rfl (vgetI_stable ⟨StableI.det _, StableI.det _, StableI.det _, StableI.det _, StableI.det _, StableI.det _, StableI.det _, StableI.det _, StableI.det _, trivial⟩) ⟨?_, ?_, ?_, ?_, ?_, ?_, ?_, ?_, ?_, trivial⟩ ?_
     ·exact fun _ _ h => os rfl ((yl_move rfl (h.old 0 _ rfl rfl) kI))
     ·intro L31 w32 hi33
      have hE34 := hi33.ex
      have hE34z := Ex.size hE34
      exact os rfl ((yl_indexAddrN Tryd.un22 Tryd.ty9 rfl (hi33.dt 0 27 rfl rfl rfl) rfl eA23 (by first | omega | assumption | (simp only [IntKind.wrap_i64] at *; omega)) kI))
     ·exact fun _ _ h => os rfl ((yl_load1 Tryd.ty9 rfl (h.dt 1 28 rfl rfl rfl) ((Cells.ex eC23 h.ex) 0 _ rfl) kI))
     ·exact fun _ _ h => os rfl ((yl_move rfl (h.old 0 _ rfl rfl) kI))
     ·intro L47 w48 hi49
      have hE50 := hi49.ex
      have hE50z := Ex.size hE50
      exact os rfl ((yl_indexAddrN Tryd.un22 Tryd.ty9 rfl (hi49.dt 3 30 rfl rfl rfl) rfl eA24 (by first | omega | assumption | (simp only [IntKind.wrap_i64] at *; omega)) kI))
     ·exact fun _ _ h => os rfl ((yl_load1 Tryd.ty9 rfl (h.dt 4 31 rfl rfl rfl) ((Cells.ex eC24 h.ex) 0 _ rfl) kI))
     ·exact fun _ _ h => os rfl ((yl_move rfl (h.old 0 _ rfl rfl) kI))
     ·intro L63 w64 hi65
      have hE66 := hi65.ex
      have hE66z := Ex.size hE66
      exact os rfl ((yl_indexAddrN Tryd.un22 Tryd.ty9 rfl (hi65.dt 6 33 rfl rfl rfl) rfl eA25 (by first | omega | assumption | (simp only [IntKind.wrap_i64] at *; omega)) kI))
     ·exact fun _ _ h => os rfl ((yl_load1 Tryd.ty9 rfl (h.dt 7 34 rfl rfl rfl) ((Cells.ex eC25 h.ex) 0 _ rfl) kI))
     ·intro fl77 fh78 L74 w75 hp76
      have hE79 := hp76.ex
      have hE79z := Ex.size hE79
      have hx80 := hp76.old 2 _ rfl rfl
      refine sd rfl (yl_build (cs := [.int .i64 (3), .int .i64 (0), .slice none 0 0, .slice none 0 0, .string (bs ((p_0.getD 2 d_Str))), .string (bs ((p_0.getD 3 d_Str))), .string (bs ((p_0.getD 4 d_Str)))]) rfl (opvs_cons rfl (opvs_cons (hp76.nt 2 29 rfl rfl rfl) (opvs_cons (hp76.nt 5 32 rfl rfl rfl) (opvs_cons (hp76.nt 8 35 rfl rfl rfl) opvs_nil)))) (by kernel_rfl) (SeqR.u rfl rfl (yl_store (vs := [.int .i64 (3), .int .i64 (0), .slice none 0 0, .slice none 0 0, .string (bs ((p_0.getD 2 d_Str))), .string (bs ((p_0.getD 3 d_Str))), .string (bs ((p_0.getD 4 d_Str)))]) Tryd.ty48 rfl hx80 rfl rfl rfl rfl (Box.ex hB8 hE79) (Nat.le_of_ble_eq_true rfl) ?_)))
      intro w85 hB86 hO87
      have hB86 : Box w85 b4 48 [.int .i64 (3), .int .i64 (0), .slice none 0 0, .slice none 0 0, .string (bs ((p_0.getD 2 d_Str))), .string (bs ((p_0.getD 3 d_Str))), .string (bs ((p_0.getD 4 d_Str)))] := hB86
      have hO87z := hO87.size
      refine SeqR.done (tn (CW.sub (Sub.cons (d := 2) hx80 (Sub.nil _)) (CW.ret (br (tr (rr rfl (.cons ⟨_, rfl, run_loadN Tryd.ty48 (cs := [.int .i64 (3), .int .i64 (0), .slice none 0 0, .slice none 0 0, .string (bs ((p_0.getD 2 d_Str))), .string (bs ((p_0.getD 3 d_Str))), .string (bs ((p_0.getD 4 d_Str)))]) rfl (hB86.cells (n := 7) rfl)⟩ .nil) ?_))))))
      have hM88 : (s_l30Read p_0) = ((⟨3, (⟨0, (⟨[]⟩ : DRow), (⟨[]⟩ : DRow)⟩ : DRowAct), (p_0.getD 2 d_Str), (p_0.getD 3 d_Str), (p_0.getD 4 d_Str)⟩ : DStmt)) := by simp only [s_l30Read, hb10, hb13, hb21, hb22, cond_true, cond_false, loopE_done, loopE_ret]
      rw [hM88]
      exact ⟨none, 0, w85.heap.size, w85.heap.size, none, 0, w85.heap.size, w85.heap.size, rfl, (OwnL.nil _ _ _ _ _ _), (OwnL.nil _ _ _ _ _ _), ⟨⟨(okL.nil _), (okL.nil _)⟩, (okL.getD o2 ok_d_Str _), (okL.getD o2 ok_d_Str _), (okL.getD o2 ok_d_Str _)⟩, (by omega), (by omega), (by omega), (Below.only (Ex.trans (Ex.trans (Ex.refl w) hE9) hE79) hO87 (by omega))⟩
    ·refine CW.cond_f rfl hb22 (CW.seq (CW.region (sd rfl (yl_move rfl rfl (sd rfl (yl_len Tryd.un22 rfl rfl (sd rfl (yl_eql rfl rfl rfl (sd rfl (yl_move rfl rfl (sy rfl rfl hb10 (yl_move rfl rfl (sy rfl rfl hb10 (yl_indexAddrN Tryd.un22 Tryd.ty9 rfl rfl rfl eA12 (by first | omega | assumption | (simp only [IntKind.wrap_i64] at *; omega)) ?_))))))))))))))
     refine sy rfl rfl hb10 (yl_load1 Tryd.ty9 rfl rfl (eC12 0 _ rfl) (sy rfl rfl hb10 (yl_seql (a := (p_0.getD 0 d_Str)) (b := ([105, 110, 115, 101, 114, 116] : Str)) rfl rfl rfl (sd rfl (yl_pick_t rfl rfl hb10 rfl (sd rfl (yl_assign rfl rfl (SeqR.done (tn (bcase ((p_0.getD 0 d_Str) == ([105, 110, 115, 101, 114, 116] : Str)) (fun hb92 => ?_) (fun hb92 => ?_)))))))))))
     ·refine CW.cond_t rfl hb92 (CW.seq (CW.region (sd rfl (yl_move rfl rfl ?_))))
      obtain ⟨eb93, eo93, ec93, eA93, eS93, ebl93, el93, eR93, eC93⟩ := RdS.atD q11 d_Str (i := 2) (by first | omega | assumption)
      obtain rfl := eR93
      have eC93 : Cells w5 eb93 (eo93 + 2 * 1) [.string (bs ((p_0.getD 2 d_Str)))] := eC93
      refine sd rfl (yl_indexAddrN Tryd.un22 Tryd.ty9 rfl rfl rfl eA93 (by first | omega | assumption | (simp only [IntKind.wrap_i64] at *; omega)) (sd rfl (yl_load1 Tryd.ty9 rfl rfl (eC93 0 _ rfl) (sd rfl (yl_call Tryd.en73 rfl (opvs_cons rfl opvs_nil) (Cal.mono (c_s_l30Vals (p_0.getD 2 d_Str) (okL.getD o2 ok_d_Str _)) ?_))))))
      rintro v97 w94 ⟨A95, c95, lo95, hi95, rfl, h95, ho96, hrn99, hE98⟩
      have hE98z := Ex.size hE98
      refine sd rfl (yl_build (cs := [.int .i64 (1), .slice none 0 0, .slice A95 (((s_l30Vals (p_0.getD 2 d_Str)).Vals).length) c95]) rfl (opvs_cons rfl (opvs_cons rfl opvs_nil)) (by kernel_rfl) (sd rfl (yl_build (cs := [.int .i64 (1), .int .i64 (1), .slice none 0 0, .slice A95 (((s_l30Vals (p_0.getD 2 d_Str)).Vals).length) c95, .string (bs (([] : Str))), .string (bs (([] : Str))), .string (bs (([] : Str)))]) rfl (opvs_cons rfl (opvs_cons rfl opvs_nil)) (by kernel_rfl) (SeqR.u rfl rfl (yl_store (vs := [.int .i64 (1), .int .i64 (1), .slice none 0 0, .slice A95 (((s_l30Vals (p_0.getD 2 d_Str)).Vals).length) c95, .string (bs (([] : Str))), .string (bs (([] : Str))), .string (bs (([] : Str)))]) Tryd.ty48 rfl rfl rfl rfl rfl rfl (Box.ex hB8 hE98) (Nat.le_of_ble_eq_true rfl) ?_)))))
      intro w101 hB102 hO103
      have hB102 : Box w101 b4 48 [.int .i64 (1), .int .i64 (1), .slice none 0 0, .slice A95 (((s_l30Vals (p_0.getD 2 d_Str)).Vals).length) c95, .string (bs (([] : Str))), .string (bs (([] : Str))), .string (bs (([] : Str)))] := hB102
      have hO103z := hO103.size
      refine SeqR.done (tn (CW.ret (br (tr (rr rfl (.cons ⟨_, rfl, run_loadN Tryd.ty48 (cs := [.int .i64 (1), .int .i64 (1), .slice none 0 0, .slice A95 (((s_l30Vals (p_0.getD 2 d_Str)).Vals).length) c95, .string (bs (([] : Str))), .string (bs (([] : Str))), .string (bs (([] : Str)))]) rfl (hB102.cells (n := 7) rfl)⟩ .nil) ?_)))))
      have hM104 : (s_l30Read p_0) = ((⟨1, (⟨1, (⟨[]⟩ : DRow), (s_l30Vals (p_0.getD 2 d_Str))⟩ : DRowAct), ([] : Str), ([] : Str), ([] : Str)⟩ : DStmt)) := by simp only [s_l30Read, hb10, hb13, hb21, hb22, hb92, cond_true, cond_false, loopE_done, loopE_ret]
      rw [hM104]
      exact ⟨none, 0, w101.heap.size, w101.heap.size, A95, c95, lo95, hi95, rfl, (OwnL.nil _ _ _ _ _ _), (OwnL.only good_Str h95 hO103 (by omega)), ⟨⟨(okL.nil _), ho96⟩, (okS.lit rfl), (okS.lit rfl), (okS.lit rfl)⟩, (by omega), (by omega), (by omega), (Below.only (Ex.trans (Ex.trans (Ex.refl w) hE9) hE98) hO103 (by omega))⟩
     ·refine CW.cond_f rfl hb92 (CW.seq (CW.region (sd rfl (yl_move rfl rfl (sd rfl (yl_len Tryd.un22 rfl rfl (sd rfl (yl_eql rfl rfl rfl (sd rfl (yl_move rfl rfl (sy rfl rfl hb10 (yl_move rfl rfl (sy rfl rfl hb10 (yl_indexAddrN Tryd.un22 Tryd.ty9 rfl rfl rfl eA12 (by first | omega | assumption | (simp only [IntKind.wrap_i64] at *; omega)) ?_))))))))))))))
      refine sy rfl rfl hb10 (yl_load1 Tryd.ty9 rfl rfl (eC12 0 _ rfl) (sy rfl rfl hb10 (yl_seql (a := (p_0.getD 0 d_Str)) (b := ([100, 101, 108, 101, 116, 101] : Str)) rfl rfl rfl (sd rfl (yl_pick_t rfl rfl hb10 rfl (sd rfl (yl_assign rfl rfl (SeqR.done (tn (bcase ((p_0.getD 0 d_Str) == ([100, 101, 108, 101, 116, 101] : Str)) (fun hb109 => ?_) (fun hb109 => ?_)))))))))))
      ·refine CW.cond_t rfl hb109 (CW.seq (CW.region (sd rfl (yl_move rfl rfl ?_))))
       obtain ⟨eb110, eo110, ec110, eA110, eS110, ebl110, el110, eR110, eC110⟩ := RdS.atD q11 d_Str (i := 2) (by first | omega | assumption)
       obtain rfl := eR110
       have eC110 : Cells w5 eb110 (eo110 + 2 * 1) [.string (bs ((p_0.getD 2 d_Str)))] := eC110
       refine sd rfl (yl_indexAddrN Tryd.un22 Tryd.ty9 rfl rfl rfl eA110 (by first | omega | assumption | (simp only [IntKind.wrap_i64] at *; omega)) (sd rfl (yl_load1 Tryd.ty9 rfl rfl (eC110 0 _ rfl) (sd rfl (yl_call Tryd.en73 rfl (opvs_cons rfl opvs_nil) (Cal.mono (c_s_l30Vals (p_0.getD 2 d_Str) (okL.getD o2 ok_d_Str _)) ?_))))))
       rintro v114 w111 ⟨A112, c112, lo112, hi112, rfl, h112, ho113, hrn116, hE115⟩
       have hE115z := Ex.size hE115
       refine sd rfl (yl_build (cs := [.int .i64 (2), .slice A112 (((s_l30Vals (p_0.getD 2 d_Str)).Vals).length) c112, .slice none 0 0]) rfl (opvs_cons rfl (opvs_cons rfl opvs_nil)) (by kernel_rfl) (sd rfl (yl_build (cs := [.int .i64 (1), .int .i64 (2), .slice A112 (((s_l30Vals (p_0.getD 2 d_Str)).Vals).length) c112, .slice none 0 0, .string (bs (([] : Str))), .string (bs (([] : Str))), .string (bs (([] : Str)))]) rfl (opvs_cons rfl (opvs_cons rfl opvs_nil)) (by kernel_rfl) (SeqR.u rfl rfl (yl_store (vs := [.int .i64 (1), .int .i64 (2), .slice A112 (((s_l30Vals (p_0.getD 2 d_Str)).Vals).length) c112, .slice none 0 0, .string (bs (([] : Str))), .string (bs (([] : Str))), .string (bs (([] : Str)))]) Tryd.ty48 rfl rfl rfl rfl rfl rfl (Box.ex hB8 hE115) (Nat.le_of_ble_eq_true rfl) ?_)))))
       intro w118 hB119 hO120
       have hB119 : Box w118 b4 48 [.int .i64 (1), .int .i64 (2), .slice A112 (((s_l30Vals (p_0.getD 2 d_Str)).Vals).length) c112, .slice none 0 0, .string (bs (([] : Str))), .string (bs (([] : Str))), .string (bs (([] : Str)))] := hB119
       have hO120z := hO120.size
       refine SeqR.done (tn (CW.ret (br (tr (rr rfl (.cons ⟨_, rfl, run_loadN Tryd.ty48 (cs := [.int .i64 (1), .int .i64 (2), .slice A112 (((s_l30Vals (p_0.getD 2 d_Str)).Vals).length) c112, .slice none 0 0, .string (bs (([] : Str))), .string (bs (([] : Str))), .string (bs (([] : Str)))]) rfl (hB119.cells (n := 7) rfl)⟩ .nil) ?_)))))
       have hM121 : (s_l30Read p_0) = ((⟨1, (⟨2, (s_l30Vals (p_0.getD 2 d_Str)), (⟨[]⟩ : DRow)⟩ : DRowAct), ([] : Str), ([] : Str), ([] : Str)⟩ : DStmt)) := by simp only [s_l30Read, hb10, hb13, hb21, hb22, hb92, hb109, cond_true, cond_false, loopE_done, loopE_ret]
       rw [hM121]
       exact ⟨A112, c112, lo112, hi112, none, 0, w118.heap.size, w118.heap.size, rfl, (OwnL.only good_Str h112 hO120 (by omega)), (OwnL.nil _ _ _ _ _ _), ⟨⟨ho113, (okL.nil _)⟩, (okS.lit rfl), (okS.lit rfl), (okS.lit rfl)⟩, (by omega), (by omega), (by omega), (Below.only (Ex.trans (Ex.trans (Ex.refl w) hE9) hE115) hO120 (by omega))⟩
      ·refine CW.cond_f rfl hb109 (CW.seq (CW.region (sd rfl (yl_move rfl rfl (sd rfl (yl_len Tryd.un22 rfl rfl (sd rfl (yl_eql rfl rfl rfl (sd rfl (yl_move rfl rfl (sy rfl rfl hb21 (yl_move rfl rfl (sy rfl rfl hb21 (yl_indexAddrN Tryd.un22 Tryd.ty9 rfl rfl rfl eA12 (by first | omega | assumption | (simp only [IntKind.wrap_i64] at *; omega)) ?_))))))))))))))
       refine sy rfl rfl hb21 (yl_load1 Tryd.ty9 rfl rfl (eC12 0 _ rfl) (sy rfl rfl hb21 (yl_seql (a := (p_0.getD 0 d_Str)) (b := ([117, 112, 100, 97, 116, 101] : Str)) rfl rfl rfl (sd rfl (yl_pick_t rfl rfl hb21 rfl (sd rfl (yl_assign rfl rfl (SeqR.done (tn (bcase ((p_0.getD 0 d_Str) == ([117, 112, 100, 97, 116, 101] : Str)) (fun hb126 => ?_) (fun hb126 => ?_)))))))))))
       ·refine CW.cond_t rfl hb126 (CW.seq ?_)
        obtain ⟨eb127, eo127, ec127, eA127, eS127, ebl127, el127, eR127, eC127⟩ := RdS.atD q11 d_Str (i := 2) (by first | omega | assumption)
        obtain rfl := eR127
        have eC127 : Cells w5 eb127 (eo127 + 2 * 1) [.string (bs ((p_0.getD 2 d_Str)))] := eC127
        obtain ⟨eb131, eo131, ec131, eA131, eS131, ebl131, el131, eR131, eC131⟩ := RdS.atD q11 d_Str (i := 4) (by first | omega | assumption)
        obtain rfl := eR131
        have eC131 : Cells w5 eb131 (eo131 + 4 * 1) [.string (bs ((p_0.getD 4 d_Str)))] := eC131
        refine CW.drawsI 7 (vgetI [DetI (.slice A1 p_0.length c1), DetI (.pointer (some ⟨eb127, eo127 + 2 * 1, none⟩)), DetI (.string (bs ((p_0.getD 2 d_Str)))), fun lo hi v wq => ∃ A129 c129 lo129 hi129, v = .agg #[.slice A129 (((s_l30Vals (p_0.getD 2 d_Str)).Vals).length) c129] ∧ OwnL wq lo129 hi129 9 1 (RF e_Str) A129 (((s_l30Vals (p_0.getD 2 d_Str)).Vals).length) c129 ((s_l30Vals (p_0.getD 2 d_Str)).Vals) ∧ ok_Row (s_l30Vals (p_0.getD 2 d_Str)) ∧ (lo ≤ lo129 ∧ lo129 ≤ hi129 ∧ hi129 ≤ hi), DetI (.slice A1 p_0.length c1), DetI (.pointer (some ⟨eb131, eo131 + 4 * 1, none⟩)), DetI (.string (bs ((p_0.getD 4 d_Str))))]) Tryd.follows rfl rfl rfl rfl rfl rfl (vgetI_stable ⟨StableI.det _, StableI.det _, StableI.det _, (fun _ _ _ _ _ ⟨A129, c129, lo129, hi129, hv, h129, ho130, hr0⟩ e => ⟨A129, c129, lo129, hi129, hv, OwnL.ex good_Str h129 e, ho130, hr0⟩), StableI.det _, StableI.det _, StableI.det _, trivial⟩) ⟨?_, ?_, ?_, ?_, ?_, ?_, ?_, trivial⟩ ?_
        ·exact fun _ _ h => os rfl ((yl_move rfl (h.old 0 _ rfl rfl) kI))
        ·intro L137 w138 hi139
         have hE140 := hi139.ex
         have hE140z := Ex.size hE140
         exact os rfl ((yl_indexAddrN Tryd.un22 Tryd.ty9 rfl (hi139.dt 0 79 rfl rfl rfl) rfl eA127 (by first | omega | assumption | (simp only [IntKind.wrap_i64] at *; omega)) kI))
        ·exact fun _ _ h => os rfl ((yl_load1 Tryd.ty9 rfl (h.dt 1 80 rfl rfl rfl) ((Cells.ex eC127 h.ex) 0 _ rfl) kI))
        ·intro L148 w149 hi150
         refine OpR.op' rfl (yl_call Tryd.en73 rfl (opvs_cons (hi150.dt 2 81 rfl rfl rfl) opvs_nil) (Cal.mono (c_s_l30Vals (p_0.getD 2 d_Str) (okL.getD o2 ok_d_Str _)) ?_))
         rintro v156 w153 ⟨A154, c154, lo154, hi154, rfl, h154, ho155, hrn158, hE157⟩
         exact ⟨⟨A154, c154, lo154, hi154, rfl, h154, ho155, hrn158⟩, hE157⟩
        ·exact fun _ _ h => os rfl ((yl_move rfl (h.old 0 _ rfl rfl) kI))
        ·intro L164 w165 hi166
         have hE167 := hi166.ex
         have hE167z := Ex.size hE167
         exact os rfl ((yl_indexAddrN Tryd.un22 Tryd.ty9 rfl (hi166.dt 4 83 rfl rfl rfl) rfl eA131 (by first | omega | assumption | (simp only [IntKind.wrap_i64] at *; omega)) kI))
        ·exact fun _ _ h => os rfl ((yl_load1 Tryd.ty9 rfl (h.dt 5 84 rfl rfl rfl) ((Cells.ex eC131 h.ex) 0 _ rfl) kI))
        ·intro fl178 fh179 L175 w176 hp177
         have hE180 := hp177.ex
         have hE180z := Ex.size hE180
         have hx181 := hp177.old 2 _ rfl rfl
         have hr183 := hp177.rng 3 rfl
         obtain ⟨_, hx182, A129_184, c129_185, lo129_186, hi129_187, rfl, h188, h189, hrn190⟩ := hp177.new 3 82 rfl rfl
         refine sd rfl (yl_call Tryd.en73 rfl (opvs_cons (hp177.nt 6 85 rfl rfl rfl) opvs_nil) (Cal.mono (c_s_l30Vals (p_0.getD 4 d_Str) (okL.getD o2 ok_d_Str _)) ?_))
         rintro v195 w192 ⟨A193, c193, lo193, hi193, rfl, h193, ho194, hrn197, hE196⟩
         have hE196z := Ex.size hE196
         refine sd rfl (yl_build (cs := [.int .i64 (3), .slice A129_184 (((s_l30Vals (p_0.getD 2 d_Str)).Vals).length) c129_185, .slice A193 (((s_l30Vals (p_0.getD 4 d_Str)).Vals).length) c193]) rfl (opvs_cons rfl (opvs_cons hx182 (opvs_cons rfl opvs_nil))) (by kernel_rfl) (sd rfl (yl_build (cs := [.int .i64 (1), .int .i64 (3), .slice A129_184 (((s_l30Vals (p_0.getD 2 d_Str)).Vals).length) c129_185, .slice A193 (((s_l30Vals (p_0.getD 4 d_Str)).Vals).length) c193, .string (bs (([] : Str))), .string (bs (([] : Str))), .string (bs (([] : Str)))]) rfl (opvs_cons rfl (opvs_cons rfl opvs_nil)) (by kernel_rfl) (SeqR.u rfl rfl (yl_store (vs := [.int .i64 (1), .int .i64 (3), .slice A129_184 (((s_l30Vals (p_0.getD 2 d_Str)).Vals).length) c129_185, .slice A193 (((s_l30Vals (p_0.getD 4 d_Str)).Vals).length) c193, .string (bs (([] : Str))), .string (bs (([] : Str))), .string (bs (([] : Str)))]) Tryd.ty48 rfl hx181 rfl rfl rfl rfl (Box.ex (Box.ex hB8 hE180) hE196) (Nat.le_of_ble_eq_true rfl) ?_)))))
         intro w200 hB201 hO202
         have hB201 : Box w200 b4 48 [.int .i64 (1), .int .i64 (3), .slice A129_184 (((s_l30Vals (p_0.getD 2 d_Str)).Vals).length) c129_185, .slice A193 (((s_l30Vals (p_0.getD 4 d_Str)).Vals).length) c193, .string (bs (([] : Str))), .string (bs (([] : Str))), .string (bs (([] : Str)))] := hB201
         have hO202z := hO202.size
         refine SeqR.done (tn (CW.sub (Sub.cons (d := 2) hx181 (Sub.nil _)) (CW.ret (br (tr (rr rfl (.cons ⟨_, rfl, run_loadN Tryd.ty48 (cs := [.int .i64 (1), .int .i64 (3), .slice A129_184 (((s_l30Vals (p_0.getD 2 d_Str)).Vals).length) c129_185, .slice A193 (((s_l30Vals (p_0.getD 4 d_Str)).Vals).length) c193, .string (bs (([] : Str))), .string (bs (([] : Str))), .string (bs (([] : Str)))]) rfl (hB201.cells (n := 7) rfl)⟩ .nil) ?_))))))
         have hM203 : (s_l30Read p_0) = ((⟨1, (⟨3, (s_l30Vals (p_0.getD 2 d_Str)), (s_l30Vals (p_0.getD 4 d_Str))⟩ : DRowAct), ([] : Str), ([] : Str), ([] : Str)⟩ : DStmt)) := by simp only [s_l30Read, hb10, hb13, hb21, hb22, hb92, hb109, hb126, cond_true, cond_false, loopE_done, loopE_ret]
         rw [hM203]
         exact ⟨A129_184, c129_185, lo129_186, hi129_187, A193, c193, lo193, hi193, rfl, (OwnL.only good_Str (OwnL.ex good_Str h188 hE196) hO202 (by omega)), (OwnL.only good_Str h193 hO202 (by omega)), ⟨⟨h189, ho194⟩, (okS.lit rfl), (okS.lit rfl), (okS.lit rfl)⟩, (by omega), (by omega), (by omega), (Below.only (Ex.trans (Ex.trans (Ex.trans (Ex.refl w) hE9) hE180) hE196) hO202 (by omega))⟩
       ·refine CW.cond_f rfl hb126 (CW.skip (bn (tn (CW.seq (CW.region (sd rfl (yl_build (cs := [.int .i64 (0), .int .i64 (0), .slice none 0 0, .slice none 0 0, .string (bs (([] : Str))), .string (bs (([] : Str))), .string (bs (([] : Str)))]) rfl opvs_nil (by kernel_rfl) (SeqR.u rfl rfl (yl_store (vs := [.int .i64 (0), .int .i64 (0), .slice none 0 0, .slice none 0 0, .string (bs (([] : Str))), .string (bs (([] : Str))), .string (bs (([] : Str)))]) Tryd.ty48 rfl rfl rfl rfl rfl rfl hB8 (Nat.le_of_ble_eq_true rfl) ?_)))))))))
        intro w211 hB212 hO213
        have hB212 : Box w211 b4 48 [.int .i64 (0), .int .i64 (0), .slice none 0 0, .slice none 0 0, .string (bs (([] : Str))), .string (bs (([] : Str))), .string (bs (([] : Str)))] := hB212
        have hO213z := hO213.size
        refine SeqR.done (tn (CW.ret (rr rfl (.cons ⟨_, rfl, run_loadN Tryd.ty48 (cs := [.int .i64 (0), .int .i64 (0), .slice none 0 0, .slice none 0 0, .string (bs (([] : Str))), .string (bs (([] : Str))), .string (bs (([] : Str)))]) rfl (hB212.cells (n := 7) rfl)⟩ .nil) ?_)))
        have hM214 : (s_l30Read p_0) = ((⟨0, (⟨0, (⟨[]⟩ : DRow), (⟨[]⟩ : DRow)⟩ : DRowAct), ([] : Str), ([] : Str), ([] : Str)⟩ : DStmt)) := by simp only [s_l30Read, hb10, hb13, hb21, hb22, hb92, hb109, hb126, cond_true, cond_false, loopE_done, loopE_ret]
        rw [hM214]
        exact ⟨none, 0, w211.heap.size, w211.heap.size, none, 0, w211.heap.size, w211.heap.size, rfl, (OwnL.nil _ _ _ _ _ _), (OwnL.nil _ _ _ _ _ _), ⟨⟨(okL.nil _), (okL.nil _)⟩, (okS.lit rfl), (okS.lit rfl), (okS.lit rfl)⟩, (by omega), (by omega), (by omega), (Below.only (Ex.trans (Ex.refl w) hE9) hO213 (by omega))⟩
   ·have hb21p := dec_f hb21
    refine sz rfl rfl hb21 (sz rfl rfl hb21 (sz rfl rfl hb21 (sz rfl rfl hb21 (sd rfl (yl_pick_f rfl rfl hb21 rfl (sd rfl (yl_assign rfl rfl (SeqR.done (tn (CW.cond_f rfl rfl ?_))))))))))
    refine CW.seq (CW.region (sd rfl (yl_move rfl rfl (sd rfl (yl_len Tryd.un22 rfl rfl (sd rfl (yl_eql rfl rfl rfl (sd rfl (yl_move rfl rfl (sy rfl rfl hb10 (yl_move rfl rfl (sy rfl rfl hb10 (yl_indexAddrN Tryd.un22 Tryd.ty9 rfl rfl rfl eA12 (by first | omega | assumption | (simp only [IntKind.wrap_i64] at *; omega)) (sy rfl rfl hb10 (yl_load1 Tryd.ty9 rfl rfl (eC12 0 _ rfl) ?_)))))))))))))))
    refine sy rfl rfl hb10 (yl_seql (a := (p_0.getD 0 d_Str)) (b := ([105, 110, 115, 101, 114, 116] : Str)) rfl rfl rfl (sd rfl (yl_pick_t rfl rfl hb10 rfl (sd rfl (yl_assign rfl rfl (SeqR.done (tn (bcase ((p_0.getD 0 d_Str) == ([105, 110, 115, 101, 114, 116] : Str)) (fun hb217 => ?_) (fun hb217 => ?_)))))))))
    ·refine CW.cond_t rfl hb217 (CW.seq (CW.region (sd rfl (yl_move rfl rfl ?_))))
     obtain ⟨eb218, eo218, ec218, eA218, eS218, ebl218, el218, eR218, eC218⟩ := RdS.atD q11 d_Str (i := 2) (by first | omega | assumption)
     obtain rfl := eR218
     have eC218 : Cells w5 eb218 (eo218 + 2 * 1) [.string (bs ((p_0.getD 2 d_Str)))] := eC218
     refine sd rfl (yl_indexAddrN Tryd.un22 Tryd.ty9 rfl rfl rfl eA218 (by first | omega | assumption | (simp only [IntKind.wrap_i64] at *; omega)) (sd rfl (yl_load1 Tryd.ty9 rfl rfl (eC218 0 _ rfl) (sd rfl (yl_call Tryd.en73 rfl (opvs_cons rfl opvs_nil) (Cal.mono (c_s_l30Vals (p_0.getD 2 d_Str) (okL.getD o2 ok_d_Str _)) ?_))))))
     rintro v222 w219 ⟨A220, c220, lo220, hi220, rfl, h220, ho221, hrn224, hE223⟩
     have hE223z := Ex.size hE223
     refine sd rfl (yl_build (cs := [.int .i64 (1), .slice none 0 0, .slice A220 (((s_l30Vals (p_0.getD 2 d_Str)).Vals).length) c220]) rfl (opvs_cons rfl (opvs_cons rfl opvs_nil)) (by kernel_rfl) (sd rfl (yl_build (cs := [.int .i64 (1), .int .i64 (1), .slice none 0 0, .slice A220 (((s_l30Vals (p_0.getD 2 d_Str)).Vals).length) c220, .string (bs (([] : Str))), .string (bs (([] : Str))), .string (bs (([] : Str)))]) rfl (opvs_cons rfl (opvs_cons rfl opvs_nil)) (by kernel_rfl) (SeqR.u rfl rfl (yl_store (vs := [.int .i64 (1), .int .i64 (1), .slice none 0 0, .slice A220 (((s_l30Vals (p_0.getD 2 d_Str)).Vals).length) c220, .string (bs (([] : Str))), .string (bs (([] : Str))), .string (bs (([] : Str)))]) Tryd.ty48 rfl rfl rfl rfl rfl rfl (Box.ex hB8 hE223) (Nat.le_of_ble_eq_true rfl) ?_)))))
     intro w226 hB227 hO228
     have hB227 : Box w226 b4 48 [.int .i64 (1), .int .i64 (1), .slice none 0 0, .slice A220 (((s_l30Vals (p_0.getD 2 d_Str)).Vals).length) c220, .string (bs (([] : Str))), .string (bs (([] : Str))), .string (bs (([] : Str)))] := hB227
     have hO228z := hO228.size
     refine SeqR.done (tn (CW.ret (br (tr (rr rfl (.cons ⟨_, rfl, run_loadN Tryd.ty48 (cs := [.int .i64 (1), .int .i64 (1), .slice none 0 0, .slice A220 (((s_l30Vals (p_0.getD 2 d_Str)).Vals).length) c220, .string (bs (([] : Str))), .string (bs (([] : Str))), .string (bs (([] : Str)))]) rfl (hB227.cells (n := 7) rfl)⟩ .nil) ?_)))))
     have hM229 : (s_l30Read p_0) = ((⟨1, (⟨1, (⟨[]⟩ : DRow), (s_l30Vals (p_0.getD 2 d_Str))⟩ : DRowAct), ([] : Str), ([] : Str), ([] : Str)⟩ : DStmt)) := by simp only [s_l30Read, hb10, hb13, hb21, hb217, cond_true, cond_false, loopE_done, loopE_ret]
     rw [hM229]
     exact ⟨none, 0, w226.heap.size, w226.heap.size, A220, c220, lo220, hi220, rfl, (OwnL.nil _ _ _ _ _ _), (OwnL.only good_Str h220 hO228 (by omega)), ⟨⟨(okL.nil _), ho221⟩, (okS.lit rfl), (okS.lit rfl), (okS.lit rfl)⟩, (by omega), (by omega), (by omega), (Below.only (Ex.trans (Ex.trans (Ex.refl w) hE9) hE223) hO228 (by omega))⟩
    ·refine CW.cond_f rfl hb217 (CW.seq (CW.region (sd rfl (yl_move rfl rfl (sd rfl (yl_len Tryd.un22 rfl rfl (sd rfl (yl_eql rfl rfl rfl (sd rfl (yl_move rfl rfl (sy rfl rfl hb10 (yl_move rfl rfl (sy rfl rfl hb10 (yl_indexAddrN Tryd.un22 Tryd.ty9 rfl rfl rfl eA12 (by first | omega | assumption | (simp only [IntKind.wrap_i64] at *; omega)) ?_))))))))))))))
     refine sy rfl rfl hb10 (yl_load1 Tryd.ty9 rfl rfl (eC12 0 _ rfl) (sy rfl rfl hb10 (yl_seql (a := (p_0.getD 0 d_Str)) (b := ([100, 101, 108, 101, 116, 101] : Str)) rfl rfl rfl (sd rfl (yl_pick_t rfl rfl hb10 rfl (sd rfl (yl_assign rfl rfl (SeqR.done (tn (bcase ((p_0.getD 0 d_Str) == ([100, 101, 108, 101, 116, 101] : Str)) (fun hb234 => ?_) (fun hb234 => ?_)))))))))))
     ·refine CW.cond_t rfl hb234 (CW.seq (CW.region (sd rfl (yl_move rfl rfl ?_))))
      obtain ⟨eb235, eo235, ec235, eA235, eS235, ebl235, el235, eR235, eC235⟩ := RdS.atD q11 d_Str (i := 2) (by first | omega | assumption)
      obtain rfl := eR235
      have eC235 : Cells w5 eb235 (eo235 + 2 * 1) [.string (bs ((p_0.getD 2 d_Str)))] := eC235
      refine sd rfl (yl_indexAddrN Tryd.un22 Tryd.ty9 rfl rfl rfl eA235 (by first | omega | assumption | (simp only [IntKind.wrap_i64] at *; omega)) (sd rfl (yl_load1 Tryd.ty9 rfl rfl (eC235 0 _ rfl) (sd rfl (yl_call Tryd.en73 rfl (opvs_cons rfl opvs_nil) (Cal.mono (c_s_l30Vals (p_0.getD 2 d_Str) (okL.getD o2 ok_d_Str _)) ?_))))))
      rintro v239 w236 ⟨A237, c237, lo237, hi237, rfl, h237, ho238, hrn241, hE240⟩
      have hE240z := Ex.size hE240
      refine sd rfl (yl_build (cs := [.int .i64 (2), .slice A237 (((s_l30Vals (p_0.getD 2 d_Str)).Vals).length) c237, .slice none 0 0]) rfl (opvs_cons rfl (opvs_cons rfl opvs_nil)) (by kernel_rfl) (sd rfl (yl_build (cs := [.int .i64 (1), .int .i64 (2), .slice A237 (((s_l30Vals (p_0.getD 2 d_Str)).Vals).length) c237, .slice none 0 0, .string (bs (([] : Str))), .string (bs (([] : Str))), .string (bs (([] : Str)))]) rfl (opvs_cons rfl (opvs_cons rfl opvs_nil)) (by kernel_rfl) (SeqR.u rfl rfl (yl_store (vs := [.int .i64 (1), .int .i64 (2), .slice A237 (((s_l30Vals (p_0.getD 2 d_Str)).Vals).length) c237, .slice none 0 0, .string (bs (([] : Str))), .string (bs (([] : Str))), .string (bs (([] : Str)))]) Tryd.ty48 rfl rfl rfl rfl rfl rfl (Box.ex hB8 hE240) (Nat.le_of_ble_eq_true rfl) ?_)))))
      intro w243 hB244 hO245
      have hB244 : Box w243 b4 48 [.int .i64 (1), .int .i64 (2), .slice A237 (((s_l30Vals (p_0.getD 2 d_Str)).Vals).length) c237, .slice none 0 0, .string (bs (([] : Str))), .string (bs (([] : Str))), .string (bs (([] : Str)))] := hB244
      have hO245z := hO245.size
      refine SeqR.done (tn (CW.ret (br (tr (rr rfl (.cons ⟨_, rfl, run_loadN Tryd.ty48 (cs := [.int .i64 (1), .int .i64 (2), .slice A237 (((s_l30Vals (p_0.getD 2 d_Str)).Vals).length) c237, .slice none 0 0, .string (bs (([] : Str))), .string (bs (([] : Str))), .string (bs (([] : Str)))]) rfl (hB244.cells (n := 7) rfl)⟩ .nil) ?_)))))
      have hM246 : (s_l30Read p_0) = ((⟨1, (⟨2, (s_l30Vals (p_0.getD 2 d_Str)), (⟨[]⟩ : DRow)⟩ : DRowAct), ([] : Str), ([] : Str), ([] : Str)⟩ : DStmt)) := by simp only [s_l30Read, hb10, hb13, hb21, hb217, hb234, cond_true, cond_false, loopE_done, loopE_ret]
      rw [hM246]
      exact ⟨A237, c237, lo237, hi237, none, 0, w243.heap.size, w243.heap.size, rfl, (OwnL.only good_Str h237 hO245 (by omega)), (OwnL.nil _ _ _ _ _ _), ⟨⟨ho238, (okL.nil _)⟩, (okS.lit rfl), (okS.lit rfl), (okS.lit rfl)⟩, (by omega), (by omega), (by omega), (Below.only (Ex.trans (Ex.trans (Ex.refl w) hE9) hE240) hO245 (by omega))⟩
     ·refine CW.cond_f rfl hb234 (CW.seq (CW.region (sd rfl (yl_move rfl rfl (sd rfl (yl_len Tryd.un22 rfl rfl (sd rfl (yl_eql rfl rfl rfl (sd rfl (yl_move rfl rfl (sz rfl rfl hb21 (sz rfl rfl hb21 ?_))))))))))))
      refine sz rfl rfl hb21 (sz rfl rfl hb21 (sd rfl (yl_pick_f rfl rfl hb21 rfl (sd rfl (yl_assign rfl rfl (SeqR.done (tn (CW.cond_f rfl rfl (CW.skip (bn ?_))))))))))
      refine tn (CW.seq (CW.region (sd rfl (yl_build (cs := [.int .i64 (0), .int .i64 (0), .slice none 0 0, .slice none 0 0, .string (bs (([] : Str))), .string (bs (([] : Str))), .string (bs (([] : Str)))]) rfl opvs_nil (by kernel_rfl) (SeqR.u rfl rfl (yl_store (vs := [.int .i64 (0), .int .i64 (0), .slice none 0 0, .slice none 0 0, .string (bs (([] : Str))), .string (bs (([] : Str))), .string (bs (([] : Str)))]) Tryd.ty48 rfl rfl rfl rfl rfl rfl hB8 (Nat.le_of_ble_eq_true rfl) ?_))))))
      intro w251 hB252 hO253
      have hB252 : Box w251 b4 48 [.int .i64 (0), .int .i64 (0), .slice none 0 0, .slice none 0 0, .string (bs (([] : Str))), .string (bs (([] : Str))), .string (bs (([] : Str)))] := hB252
      have hO253z := hO253.size
      refine SeqR.done (tn (CW.ret (rr rfl (.cons ⟨_, rfl, run_loadN Tryd.ty48 (cs := [.int .i64 (0), .int .i64 (0), .slice none 0 0, .slice none 0 0, .string (bs (([] : Str))), .string (bs (([] : Str))), .string (bs (([] : Str)))]) rfl (hB252.cells (n := 7) rfl)⟩ .nil) ?_)))
      have hM254 : (s_l30Read p_0) = ((⟨0, (⟨0, (⟨[]⟩ : DRow), (⟨[]⟩ : DRow)⟩ : DRowAct), ([] : Str), ([] : Str), ([] : Str)⟩ : DStmt)) := by simp only [s_l30Read, hb10, hb13, hb21, hb217, hb234, cond_true, cond_false, loopE_done, loopE_ret]
      rw [hM254]
      exact ⟨none, 0, w251.heap.size, w251.heap.size, none, 0, w251.heap.size, w251.heap.size, rfl, (OwnL.nil _ _ _ _ _ _), (OwnL.nil _ _ _ _ _ _), ⟨⟨(okL.nil _), (okL.nil _)⟩, (okS.lit rfl), (okS.lit rfl), (okS.lit rfl)⟩, (by omega), (by omega), (by omega), (Below.only (Ex.trans (Ex.refl w) hE9) hO253 (by omega))⟩
 ·have hb10p := dec_f hb10
  refine sz rfl rfl hb10 (sz rfl rfl hb10 (sz rfl rfl hb10 (sz rfl rfl hb10 (sd rfl (yl_pick_f rfl rfl hb10 rfl (sd rfl (yl_assign rfl rfl (SeqR.done (tn (CW.cond_f rfl rfl ?_))))))))))
  refine CW.seq (CW.region (sd rfl (yl_move rfl rfl (sd rfl (yl_len Tryd.un22 rfl rfl (sd rfl (yl_eql rfl rfl rfl (sd rfl (yl_move rfl rfl (bcase (decide ((p_0.length : Int) = 5)) (fun hb257 => ?_) (fun hb257 => ?_)))))))))))
  ·have hb257p := dec_t hb257
   refine sy rfl rfl hb257 (yl_move rfl rfl ?_)
   have q258 := RdS.ex good_Str h1 hE9
   obtain ⟨eb259, eo259, ec259, eA259, eS259, ebl259, el259, eR259, eC259⟩ := RdS.atD q258 d_Str (i := 0) (by first | omega | assumption)
   obtain rfl := eR259
   have eC259 : Cells w5 eb259 (eo259 + 0 * 1) [.string (bs ((p_0.getD 0 d_Str)))] := eC259
   refine sy rfl rfl hb257 (yl_indexAddrN Tryd.un22 Tryd.ty9 rfl rfl rfl eA259 (by first | omega | assumption | (simp only [IntKind.wrap_i64] at *; omega)) (sy rfl rfl hb257 (yl_load1 Tryd.ty9 rfl rfl (eC259 0 _ rfl) (sy rfl rfl hb257 (yl_seql (a := (p_0.getD 0 d_Str)) (b := ([114, 97, 110, 103, 101] : Str)) rfl rfl rfl (sd rfl (yl_pick_t rfl rfl hb257 rfl (sd rfl (yl_assign rfl rfl (SeqR.done (tn (bcase ((p_0.getD 0 d_Str) == ([114, 97, 110, 103, 101] : Str)) (fun hb260 => ?_) (fun hb260 => ?_)))))))))))))
   ·refine CW.cond_t rfl hb260 (CW.seq ?_)
    obtain ⟨eb261, eo261, ec261, eA261, eS261, ebl261, el261, eR261, eC261⟩ := RdS.atD q258 d_Str (i := 2) (by first | omega | assumption)
    obtain rfl := eR261
    have eC261 : Cells w5 eb261 (eo261 + 2 * 1) [.string (bs ((p_0.getD 2 d_Str)))] := eC261
    obtain ⟨eb262, eo262, ec262, eA262, eS262, ebl262, el262, eR262, eC262⟩ := RdS.atD q258 d_Str (i := 3) (by first | omega | assumption)
    obtain rfl := eR262
    have eC262 : Cells w5 eb262 (eo262 + 3 * 1) [.string (bs ((p_0.getD 3 d_Str)))] := eC262
    obtain ⟨eb263, eo263, ec263, eA263, eS263, ebl263, el263, eR263, eC263⟩ := RdS.atD q258 d_Str (i := 4) (by first | omega | assumption)
    obtain rfl := eR263
    have eC263 : Cells w5 eb263 (eo263 + 4 * 1) [.string (bs ((p_0.getD 4 d_Str)))] := eC263
    refine CW.drawsI 9 (vgetI [DetI (.slice A1 p_0.length c1), DetI (.pointer (some ⟨eb261, eo261 + 2 * 1, none⟩)), DetI (.string (bs ((p_0.getD 2 d_Str)))), DetI (.slice A1 p_0.length c1), DetI (.pointer (some ⟨eb262, eo262 + 3 * 1, none⟩)), DetI (.string (bs ((p_0.getD 3 d_Str)))), DetI (.slice A1 p_0.length c1), DetI (.pointer (some ⟨eb263, eo263 + 4 * 1, none⟩)), DetI (.string (bs ((p_0.getD 4 d_Str))))]) Tryd.follows rfl rfl rfl rfl rfl rfl (vgetI_stable ⟨StableI.det _, StableI.det _, StableI.det _, StableI.det _, StableI.det _, StableI.det _, StableI.det _, StableI.det _, StableI.det _, trivial⟩) ⟨?_, ?_, ?_, ?_, ?_, ?_, ?_, ?_, ?_, trivial⟩ ?_
    ·exact fun _ _ h => os rfl ((yl_move rfl (h.old 0 _ rfl rfl) kI))
    ·intro L269 w270 hi271
     have hE272 := hi271.ex
     have hE272z := Ex.size hE272
     exact os rfl ((yl_indexAddrN Tryd.un22 Tryd.ty9 rfl (hi271.dt 0 27 rfl rfl rfl) rfl eA261 (by first | omega | assumption | (simp only [IntKind.wrap_i64] at *; omega)) kI))
    ·exact fun _ _ h => os rfl ((yl_load1 Tryd.ty9 rfl (h.dt 1 28 rfl rfl rfl) ((Cells.ex eC261 h.ex) 0 _ rfl) kI))
    ·exact fun _ _ h => os rfl ((yl_move rfl (h.old 0 _ rfl rfl) kI))
    ·intro L285 w286 hi287
     have hE288 := hi287.ex
     have hE288z := Ex.size hE288
     exact os rfl ((yl_indexAddrN Tryd.un22 Tryd.ty9 rfl (hi287.dt 3 30 rfl rfl rfl) rfl eA262 (by first | omega | assumption | (simp only [IntKind.wrap_i64] at *; omega)) kI))
    ·exact fun _ _ h => os rfl ((yl_load1 Tryd.ty9 rfl (h.dt 4 31 rfl rfl rfl) ((Cells.ex eC262 h.ex) 0 _ rfl) kI))
    ·exact fun _ _ h => os rfl ((yl_move rfl (h.old 0 _ rfl rfl) kI))
    ·intro L301 w302 hi303
     have hE304 := hi303.ex
     have hE304z := Ex.size hE304
     exact os rfl ((yl_indexAddrN Tryd.un22 Tryd.ty9 rfl (hi303.dt 6 33 rfl rfl rfl) rfl eA263 (by first | omega | assumption | (simp only [IntKind.wrap_i64] at *; omega)) kI))
    ·exact fun _ _ h => os rfl ((yl_load1 Tryd.ty9 rfl (h.dt 7 34 rfl rfl rfl) ((Cells.ex eC263 h.ex) 0 _ rfl) kI))
    ·intro fl315 fh316 L312 w313 hp314
     have hE317 := hp314.ex
     have hE317z := Ex.size hE317
     have hx318 := hp314.old 2 _ rfl rfl
     refine sd rfl (yl_build (cs := [.int .i64 (3), .int .i64 (0), .slice none 0 0, .slice none 0 0, .string (bs ((p_0.getD 2 d_Str))), .string (bs ((p_0.getD 3 d_Str))), .string (bs ((p_0.getD 4 d_Str)))]) rfl (opvs_cons rfl (opvs_cons (hp314.nt 2 29 rfl rfl rfl) (opvs_cons (hp314.nt 5 32 rfl rfl rfl) (opvs_cons (hp314.nt 8 35 rfl rfl rfl) opvs_nil)))) (by kernel_rfl) (SeqR.u rfl rfl (yl_store (vs := [.int .i64 (3), .int .i64 (0), .slice none 0 0, .slice none 0 0, .string (bs ((p_0.getD 2 d_Str))), .string (bs ((p_0.getD 3 d_Str))), .string (bs ((p_0.getD 4 d_Str)))]) Tryd.ty48 rfl hx318 rfl rfl rfl rfl (Box.ex hB8 hE317) (Nat.le_of_ble_eq_true rfl) ?_)))
     intro w323 hB324 hO325
     have hB324 : Box w323 b4 48 [.int .i64 (3), .int .i64 (0), .slice none 0 0, .slice none 0 0, .string (bs ((p_0.getD 2 d_Str))), .string (bs ((p_0.getD 3 d_Str))), .string (bs ((p_0.getD 4 d_Str)))] := hB324
     have hO325z := hO325.size
     refine SeqR.done (tn (CW.sub (Sub.cons (d := 2) hx318 (Sub.nil _)) (CW.ret (br (tr (rr rfl (.cons ⟨_, rfl, run_loadN Tryd.ty48 (cs := [.int .i64 (3), .int .i64 (0), .slice none 0 0, .slice none 0 0, .string (bs ((p_0.getD 2 d_Str))), .string (bs ((p_0.getD 3 d_Str))), .string (bs ((p_0.getD 4 d_Str)))]) rfl (hB324.cells (n := 7) rfl)⟩ .nil) ?_))))))
     have hM326 : (s_l30Read p_0) = ((⟨3, (⟨0, (⟨[]⟩ : DRow), (⟨[]⟩ : DRow)⟩ : DRowAct), (p_0.getD 2 d_Str), (p_0.getD 3 d_Str), (p_0.getD 4 d_Str)⟩ : DStmt)) := by simp only [s_l30Read, hb10, hb257, hb260, cond_true, cond_false, loopE_done, loopE_ret]
     rw [hM326]
     exact ⟨none, 0, w323.heap.size, w323.heap.size, none, 0, w323.heap.size, w323.heap.size, rfl, (OwnL.nil _ _ _ _ _ _), (OwnL.nil _ _ _ _ _ _), ⟨⟨(okL.nil _), (okL.nil _)⟩, (okL.getD o2 ok_d_Str _), (okL.getD o2 ok_d_Str _), (okL.getD o2 ok_d_Str _)⟩, (by omega), (by omega), (by omega), (Below.only (Ex.trans (Ex.trans (Ex.refl w) hE9) hE317) hO325 (by omega))⟩
   ·refine CW.cond_f rfl hb260 (CW.seq (CW.region (sd rfl (yl_move rfl rfl (sd rfl (yl_len Tryd.un22 rfl rfl (sd rfl (yl_eql rfl rfl rfl (sd rfl (yl_move rfl rfl (sz rfl rfl hb10 (sz rfl rfl hb10 ?_))))))))))))
    refine sz rfl rfl hb10 (sz rfl rfl hb10 (sd rfl (yl_pick_f rfl rfl hb10 rfl (sd rfl (yl_assign rfl rfl (SeqR.done (tn (CW.cond_f rfl rfl (CW.seq (CW.region ?_))))))))))
    refine sd rfl (yl_move rfl rfl (sd rfl (yl_len Tryd.un22 rfl rfl (sd rfl (yl_eql rfl rfl rfl (sd rfl (yl_move rfl rfl (sz rfl rfl hb10 (sz rfl rfl hb10 (sz rfl rfl hb10 (sz rfl rfl hb10 (sd rfl (yl_pick_f rfl rfl hb10 rfl ?_)))))))))))))
    refine sd rfl (yl_assign rfl rfl (SeqR.done (tn (CW.cond_f rfl rfl (CW.seq (CW.region (sd rfl (yl_move rfl rfl (sd rfl (yl_len Tryd.un22 rfl rfl (sd rfl (yl_eql rfl rfl rfl ?_))))))))))))
    refine sd rfl (yl_move rfl rfl (sy rfl rfl hb257 (yl_move rfl rfl (sy rfl rfl hb257 (yl_indexAddrN Tryd.un22 Tryd.ty9 rfl rfl rfl eA259 (by first | omega | assumption | (simp only [IntKind.wrap_i64] at *; omega)) (sy rfl rfl hb257 (yl_load1 Tryd.ty9 rfl rfl (eC259 0 _ rfl) (sy rfl rfl hb257 (yl_seql (a := (p_0.getD 0 d_Str)) (b := ([117, 112, 100, 97, 116, 101] : Str)) rfl rfl rfl (sd rfl (yl_pick_t rfl rfl hb257 rfl (sd rfl (yl_assign rfl rfl (SeqR.done (tn ?_)))))))))))))))
    refine bcase ((p_0.getD 0 d_Str) == ([117, 112, 100, 97, 116, 101] : Str)) (fun hb330 => ?_) (fun hb330 => ?_)
    ·refine CW.cond_t rfl hb330 (CW.seq ?_)
     obtain ⟨eb331, eo331, ec331, eA331, eS331, ebl331, el331, eR331, eC331⟩ := RdS.atD q258 d_Str (i := 2) (by first | omega | assumption)
     obtain rfl := eR331
     have eC331 : Cells w5 eb331 (eo331 + 2 * 1) [.string (bs ((p_0.getD 2 d_Str)))] := eC331
     obtain ⟨eb335, eo335, ec335, eA335, eS335, ebl335, el335, eR335, eC335⟩ := RdS.atD q258 d_Str (i := 4) (by first | omega | assumption)
     obtain rfl := eR335
     have eC335 : Cells w5 eb335 (eo335 + 4 * 1) [.string (bs ((p_0.getD 4 d_Str)))] := eC335
     refine CW.drawsI 7 (vgetI [DetI (.slice A1 p_0.length c1), DetI (.pointer (some ⟨eb331, eo331 + 2 * 1, none⟩)), DetI (.string (bs ((p_0.getD 2 d_Str)))), fun lo hi v wq => ∃ A333 c333 lo333 hi333, v = .agg #[.slice A333 (((s_l30Vals (p_0.getD 2 d_Str)).Vals).length) c333] ∧ OwnL wq lo333 hi333 9 1 (RF e_Str) A333 (((s_l30Vals (p_0.getD 2 d_Str)).Vals).length) c333 ((s_l30Vals (p_0.getD 2 d_Str)).Vals) ∧ ok_Row (s_l30Vals (p_0.getD 2 d_Str)) ∧ (lo ≤ lo333 ∧ lo333 ≤ hi333 ∧ hi333 ≤ hi), DetI (.slice A1 p_0.length c1), DetI (.pointer (some ⟨eb335, eo335 + 4 * 1, none⟩)), DetI (.string (bs ((p_0.getD 4 d_Str))))]) Tryd.follows rfl rfl rfl rfl rfl rfl (vgetI_stable ⟨StableI.det _, StableI.det _, StableI.det _, (fun _ _ _ _ _ ⟨A333, c333, lo333, hi333, hv, h333, ho334, hr0⟩ e => ⟨A333, c333, lo333, hi333, hv, OwnL.ex good_Str h333 e, ho334, hr0⟩), StableI.det _, StableI.det _, StableI.det _, trivial⟩) ⟨?_, ?_, ?_, ?_, ?_, ?_, ?_, trivial⟩ ?_
     ·exact fun _ _ h => os rfl ((yl_move rfl (h.old 0 _ rfl rfl) kI))
     ·intro L341 w342 hi343
      have hE344 := hi343.ex
      have hE344z := Ex.size hE344
      exact os rfl ((yl_indexAddrN Tryd.un22 Tryd.ty9 rfl (hi343.dt 0 79 rfl rfl rfl) rfl eA331 (by first | omega | assumption | (simp only [IntKind.wrap_i64] at *; omega)) kI))
     ·exact fun _ _ h => os rfl ((yl_load1 Tryd.ty9 rfl (h.dt 1 80 rfl rfl rfl) ((Cells.ex eC331 h.ex) 0 _ rfl) kI))
     ·intro L352 w353 hi354
      refine OpR.op' rfl (yl_call Tryd.en73 rfl (opvs_cons (hi354.dt 2 81 rfl rfl rfl) opvs_nil) (Cal.mono (c_s_l30Vals (p_0.getD 2 d_Str) (okL.getD o2 ok_d_Str _)) ?_))
      rintro v360 w357 ⟨A358, c358, lo358, hi358, rfl, h358, ho359, hrn362, hE361⟩
      exact ⟨⟨A358, c358, lo358, hi358, rfl, h358, ho359, hrn362⟩, hE361⟩
     ·exact fun _ _ h => os rfl ((yl_move rfl (h.old 0 _ rfl rfl) kI))
     ·intro L368 w369 hi370
      have hE371 := hi370.ex
      have hE371z := Ex.size hE371
      exact os rfl ((yl_indexAddrN Tryd.un22 Tryd.ty9 rfl (hi370.dt 4 83 rfl rfl rfl) rfl eA335 (by first | omega | assumption | (simp only [IntKind.wrap_i64] at *; omega)) kI))
     ·exact fun _ _ h => os rfl ((yl_load1 Tryd.ty9 rfl (h.dt 5 84 rfl rfl rfl) ((Cells.ex eC335 h.ex) 0 _ rfl) kI))
     ·intro fl382 fh383 L379 w380 hp381
      have hE384 := hp381.ex
      have hE384z := Ex.size hE384
      have hx385 := hp381.old 2 _ rfl rfl
      have hr387 := hp381.rng 3 rfl
      obtain ⟨_, hx386, A333_388, c333_389, lo333_390, hi333_391, rfl, h392, h393, hrn394⟩ := hp381.new 3 82 rfl rfl
      refine sd rfl (yl_call Tryd.en73 rfl (opvs_cons (hp381.nt 6 85 rfl rfl rfl) opvs_nil) (Cal.mono (c_s_l30Vals (p_0.getD 4 d_Str) (okL.getD o2 ok_d_Str _)) ?_))
      rintro v399 w396 ⟨A397, c397, lo397, hi397, rfl, h397, ho398, hrn401, hE400⟩
      have hE400z := Ex.size hE400
      refine sd rfl (yl_build (cs := [.int .i64 (3), .slice A333_388 (((s_l30Vals (p_0.getD 2 d_Str)).Vals).length) c333_389, .slice A397 (((s_l30Vals (p_0.getD 4 d_Str)).Vals).length) c397]) rfl (opvs_cons rfl (opvs_cons hx386 (opvs_cons rfl opvs_nil))) (by kernel_rfl) (sd rfl (yl_build (cs := [.int .i64 (1), .int .i64 (3), .slice A333_388 (((s_l30Vals (p_0.getD 2 d_Str)).Vals).length) c333_389, .slice A397 (((s_l30Vals (p_0.getD 4 d_Str)).Vals).length) c397, .string (bs (([] : Str))), .string (bs (([] : Str))), .string (bs (([] : Str)))]) rfl (opvs_cons rfl (opvs_cons rfl opvs_nil)) (by kernel_rfl) (SeqR.u rfl rfl (yl_store (vs := [.int .i64 (1), .int .i64 (3), .slice A333_388 (((s_l30Vals (p_0.getD 2 d_Str)).Vals).length) c333_389, .slice A397 (((s_l30Vals (p_0.getD 4 d_Str)).Vals).length) c397, .string (bs (([] : Str))), .string (bs (([] : Str))), .string (bs (([] : Str)))]) Tryd.ty48 rfl hx385 rfl rfl rfl rfl (Box.ex (Box.ex hB8 hE384) hE400) (Nat.le_of_ble_eq_true rfl) ?_)))))
      intro w404 hB405 hO406
      have hB405 : Box w404 b4 48 [.int .i64 (1), .int .i64 (3), .slice A333_388 (((s_l30Vals (p_0.getD 2 d_Str)).Vals).length) c333_389, .slice A397 (((s_l30Vals (p_0.getD 4 d_Str)).Vals).length) c397, .string (bs (([] : Str))), .string (bs (([] : Str))), .string (bs (([] : Str)))] := hB405
      have hO406z := hO406.size
      refine SeqR.done (tn (CW.sub (Sub.cons (d := 2) hx385 (Sub.nil _)) (CW.ret (br (tr (rr rfl (.cons ⟨_, rfl, run_loadN Tryd.ty48 (cs := [.int .i64 (1), .int .i64 (3), .slice A333_388 (((s_l30Vals (p_0.getD 2 d_Str)).Vals).length) c333_389, .slice A397 (((s_l30Vals (p_0.getD 4 d_Str)).Vals).length) c397, .string (bs (([] : Str))), .string (bs (([] : Str))), .string (bs (([] : Str)))]) rfl (hB405.cells (n := 7) rfl)⟩ .nil) ?_))))))
      have hM407 : (s_l30Read p_0) = ((⟨1, (⟨3, (s_l30Vals (p_0.getD 2 d_Str)), (s_l30Vals (p_0.getD 4 d_Str))⟩ : DRowAct), ([] : Str), ([] : Str), ([] : Str)⟩ : DStmt)) := by simp only [s_l30Read, hb10, hb257, hb260, hb330, cond_true, cond_false, loopE_done, loopE_ret]
      rw [hM407]
      exact ⟨A333_388, c333_389, lo333_390, hi333_391, A397, c397, lo397, hi397, rfl, (OwnL.only good_Str (OwnL.ex good_Str h392 hE400) hO406 (by omega)), (OwnL.only good_Str h397 hO406 (by omega)), ⟨⟨h393, ho398⟩, (okS.lit rfl), (okS.lit rfl), (okS.lit rfl)⟩, (by omega), (by omega), (by omega), (Below.only (Ex.trans (Ex.trans (Ex.trans (Ex.refl w) hE9) hE384) hE400) hO406 (by omega))⟩
    ·refine CW.cond_f rfl hb330 (CW.skip (bn (tn (CW.seq (CW.region (sd rfl (yl_build (cs := [.int .i64 (0), .int .i64 (0), .slice none 0 0, .slice none 0 0, .string (bs (([] : Str))), .string (bs (([] : Str))), .string (bs (([] : Str)))]) rfl opvs_nil (by kernel_rfl) (SeqR.u rfl rfl (yl_store (vs := [.int .i64 (0), .int .i64 (0), .slice none 0 0, .slice none 0 0, .string (bs (([] : Str))), .string (bs (([] : Str))), .string (bs (([] : Str)))]) Tryd.ty48 rfl rfl rfl rfl rfl rfl hB8 (Nat.le_of_ble_eq_true rfl) ?_)))))))))
     intro w415 hB416 hO417
     have hB416 : Box w415 b4 48 [.int .i64 (0), .int .i64 (0), .slice none 0 0, .slice none 0 0, .string (bs (([] : Str))), .string (bs (([] : Str))), .string (bs (([] : Str)))] := hB416
     have hO417z := hO417.size
     refine SeqR.done (tn (CW.ret (rr rfl (.cons ⟨_, rfl, run_loadN Tryd.ty48 (cs := [.int .i64 (0), .int .i64 (0), .slice none 0 0, .slice none 0 0, .string (bs (([] : Str))), .string (bs (([] : Str))), .string (bs (([] : Str)))]) rfl (hB416.cells (n := 7) rfl)⟩ .nil) ?_)))
     have hM418 : (s_l30Read p_0) = ((⟨0, (⟨0, (⟨[]⟩ : DRow), (⟨[]⟩ : DRow)⟩ : DRowAct), ([] : Str), ([] : Str), ([] : Str)⟩ : DStmt)) := by simp only [s_l30Read, hb10, hb257, hb260, hb330, cond_true, cond_false, loopE_done, loopE_ret]
     rw [hM418]
     exact ⟨none, 0, w415.heap.size, w415.heap.size, none, 0, w415.heap.size, w415.heap.size, rfl, (OwnL.nil _ _ _ _ _ _), (OwnL.nil _ _ _ _ _ _), ⟨⟨(okL.nil _), (okL.nil _)⟩, (okS.lit rfl), (okS.lit rfl), (okS.lit rfl)⟩, (by omega), (by omega), (by omega), (Below.only (Ex.trans (Ex.refl w) hE9) hO417 (by omega))⟩
  ·have hb257p := dec_f hb257
   refine sz rfl rfl hb257 (sz rfl rfl hb257 (sz rfl rfl hb257 (sz rfl rfl hb257 (sd rfl (yl_pick_f rfl rfl hb257 rfl (sd rfl (yl_assign rfl rfl (SeqR.done (tn (CW.cond_f rfl rfl ?_))))))))))
   refine CW.seq (CW.region (sd rfl (yl_move rfl rfl (sd rfl (yl_len Tryd.un22 rfl rfl (sd rfl (yl_eql rfl rfl rfl (sd rfl (yl_move rfl rfl (sz rfl rfl hb10 (sz rfl rfl hb10 (sz rfl rfl hb10 ?_))))))))))))
   refine sz rfl rfl hb10 (sd rfl (yl_pick_f rfl rfl hb10 rfl (sd rfl (yl_assign rfl rfl (SeqR.done (tn (CW.cond_f rfl rfl (CW.seq (CW.region (sd rfl (yl_move rfl rfl ?_)))))))))))
   refine sd rfl (yl_len Tryd.un22 rfl rfl (sd rfl (yl_eql rfl rfl rfl (sd rfl (yl_move rfl rfl (sz rfl rfl hb10 (sz rfl rfl hb10 (sz rfl rfl hb10 (sz rfl rfl hb10 (sd rfl (yl_pick_f rfl rfl hb10 rfl (sd rfl (yl_assign rfl rfl ?_)))))))))))))
   refine SeqR.done (tn (CW.cond_f rfl rfl (CW.seq (CW.region (sd rfl (yl_move rfl rfl (sd rfl (yl_len Tryd.un22 rfl rfl (sd rfl (yl_eql rfl rfl rfl (sd rfl (yl_move rfl rfl ?_))))))))))))
   refine sz rfl rfl hb257 (sz rfl rfl hb257 (sz rfl rfl hb257 (sz rfl rfl hb257 (sd rfl (yl_pick_f rfl rfl hb257 rfl (sd rfl (yl_assign rfl rfl (SeqR.done (tn (CW.cond_f rfl rfl ?_))))))))))
   refine CW.skip (bn (tn (CW.seq (CW.region (sd rfl (yl_build (cs := [.int .i64 (0), .int .i64 (0), .slice none 0 0, .slice none 0 0, .string (bs (([] : Str))), .string (bs (([] : Str))), .string (bs (([] : Str)))]) rfl opvs_nil (by kernel_rfl) (SeqR.u rfl rfl (yl_store (vs := [.int .i64 (0), .int .i64 (0), .slice none 0 0, .slice none 0 0, .string (bs (([] : Str))), .string (bs (([] : Str))), .string (bs (([] : Str)))]) Tryd.ty48 rfl rfl rfl rfl rfl rfl hB8 (Nat.le_of_ble_eq_true rfl) ?_))))))))
   intro w421 hB422 hO423
   have hB422 : Box w421 b4 48 [.int .i64 (0), .int .i64 (0), .slice none 0 0, .slice none 0 0, .string (bs (([] : Str))), .string (bs (([] : Str))), .string (bs (([] : Str)))] := hB422
   have hO423z := hO423.size
   refine SeqR.done (tn (CW.ret (rr rfl (.cons ⟨_, rfl, run_loadN Tryd.ty48 (cs := [.int .i64 (0), .int .i64 (0), .slice none 0 0, .slice none 0 0, .string (bs (([] : Str))), .string (bs (([] : Str))), .string (bs (([] : Str)))]) rfl (hB422.cells (n := 7) rfl)⟩ .nil) ?_)))
   have hM424 : (s_l30Read p_0) = ((⟨0, (⟨0, (⟨[]⟩ : DRow), (⟨[]⟩ : DRow)⟩ : DRowAct), ([] : Str), ([] : Str), ([] : Str)⟩ : DStmt)) := by simp only [s_l30Read, hb10, hb257, cond_true, cond_false, loopE_done, loopE_ret]
   rw [hM424]
   exact ⟨none, 0, w421.heap.size, w421.heap.size, none, 0, w421.heap.size, w421.heap.size, rfl, (OwnL.nil _ _ _ _ _ _), (OwnL.nil _ _ _ _ _ _), ⟨⟨(okL.nil _), (okL.nil _)⟩, (okS.lit rfl), (okS.lit rfl), (okS.lit rfl)⟩, (by omega), (by omega), (by omega), (Below.only (Ex.trans (Ex.refl w) hE9) hO423 (by omega))⟩
end Go.Proofs.YtdbobbmagmcpnaaDoor
