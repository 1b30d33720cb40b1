/- Table Text: what each call returns, part 1. -/
import Derived.Test.YtficefnmkcejlaaDoorTableTextL
import Derived.Test.YtficefnmkcejlaaDoorTableTextF
import Derived.Test.YtficefnmkcejlaaDoorTableTextY
import Derived.Test.YtficefnmkcejlaaDoorTableTextS
set_option maxRecDepth 100000
set_option maxHeartbeats 2000000
open Go.Proofs.Tryd Go.Proofs.YtficefnmkcejlaaDoor.Tryd
set_option linter.unusedVariables false
set_option linter.unusedSimpArgs false
namespace Go.Proofs.YtficefnmkcejlaaDoor
open Go.RowKit Go.X
theorem c_l_szStringS {A1 : Option Addr} {c1 : Nat} {w : World} (p_a : List Str) (p_left : Int) (h1 : RdS w (Iv 0 w.heap.size) (RF e_Str) 1 A1 p_a.length c1 p_a) : Cal Tryd.prog 9 #[.slice A1 p_a.length c1, .int .i64 (p_left)] w fun v w' => v = .int .i64 ((l_szStringS p_a p_left)) ∧ Ex w w' := by
 refine Cal.of func9 rfl ntmps9 rfl (CW.seq (CW.region (sd rfl (yl_assign rfl rfl (dn (CW.seq (CW.region (sd rfl (yl_move rfl rfl ?_)))))))))
 refine sd rfl (yl_move rfl rfl (sd rfl (yl_len un22 rfl rfl (sd rfl (yl_sub rfl rfl rfl (sd rfl (yl_assign rfl rfl (dn (CW.seq (CW.seq (CW.region ?_)))))))))))
 refine sd rfl (yl_move rfl rfl (sd rfl (yl_lss rfl rfl rfl (dn (bcase (decide ((IntKind.wrap .i64 (p_left - (p_a.length : Int))) < 0)) (fun hb2 => ?_) (fun hb2 => ?_))))))
 ·have hb2p := dec_t hb2
  refine CW.cond_t rfl hb2 (CW.seq (CW.region (sd rfl (yl_assign rfl rfl (dn (CW.ret (tr (rr rfl (.cons rfl .nil) ?_))))))))
  have hM3 : (l_szStringS p_a p_left) = (-1) := by simp only [l_szStringS, hb2, cL]
  rw [hM3]
  exact ⟨rfl, (Ex.refl w)⟩
 ·have hb2p := dec_f hb2
  refine CW.cond_f rfl hb2 (CW.skip (tn (CW.seq (CW.seq (CW.region (sd rfl (yl_assign rfl rfl (dn ?_))))))))
  refine CW.block (CW.loop (fun m6 L7 w8 => ∃ (k4 : Nat) (x5 : Int), m6 = p_a.length - k4 ∧ k4 ≤ p_a.length ∧ w.heap.size ≤ w8.heap.size ∧ lkp L7 0 = some (.slice A1 p_a.length c1) ∧ lkp L7 1 = some (.int .i64 (x5)) ∧ lkp L7 5 = some (.int .i64 ((k4 : Int))) ∧ RdS w8 (Iv 0 w.heap.size) (RF e_Str) 1 A1 p_a.length c1 p_a ∧ Ex w w8 ∧ loopM (B_l_szStringS_0 p_a p_left) (p_a.length - k4) k4 (x5) = loopM (B_l_szStringS_0 p_a p_left) (p_a.length - 0) 0 (IntKind.wrap .i64 (p_left - (p_a.length : Int)))) (p_a.length - 0) ?_ ?_)
  ·exact ⟨0, IntKind.wrap .i64 (p_left - (p_a.length : Int)), rfl, (by omega), Nat.le_refl _, rfl, rfl, rfl, h1, (Ex.refl w), rfl⟩
  ·rintro m9 L10 w11 ⟨k4, x5, rfl, hk12, hsz14, hl15, hl16, hl17, hf18, hf19, hI13⟩
   refine CW.sub (Sub.cons hl15 (Sub.cons hl16 (Sub.cons hl17 (Sub.nil _)))) ?_
   have hf19z := Ex.size hf19
   have hbg20 := RdS.big hf18
   rcases Nat.lt_or_ge k4 p_a.length with hlt21 | hlt21
   ·refine CW.seq (CW.seq (CW.region (sd rfl (yl_move rfl rfl (sd rfl (yl_move rfl rfl (sd rfl (yl_len un22 rfl rfl (sd rfl (yl_lss rfl rfl rfl (dn ?_)))))))))))
    refine CW.cond_t rfl (lt_t hlt21) (CW.skip (tn (CW.seq (CW.block (CW.seq (CW.region (sd rfl (yl_move rfl rfl (sd rfl (yl_move rfl rfl ?_))))))))))
    refine sd rfl (yl_move rfl rfl ?_)
    obtain ⟨eb22, eo22, _, eA22, _, ebl22, _, eR22, eC22⟩ := RdS.aD hf18 d_Str (i := k4)
    obtain rfl := eR22
    have eC22 : Cells w11 eb22 (eo22 + k4 * 1) [.string (bs ((p_a.getD k4 d_Str)))] := eC22
    refine sd rfl (yl_ixN un22 ty9 rfl rfl rfl eA22 (sd rfl (yl_load1 ty9 rfl rfl (eC22 0 _ rfl) (sd rfl (yl_slen un9 (a := (p_a.getD k4 d_Str)) rfl rfl (sd rfl (yl_sub rfl rfl rfl (sd rfl (yl_assign rfl rfl (dn (CW.seq (CW.region ?_))))))))))))
    refine sd rfl (yl_move rfl rfl (sd rfl (yl_lss rfl rfl rfl (dn (bcase (decide ((IntKind.wrap .i64 (x5 - ((p_a.getD k4 d_Str).length : Int))) < 0)) (fun hb23 => ?_) (fun hb23 => ?_))))))
    ·have hb23p := dec_t hb23
     refine CW.cond_t rfl hb23 (CW.seq (CW.region (sd rfl (yl_assign rfl rfl (dn (CW.ret (br (tr ?_))))))))
     refine tr ?_
     have hB25 : B_l_szStringS_0 p_a p_left k4 (x5) = .ret (-1) := by simp only [B_l_szStringS_0, hb2, hb23, cL]
     have hL24 : loopM (B_l_szStringS_0 p_a p_left) (p_a.length - 0) 0 (IntKind.wrap .i64 (p_left - (p_a.length : Int))) = .ret (-1) := hI13.symm.trans (loopM.ret hlt21 hB25)
     refine br (tr (rr rfl (.cons rfl .nil) ?_))
     have hM26 : (l_szStringS p_a p_left) = (-1) := by simp only [l_szStringS, hb2, hb23, hL24, cL]
     rw [hM26]
     exact ⟨rfl, hf19⟩
    ·have hb23p := dec_f hb23
     refine CW.cond_f rfl hb23 (CW.skip (bn (tn (CW.region (sd rfl (yl_move rfl rfl (sd rfl (yl_inc rfl rfl rfl (by omega) (sd rfl (yl_assign rfl rfl (SeqR.done ?_)))))))))))
     refine tn ?_
     have hB27 : B_l_szStringS_0 p_a p_left k4 (x5) = .cont (IntKind.wrap .i64 (x5 - ((p_a.getD k4 d_Str).length : Int))) := by simp only [B_l_szStringS_0, hb2, hb23, cL]
     exact ⟨p_a.length - (k4 + 1), by omega, k4 + 1, IntKind.wrap .i64 (x5 - ((p_a.getD k4 d_Str).length : Int)), rfl, hlt21, (by omega), rfl, rfl, rfl, hf18, hf19, (loopM.cont hlt21 hB27).symm.trans hI13⟩
   ·refine CW.seq (CW.seq (CW.region (sd rfl (yl_move rfl rfl (sd rfl (yl_move rfl rfl (sd rfl (yl_len un22 rfl rfl (sd rfl (yl_lss rfl rfl rfl (dn ?_)))))))))))
    refine CW.cond_f rfl (lt_f hlt21) (CW.exit (tx (tx ?_)))
    have hL28 : loopM (B_l_szStringS_0 p_a p_left) (p_a.length - 0) 0 (IntKind.wrap .i64 (p_left - (p_a.length : Int))) = .done (x5) := hI13.symm.trans (loopM.stop hlt21)
    refine bx (tn (CW.seq (CW.region (sd rfl (yl_move rfl rfl (sd rfl (yl_assign rfl rfl (dn (CW.ret ?_)))))))))
    refine rr rfl (.cons rfl .nil) ?_
    have hM29 : (l_szStringS p_a p_left) = (x5) := by simp only [l_szStringS, hb2, hL28, cL]
    rw [hM29]
    exact ⟨rfl, hf19⟩
theorem c_l_szIdx {w : World} (p_a : DIdx) (p_left : Int) : Cal Tryd.prog 19 #[.agg #[.string (bs (p_a.Name)), .int .i64 (p_a.Col), .int .i64 (p_a.Stage)], .int .i64 (p_left)] w fun v w' => v = .int .i64 ((l_szIdx p_a p_left)) ∧ Ex w w' := by
 refine Cal.of func19 rfl ntmps19 rfl (CW.seq (CW.region (sd rfl (yl_box rfl rfl rfl ?_))))
 intro b1 w2 hs3 hz4 hB5 hE6
 refine sd rfl (yl_assign rfl rfl (dn (CW.seq (CW.region (sd rfl (yl_move rfl rfl (sd rfl (yl_fieldAddr fd45_0 rfl rfl (sd rfl (yl_load1 ty9 rfl rfl ((hB5.cell 0).trans rfl) (sd rfl (yl_slen un9 (a := p_a.Name) rfl rfl ?_))))))))))))
 refine sd rfl (yl_sub rfl rfl rfl (sd rfl (yl_assign rfl rfl (dn (CW.seq (CW.seq (CW.region (sd rfl (yl_move rfl rfl (sd rfl (yl_lss rfl rfl rfl ?_)))))))))))
 refine dn (bcase (decide ((IntKind.wrap .i64 (p_left - (p_a.Name.length : Int))) < 0)) (fun hb7 => ?_) (fun hb7 => ?_))
 ·have hb7p := dec_t hb7
  refine CW.cond_t rfl hb7 (CW.seq (CW.region (sd rfl (yl_assign rfl rfl (dn (CW.ret (tr (rr rfl (.cons rfl .nil) ?_))))))))
  have hM8 : (l_szIdx p_a p_left) = (-1) := by simp only [l_szIdx, hb7, cL]
  rw [hM8]
  exact ⟨rfl, (Ex.trans (Ex.refl w) hE6)⟩
 ·have hb7p := dec_f hb7
  refine CW.cond_f rfl hb7 (CW.skip (tn (CW.seq (CW.region (sd rfl (yl_move rfl rfl (sd rfl (yl_assign rfl rfl (dn ?_)))))))))
  refine CW.ret (rr rfl (.cons rfl .nil) ?_)
  have hM10 : (l_szIdx p_a p_left) = (IntKind.wrap .i64 (p_left - (p_a.Name.length : Int))) := by simp only [l_szIdx, hb7, cL]
  rw [hM10]
  exact ⟨rfl, (Ex.trans (Ex.refl w) hE6)⟩
theorem c_l_szIdxS {A1 : Option Addr} {c1 : Nat} {w : World} (p_a : List DIdx) (p_left : Int) (h1 : RdS w (Iv 0 w.heap.size) (RF e_Idx) 3 A1 p_a.length c1 p_a) : Cal Tryd.prog 10 #[.slice A1 p_a.length c1, .int .i64 (p_left)] w fun v w' => v = .int .i64 ((l_szIdxS p_a p_left)) ∧ Ex w w' := by
 refine Cal.of func10 rfl ntmps10 rfl (CW.seq (CW.region (sd rfl (yl_assign rfl rfl (dn (CW.seq (CW.region (sd rfl (yl_move rfl rfl ?_)))))))))
 refine sd rfl (yl_move rfl rfl (sd rfl (yl_len un23 rfl rfl (sd rfl (yl_sub rfl rfl rfl (sd rfl (yl_assign rfl rfl (dn (CW.seq (CW.seq (CW.region ?_)))))))))))
 refine sd rfl (yl_move rfl rfl (sd rfl (yl_lss rfl rfl rfl (dn (bcase (decide ((IntKind.wrap .i64 (p_left - (p_a.length : Int))) < 0)) (fun hb2 => ?_) (fun hb2 => ?_))))))
 ·have hb2p := dec_t hb2
  refine CW.cond_t rfl hb2 (CW.seq (CW.region (sd rfl (yl_assign rfl rfl (dn (CW.ret (tr (rr rfl (.cons rfl .nil) ?_))))))))
  have hM3 : (l_szIdxS p_a p_left) = (-1) := by simp only [l_szIdxS, hb2, cL]
  rw [hM3]
  exact ⟨rfl, (Ex.refl w)⟩
 ·have hb2p := dec_f hb2
  refine CW.cond_f rfl hb2 (CW.skip (tn (CW.seq (CW.seq (CW.region (sd rfl (yl_assign rfl rfl (dn ?_))))))))
  refine CW.block (CW.loop (fun m6 L7 w8 => ∃ (k4 : Nat) (x5 : Int), m6 = p_a.length - k4 ∧ k4 ≤ p_a.length ∧ w.heap.size ≤ w8.heap.size ∧ lkp L7 0 = some (.slice A1 p_a.length c1) ∧ lkp L7 1 = some (.int .i64 (x5)) ∧ lkp L7 5 = some (.int .i64 ((k4 : Int))) ∧ RdS w8 (Iv 0 w.heap.size) (RF e_Idx) 3 A1 p_a.length c1 p_a ∧ Ex w w8 ∧ loopM (B_l_szIdxS_0 p_a p_left) (p_a.length - k4) k4 (x5) = loopM (B_l_szIdxS_0 p_a p_left) (p_a.length - 0) 0 (IntKind.wrap .i64 (p_left - (p_a.length : Int)))) (p_a.length - 0) ?_ ?_)
  ·exact ⟨0, IntKind.wrap .i64 (p_left - (p_a.length : Int)), rfl, (by omega), Nat.le_refl _, rfl, rfl, rfl, h1, (Ex.refl w), rfl⟩
  ·rintro m9 L10 w11 ⟨k4, x5, rfl, hk12, hsz14, hl15, hl16, hl17, hf18, hf19, hI13⟩
   refine CW.sub (Sub.cons hl15 (Sub.cons hl16 (Sub.cons hl17 (Sub.nil _)))) ?_
   have hf19z := Ex.size hf19
   have hbg20 := RdS.big hf18
   rcases Nat.lt_or_ge k4 p_a.length with hlt21 | hlt21
   ·refine CW.seq (CW.seq (CW.region (sd rfl (yl_move rfl rfl (sd rfl (yl_move rfl rfl (sd rfl (yl_len un23 rfl rfl (sd rfl (yl_lss rfl rfl rfl (dn ?_)))))))))))
    refine CW.cond_t rfl (lt_t hlt21) (CW.skip (tn (CW.seq (CW.block (CW.seq (CW.region (sd rfl (yl_move rfl rfl (sd rfl (yl_move rfl rfl ?_))))))))))
    obtain ⟨eb22, eo22, _, eA22, _, ebl22, _, eR22, eC22⟩ := RdS.aD hf18 d_Idx (i := k4)
    obtain rfl := eR22
    have eC22 : Cells w11 eb22 (eo22 + k4 * 3) [.string (bs ((p_a.getD k4 d_Idx).Name)), .int .i64 ((p_a.getD k4 d_Idx).Col), .int .i64 ((p_a.getD k4 d_Idx).Stage)] := eC22
    refine sd rfl (yl_ixN un23 ty45 rfl rfl rfl eA22 (sd rfl (yl_loadN ty45 rfl rfl eC22 rfl (sd rfl (yl_move rfl rfl (sd rfl (yl_call en19 rfl (oc rfl (oc rfl oz)) (Cal.mono (c_l_szIdx (p_a.getD k4 d_Idx) x5) ?_))))))))
    rintro v24 w23 ⟨rfl, hE25⟩
    have hE25z := Ex.size hE25
    refine sd rfl (yl_assign rfl rfl (dn (CW.seq (CW.region (sd rfl (yl_move rfl rfl (sd rfl (yl_lss rfl rfl rfl (dn ?_)))))))))
    refine bcase (decide ((l_szIdx (p_a.getD k4 d_Idx) x5) < 0)) (fun hb26 => ?_) (fun hb26 => ?_)
    ·have hb26p := dec_t hb26
     refine CW.cond_t rfl hb26 (CW.seq (CW.region (sd rfl (yl_assign rfl rfl (dn (CW.ret (br (tr ?_))))))))
     refine tr ?_
     have hB28 : B_l_szIdxS_0 p_a p_left k4 (x5) = .ret (-1) := by simp only [B_l_szIdxS_0, hb2, hb26, cL]
     have hL27 : loopM (B_l_szIdxS_0 p_a p_left) (p_a.length - 0) 0 (IntKind.wrap .i64 (p_left - (p_a.length : Int))) = .ret (-1) := hI13.symm.trans (loopM.ret hlt21 hB28)
     refine br (tr (rr rfl (.cons rfl .nil) ?_))
     have hM29 : (l_szIdxS p_a p_left) = (-1) := by simp only [l_szIdxS, hb2, hb26, hL27, cL]
     rw [hM29]
     exact ⟨rfl, (Ex.trans hf19 hE25)⟩
    ·have hb26p := dec_f hb26
     refine CW.cond_f rfl hb26 (CW.skip (bn (tn (CW.region (sd rfl (yl_move rfl rfl (sd rfl (yl_inc rfl rfl rfl (by omega) (sd rfl (yl_assign rfl rfl (SeqR.done ?_)))))))))))
     refine tn ?_
     have hB31 : B_l_szIdxS_0 p_a p_left k4 (x5) = .cont ((l_szIdx (p_a.getD k4 d_Idx) x5)) := by simp only [B_l_szIdxS_0, hb2, hb26, cL]
     exact ⟨p_a.length - (k4 + 1), by omega, k4 + 1, (l_szIdx (p_a.getD k4 d_Idx) x5), rfl, hlt21, (by omega), rfl, rfl, rfl, (RdS.ex good_Idx hf18 hE25), (Ex.trans hf19 hE25), (loopM.cont hlt21 hB31).symm.trans hI13⟩
   ·refine CW.seq (CW.seq (CW.region (sd rfl (yl_move rfl rfl (sd rfl (yl_move rfl rfl (sd rfl (yl_len un23 rfl rfl (sd rfl (yl_lss rfl rfl rfl (dn ?_)))))))))))
    refine CW.cond_f rfl (lt_f hlt21) (CW.exit (tx (tx ?_)))
    have hL34 : loopM (B_l_szIdxS_0 p_a p_left) (p_a.length - 0) 0 (IntKind.wrap .i64 (p_left - (p_a.length : Int))) = .done (x5) := hI13.symm.trans (loopM.stop hlt21)
    refine bx (tn (CW.seq (CW.region (sd rfl (yl_move rfl rfl (sd rfl (yl_assign rfl rfl (dn (CW.ret ?_)))))))))
    refine rr rfl (.cons rfl .nil) ?_
    have hM35 : (l_szIdxS p_a p_left) = (x5) := by simp only [l_szIdxS, hb2, hL34, cL]
    rw [hM35]
    exact ⟨rfl, hf19⟩
theorem c_l_szTable {A1 : Option Addr} {c1 : Nat} {A2 : Option Addr} {c2 : Nat} {w : World} (p_a : DTable) (p_left : Int) (h1 : RdS w (Iv 0 w.heap.size) (RF e_Str) 1 A1 p_a.Cols.length c1 p_a.Cols) (h2 : RdS w (Iv 0 w.heap.size) (RF e_Idx) 3 A2 p_a.Idxs.length c2 p_a.Idxs) : Cal Tryd.prog 4 #[.agg #[.string (bs (p_a.Name)), .slice A1 p_a.Cols.length c1, .slice A2 p_a.Idxs.length c2], .int .i64 (p_left)] w fun v w' => v = .int .i64 ((l_szTable p_a p_left)) ∧ Ex w w' := by
 refine Cal.of func4 rfl ntmps4 rfl (CW.seq (CW.region (sd rfl (yl_box rfl rfl rfl ?_))))
 intro b3 w4 hs5 hz6 hB7 hE8
 refine sd rfl (yl_assign rfl rfl (dn (CW.seq (CW.region (sd rfl (yl_move rfl rfl (sd rfl (yl_fieldAddr fd25_0 rfl rfl (sd rfl (yl_load1 ty9 rfl rfl ((hB7.cell 0).trans rfl) (sd rfl (yl_slen un9 (a := p_a.Name) rfl rfl ?_))))))))))))
 refine sd rfl (yl_sub rfl rfl rfl (sd rfl (yl_assign rfl rfl (dn (CW.seq (CW.seq (CW.region (sd rfl (yl_move rfl rfl (sd rfl (yl_lss rfl rfl rfl ?_)))))))))))
 refine dn (bcase (decide ((IntKind.wrap .i64 (p_left - (p_a.Name.length : Int))) < 0)) (fun hb9 => ?_) (fun hb9 => ?_))
 ·have hb9p := dec_t hb9
  refine CW.cond_t rfl hb9 (CW.seq (CW.region (sd rfl (yl_assign rfl rfl (dn (CW.ret (tr (rr rfl (.cons rfl .nil) ?_))))))))
  have hM10 : (l_szTable p_a p_left) = (-1) := by simp only [l_szTable, hb9, cL]
  rw [hM10]
  exact ⟨rfl, (Ex.trans (Ex.refl w) hE8)⟩
 ·have hb9p := dec_f hb9
  refine CW.cond_f rfl hb9 (CW.skip (tn (CW.seq (CW.region (sd rfl (yl_fieldAddr fd25_1 rfl rfl (sd rfl (yl_load1 ty22 rfl rfl ((hB7.cell 1).trans rfl) (sd rfl (yl_move rfl rfl (sd rfl (yl_call en9 rfl (oc rfl (oc rfl oz)) (Cal.mono (c_l_szStringS p_a.Cols (IntKind.wrap .i64 (p_left - (p_a.Name.length : Int))) (RdS.up (RdS.ex good_Str h1 hE8) good_Str)) ?_)))))))))))))
  rintro v14 w13 ⟨rfl, hE15⟩
  refine sd rfl (yl_assign rfl rfl (dn (CW.seq (CW.seq (CW.region (sd rfl (yl_move rfl rfl (sd rfl (yl_lss rfl rfl rfl (SeqR.done ?_))))))))))
  refine tn (bcase (decide ((l_szStringS p_a.Cols (IntKind.wrap .i64 (p_left - (p_a.Name.length : Int)))) < 0)) (fun hb16 => ?_) (fun hb16 => ?_))
  ·have hb16p := dec_t hb16
   refine CW.cond_t rfl hb16 (CW.seq (CW.region (sd rfl (yl_assign rfl rfl (dn (CW.ret (tr (rr rfl (.cons rfl .nil) ?_))))))))
   have hM17 : (l_szTable p_a p_left) = (-1) := by simp only [l_szTable, hb9, hb16, cL]
   rw [hM17]
   exact ⟨rfl, (Ex.trans (Ex.trans (Ex.refl w) hE8) hE15)⟩
  ·have hb16p := dec_f hb16
   refine CW.cond_f rfl hb16 (CW.skip (tn (CW.seq (CW.region (sd rfl (yl_fieldAddr fd25_2 rfl rfl (sd rfl (yl_load1 ty23 rfl rfl (((Box.ex hB7 hE15).cell 2).trans rfl) (sd rfl (yl_move rfl rfl (sd rfl (yl_call en10 rfl (oc rfl (oc rfl oz)) (Cal.mono (c_l_szIdxS p_a.Idxs (l_szStringS p_a.Cols (IntKind.wrap .i64 (p_left - (p_a.Name.length : Int)))) (RdS.up (RdS.ex good_Idx (RdS.ex good_Idx h2 hE8) hE15) good_Idx)) ?_)))))))))))))
   rintro v24 w23 ⟨rfl, hE25⟩
   refine sd rfl (yl_assign rfl rfl (dn (CW.seq (CW.seq (CW.region (sd rfl (yl_move rfl rfl (sd rfl (yl_lss rfl rfl rfl (SeqR.done ?_))))))))))
   refine tn (bcase (decide ((l_szIdxS p_a.Idxs (l_szStringS p_a.Cols (IntKind.wrap .i64 (p_left - (p_a.Name.length : Int))))) < 0)) (fun hb26 => ?_) (fun hb26 => ?_))
   ·have hb26p := dec_t hb26
    refine CW.cond_t rfl hb26 (CW.seq (CW.region (sd rfl (yl_assign rfl rfl (dn (CW.ret (tr (rr rfl (.cons rfl .nil) ?_))))))))
    have hM27 : (l_szTable p_a p_left) = (-1) := by simp only [l_szTable, hb9, hb16, hb26, cL]
    rw [hM27]
    exact ⟨rfl, (Ex.trans (Ex.trans (Ex.trans (Ex.refl w) hE8) hE15) hE25)⟩
   ·have hb26p := dec_f hb26
    refine CW.cond_f rfl hb26 (CW.skip (tn (CW.seq (CW.region (sd rfl (yl_move rfl rfl (sd rfl (yl_assign rfl rfl (dn ?_)))))))))
    refine CW.ret (rr rfl (.cons rfl .nil) ?_)
    have hM31 : (l_szTable p_a p_left) = ((l_szIdxS p_a.Idxs (l_szStringS p_a.Cols (IntKind.wrap .i64 (p_left - (p_a.Name.length : Int)))))) := by simp only [l_szTable, hb9, hb16, hb26, cL]
    rw [hM31]
    exact ⟨rfl, (Ex.trans (Ex.trans (Ex.trans (Ex.refl w) hE8) hE15) hE25)⟩
theorem c_s_l24Letters {w : World} (p_s : Str) (p_most : Int) (o1 : okS p_s) : Cal Tryd.prog 20 #[.string (bs (p_s)), .int .i64 (p_most)] w fun v w' => v = .bool ((s_l24Letters p_s p_most)) ∧ Ex w w' := by
 have hol2 : p_s.length ≤ 1073741824 := o1
 refine Cal.of func20 rfl ntmps20 rfl (CW.seq (CW.region (sd rfl (yl_assign rfl rfl (dn (CW.seq (CW.seq (CW.region ?_))))))))
 refine sd rfl (yl_assign rfl rfl (dn (CW.block (CW.loop (fun m4 L5 w6 => ∃ (k3 : Nat), m4 = p_s.length - k3 ∧ k3 ≤ p_s.length ∧ w.heap.size ≤ w6.heap.size ∧ lkp L5 0 = some (.string (bs (p_s))) ∧ lkp L5 1 = some (.int .i64 (p_most)) ∧ lkp L5 5 = some (.int .i64 ((k3 : Int))) ∧ Ex w w6 ∧ loopM (B_s_l24Letters_0 p_s p_most) (p_s.length - k3) k3 () = loopM (B_s_l24Letters_0 p_s p_most) (p_s.length - 0) 0 ()) (p_s.length - 0) ?_ ?_))))
 ·exact ⟨0, rfl, (by omega), Nat.le_refl _, rfl, rfl, rfl, (Ex.refl w), rfl⟩
 ·rintro m7 L8 w9 ⟨k3, rfl, hk10, hsz12, hl13, hl14, hl15, hf16, hI11⟩
  refine CW.sub (Sub.cons hl13 (Sub.cons hl14 (Sub.cons hl15 (Sub.nil _)))) ?_
  have hf16z := Ex.size hf16
  have hbg17 : p_s.length ≤ 1073741824 := o1
  rcases Nat.lt_or_ge k3 p_s.length with hlt18 | hlt18
  ·refine CW.seq (CW.seq (CW.region (sd rfl (yl_move rfl rfl (sd rfl (yl_move rfl rfl (sd rfl (yl_slen un9 (a := p_s) rfl rfl (sd rfl (yl_lss rfl rfl rfl (dn ?_)))))))))))
   refine CW.cond_t rfl (lt_t hlt18) (CW.skip (tn (CW.seq (CW.block (CW.seq (CW.region (sd rfl (yl_move rfl rfl (sd rfl (yl_move rfl rfl ?_))))))))))
   refine sd rfl (yl_sindexN un9 (a := p_s) rfl rfl rfl (by first | omega | assumption | (simp only [wI] at *; omega)) (sd rfl (yl_lss rfl rfl rfl (sd rfl (yl_move rfl rfl (bcase (decide (((p_s.getD k3 0).toNat : Int) < 97)) (fun hb19 => ?_) (fun hb19 => ?_)))))))
   ·have hb19p := dec_t hb19
    refine sz rfl rfl hb19 (sz rfl rfl hb19 (sz rfl rfl hb19 (sz rfl rfl hb19 (sd rfl (yl_pick_t rfl rfl hb19 rfl (dn (CW.cond_t rfl rfl (CW.seq ?_))))))))
    refine CW.region (sd rfl (yl_assign rfl rfl (dn (CW.ret (br (tr (tr ?_)))))))
    have hB21 : B_s_l24Letters_0 p_s p_most k3 () = .ret false := by simp only [B_s_l24Letters_0, hb19, cL]
    have hL20 : loopM (B_s_l24Letters_0 p_s p_most) (p_s.length - 0) 0 () = .ret false := hI11.symm.trans (loopM.ret hlt18 hB21)
    refine br (tr (rr rfl (.cons rfl .nil) ?_))
    have hM22 : (s_l24Letters p_s p_most) = (false) := by simp only [s_l24Letters, hb19, hL20, cL]
    rw [hM22]
    exact ⟨rfl, hf16⟩
   ·have hb19p := dec_f hb19
    refine sy rfl rfl hb19 (yl_move rfl rfl (sy rfl rfl hb19 (yl_move rfl rfl (sy rfl rfl hb19 (yl_sindexN un9 (a := p_s) rfl rfl rfl (by first | omega | assumption | (simp only [wI] at *; omega)) (sy rfl rfl hb19 (yl_gtr rfl rfl rfl (sd rfl (yl_pick_f rfl rfl hb19 rfl (dn (bcase (decide (122 < ((p_s.getD k3 0).toNat : Int))) (fun hb23 => ?_) (fun hb23 => ?_))))))))))))
    ·have hb23p := dec_t hb23
     refine CW.cond_t rfl hb23 (CW.seq (CW.region (sd rfl (yl_assign rfl rfl (dn (CW.ret (br (tr ?_))))))))
     refine tr ?_
     have hB25 : B_s_l24Letters_0 p_s p_most k3 () = .ret false := by simp only [B_s_l24Letters_0, hb19, hb23, cL]
     have hL24 : loopM (B_s_l24Letters_0 p_s p_most) (p_s.length - 0) 0 () = .ret false := hI11.symm.trans (loopM.ret hlt18 hB25)
     refine br (tr (rr rfl (.cons rfl .nil) ?_))
     have hM26 : (s_l24Letters p_s p_most) = (false) := by simp only [s_l24Letters, hb19, hb23, hL24, cL]
     rw [hM26]
     exact ⟨rfl, hf16⟩
    ·have hb23p := dec_f hb23
     refine CW.cond_f rfl hb23 (CW.skip (bn (tn (CW.region (sd rfl (yl_move rfl rfl (sd rfl (yl_inc rfl rfl rfl (by omega) (sd rfl (yl_assign rfl rfl (SeqR.done ?_)))))))))))
     refine tn ?_
     have hB27 : B_s_l24Letters_0 p_s p_most k3 () = .cont () := by simp only [B_s_l24Letters_0, hb19, hb23, cL]
     exact ⟨p_s.length - (k3 + 1), by omega, k3 + 1, rfl, hlt18, (by omega), rfl, rfl, rfl, hf16, (loopM.cont hlt18 hB27).symm.trans hI11⟩
  ·refine CW.seq (CW.seq (CW.region (sd rfl (yl_move rfl rfl (sd rfl (yl_move rfl rfl (sd rfl (yl_slen un9 (a := p_s) rfl rfl (sd rfl (yl_lss rfl rfl rfl (dn ?_)))))))))))
   refine CW.cond_f rfl (lt_f hlt18) (CW.exit (tx (tx ?_)))
   have hL28 : loopM (B_s_l24Letters_0 p_s p_most) (p_s.length - 0) 0 () = .done () := hI11.symm.trans (loopM.stop hlt18)
   refine bx (tn (CW.seq (CW.region (sd rfl (yl_move rfl rfl (sd rfl (yl_slen un9 (a := p_s) rfl rfl (sd rfl (yl_geq rfl rfl rfl (sd rfl (yl_move rfl rfl (bcase (decide (1 ≤ (p_s.length : Int))) (fun hb29 => ?_) (fun hb29 => ?_)))))))))))))
   ·have hb29p := dec_t hb29
    refine sy rfl rfl hb29 (yl_move rfl rfl (sy rfl rfl hb29 (yl_slen un9 (a := p_s) rfl rfl (sy rfl rfl hb29 (yl_move rfl rfl (sy rfl rfl hb29 (yl_leq rfl rfl rfl (sd rfl (yl_pick_t rfl rfl hb29 rfl (sd rfl (yl_assign rfl rfl (dn (CW.ret ?_)))))))))))))
    refine rr rfl (.cons rfl .nil) ?_
    have hM30 : (s_l24Letters p_s p_most) = (decide ((p_s.length : Int) ≤ p_most)) := by simp only [s_l24Letters, hb29, hL28, cL]
    rw [hM30]
    exact ⟨rfl, hf16⟩
   ·have hb29p := dec_f hb29
    refine sz rfl rfl hb29 (sz rfl rfl hb29 (sz rfl rfl hb29 (sz rfl rfl hb29 (sd rfl (yl_pick_f rfl rfl hb29 rfl (sd rfl (yl_assign rfl rfl (dn (CW.ret ?_)))))))))
    refine rr rfl (.cons rfl .nil) ?_
    have hM31 : (s_l24Letters p_s p_most) = (false) := by simp only [s_l24Letters, hb29, hL28, cL]
    rw [hM31]
    exact ⟨rfl, hf16⟩
theorem c_s_l1In {w : World} (p_n : Int) (p_lo : Int) (p_hi : Int) : Cal Tryd.prog 22 #[.int .i64 (p_n), .int .i64 (p_lo), .int .i64 (p_hi)] w fun v w' => v = .bool ((s_l1In p_n p_lo p_hi)) ∧ Ex w w' := by
 refine Cal.of func22 rfl ntmps22 rfl (CW.seq (CW.region (sd rfl (yl_assign rfl rfl (dn (CW.seq (CW.region (sd rfl (yl_move rfl rfl ?_)))))))))
 refine sd rfl (yl_move rfl rfl (sd rfl (yl_geq rfl rfl rfl (sd rfl (yl_move rfl rfl (bcase (decide (p_lo ≤ p_n)) (fun hb1 => ?_) (fun hb1 => ?_)))))))
 ·have hb1p := dec_t hb1
  refine sy rfl rfl hb1 (yl_move rfl rfl (sy rfl rfl hb1 (yl_move rfl rfl (sy rfl rfl hb1 (yl_leq rfl rfl rfl (sd rfl (yl_pick_t rfl rfl hb1 rfl (sd rfl (yl_assign rfl rfl (dn (CW.ret (rr rfl (.cons rfl .nil) ?_))))))))))))
  have hM2 : (s_l1In p_n p_lo p_hi) = (decide (p_n ≤ p_hi)) := by simp only [s_l1In, hb1, cL]
  rw [hM2]
  exact ⟨rfl, (Ex.refl w)⟩
 ·have hb1p := dec_f hb1
  refine sz rfl rfl hb1 (sz rfl rfl hb1 (sz rfl rfl hb1 (sd rfl (yl_pick_f rfl rfl hb1 rfl (sd rfl (yl_assign rfl rfl (dn (CW.ret (rr rfl (.cons rfl .nil) ?_)))))))))
  have hM3 : (s_l1In p_n p_lo p_hi) = (false) := by simp only [s_l1In, hb1, cL]
  rw [hM3]
  exact ⟨rfl, (Ex.refl w)⟩
theorem c_s_l24At {A1 : Option Addr} {c1 : Nat} {w : World} (p_l : List Str) (p_s : Str) (h1 : RdS w (Iv 0 w.heap.size) (RF e_Str) 1 A1 p_l.length c1 p_l) (o2 : (okL okS) p_l) (o3 : okS p_s) : Cal Tryd.prog 33 #[.slice A1 p_l.length c1, .string (bs (p_s))] w fun v w' => v = .int .i64 ((s_l24At p_l p_s)) ∧ Ex w w' := by
 have hol4 := o2.1
 have hol5 : p_s.length ≤ 1073741824 := o3
 refine Cal.of func33 rfl ntmps33 rfl (CW.seq (CW.region (sd rfl (yl_assign rfl rfl (dn (CW.seq (CW.seq (CW.region ?_))))))))
 refine sd rfl (yl_move rfl rfl (sd rfl (yl_len un22 rfl rfl (sd rfl (yl_move rfl rfl (dn (CW.block (CW.loop (fun m7 L8 w9 => ∃ (k6 : Nat), m7 = p_l.length - k6 ∧ k6 ≤ p_l.length ∧ w.heap.size ≤ w9.heap.size ∧ lkp L8 1 = some (.string (bs (p_s))) ∧ lkp L8 7 = some (.slice A1 p_l.length c1) ∧ lkp L8 8 = some (.int .i64 ((p_l.length : Int))) ∧ lkp L8 9 = some (.int .i64 ((k6 : Int))) ∧ RdS w9 (Iv 0 w.heap.size) (RF e_Str) 1 A1 p_l.length c1 p_l ∧ Ex w w9 ∧ loopM (B_s_l24At_0 p_l p_s) (p_l.length - k6) k6 () = loopM (B_s_l24At_0 p_l p_s) (p_l.length - 0) 0 ()) (p_l.length - 0) ?_ ?_))))))))
 ·exact ⟨0, rfl, (by omega), Nat.le_refl _, rfl, rfl, rfl, rfl, h1, (Ex.refl w), rfl⟩
 ·rintro m10 L11 w12 ⟨k6, rfl, hk13, hsz15, hl16, hl17, hl18, hl19, hf20, hf21, hI14⟩
  refine CW.sub (Sub.cons hl16 (Sub.cons hl17 (Sub.cons hl18 (Sub.cons hl19 (Sub.nil _))))) ?_
  have hf21z := Ex.size hf21
  have hbg22 := RdS.big hf20
  rcases Nat.lt_or_ge k6 p_l.length with hlt23 | hlt23
  ·refine CW.seq (CW.region (sd rfl (yl_lss rfl rfl rfl (dn (CW.seq (CW.cond_t rfl (lt_t hlt23) (CW.skip (tn ?_))))))))
   refine CW.seq (CW.block (CW.seq (CW.region (sd rfl (yl_move rfl rfl ?_)))))
   obtain ⟨eb24, eo24, _, eA24, _, ebl24, _, eR24, eC24⟩ := RdS.aD hf20 d_Str (i := k6)
   obtain rfl := eR24
   have eC24 : Cells w12 eb24 (eo24 + k6 * 1) [.string (bs ((p_l.getD k6 d_Str)))] := eC24
   refine sd rfl (yl_ixN un22 ty9 rfl rfl rfl eA24 (sd rfl (yl_load1 ty9 rfl rfl (eC24 0 _ rfl) (sd rfl (yl_assign rfl rfl (sd rfl (yl_assign rfl rfl (dn (CW.seq (CW.region (sd rfl (yl_move rfl rfl ?_))))))))))))
   refine sd rfl (yl_move rfl rfl (sd rfl (yl_seql (a := (p_l.getD k6 d_Str)) (b := p_s) rfl rfl rfl (dn (bcase ((p_l.getD k6 d_Str) == p_s) (fun hb25 => ?_) (fun hb25 => ?_))))))
   ·refine CW.cond_t rfl hb25 (CW.seq (CW.region (sd rfl (yl_move rfl rfl (sd rfl (yl_assign rfl rfl (dn (CW.ret (br ?_)))))))))
    refine tr (tr ?_)
    have hB27 : B_s_l24At_0 p_l p_s k6 () = .ret (k6 : Int) := by simp only [B_s_l24At_0, hb25, cL]
    have hL26 : loopM (B_s_l24At_0 p_l p_s) (p_l.length - 0) 0 () = .ret (k6 : Int) := hI14.symm.trans (loopM.ret hlt23 hB27)
    refine br (tr (rr rfl (.cons rfl .nil) ?_))
    have hM28 : (s_l24At p_l p_s) = ((k6 : Int)) := by simp only [s_l24At, hb25, hL26, cL]
    rw [hM28]
    exact ⟨rfl, hf21⟩
   ·refine CW.cond_f rfl hb25 (CW.skip (bn (tn (CW.region (sd rfl (yl_inc rfl rfl rfl (by omega) (sd rfl (yl_move rfl rfl (dn ?_)))))))))
    have hB29 : B_s_l24At_0 p_l p_s k6 () = .cont () := by simp only [B_s_l24At_0, hb25, cL]
    exact ⟨p_l.length - (k6 + 1), by omega, k6 + 1, rfl, hlt23, (by omega), rfl, rfl, rfl, rfl, hf20, hf21, (loopM.cont hlt23 hB29).symm.trans hI14⟩
  ·refine CW.seq (CW.region (sd rfl (yl_lss rfl rfl rfl (dn (CW.seq (CW.cond_f rfl (lt_f hlt23) (CW.exit (tx ?_))))))))
   refine tx ?_
   have hL30 : loopM (B_s_l24At_0 p_l p_s) (p_l.length - 0) 0 () = .done () := hI14.symm.trans (loopM.stop hlt23)
   refine bx (tn (CW.seq (CW.region (sd rfl (yl_assign rfl rfl (dn (CW.ret (rr rfl (.cons rfl .nil) ?_))))))))
   have hM31 : (s_l24At p_l p_s) = (-1) := by simp only [s_l24At, hL30, cL]
   rw [hM31]
   exact ⟨rfl, hf21⟩
theorem c_s_l24Cols {A1 : Option Addr} {c1 : Nat} {w : World} (p_l : List Str) (h1 : RdS w (Iv 0 w.heap.size) (RF e_Str) 1 A1 p_l.length c1 p_l) (o2 : (okL okS) p_l) : Cal Tryd.prog 21 #[.slice A1 p_l.length c1] w fun v w' => v = .bool ((s_l24Cols p_l)) ∧ Ex w w' := by
 have hol3 := o2.1
 refine Cal.of func21 rfl ntmps21 rfl (CW.seq (CW.region (sd rfl (yl_assign rfl rfl (dn (CW.seq (CW.seq (CW.region ?_))))))))
 refine sd rfl (yl_move rfl rfl (sd rfl (yl_len un22 rfl rfl (sd rfl (yl_move rfl rfl (dn (CW.block (CW.loop (fun m5 L6 w7 => ∃ (k4 : Nat), m5 = p_l.length - k4 ∧ k4 ≤ p_l.length ∧ w.heap.size ≤ w7.heap.size ∧ lkp L6 0 = some (.slice A1 p_l.length c1) ∧ lkp L6 5 = some (.slice A1 p_l.length c1) ∧ lkp L6 6 = some (.int .i64 ((p_l.length : Int))) ∧ lkp L6 7 = some (.int .i64 ((k4 : Int))) ∧ RdS w7 (Iv 0 w.heap.size) (RF e_Str) 1 A1 p_l.length c1 p_l ∧ Ex w w7 ∧ loopM (B_s_l24Cols_0 p_l) (p_l.length - k4) k4 () = loopM (B_s_l24Cols_0 p_l) (p_l.length - 0) 0 ()) (p_l.length - 0) ?_ ?_))))))))
 ·exact ⟨0, rfl, (by omega), Nat.le_refl _, rfl, rfl, rfl, rfl, h1, (Ex.refl w), rfl⟩
 ·rintro m8 L9 w10 ⟨k4, rfl, hk11, hsz13, hl14, hl15, hl16, hl17, hf18, hf19, hI12⟩
  refine CW.sub (Sub.cons hl14 (Sub.cons hl15 (Sub.cons hl16 (Sub.cons hl17 (Sub.nil _))))) ?_
  have hf19z := Ex.size hf19
  have hbg20 := RdS.big hf18
  rcases Nat.lt_or_ge k4 p_l.length with hlt21 | hlt21
  ·refine CW.seq (CW.region (sd rfl (yl_lss rfl rfl rfl (dn (CW.seq (CW.cond_t rfl (lt_t hlt21) (CW.skip (tn ?_))))))))
   refine CW.seq (CW.block (CW.seq (CW.region (sd rfl (yl_move rfl rfl ?_)))))
   obtain ⟨eb22, eo22, _, eA22, _, ebl22, _, eR22, eC22⟩ := RdS.aD hf18 d_Str (i := k4)
   obtain rfl := eR22
   have eC22 : Cells w10 eb22 (eo22 + k4 * 1) [.string (bs ((p_l.getD k4 d_Str)))] := eC22
   refine sd rfl (yl_ixN un22 ty9 rfl rfl rfl eA22 (sd rfl (yl_load1 ty9 rfl rfl (eC22 0 _ rfl) (sd rfl (yl_assign rfl rfl (sd rfl (yl_assign rfl rfl (dn (CW.seq (CW.region (sd rfl (yl_move rfl rfl ?_))))))))))))
   refine sd rfl (yl_call en20 rfl (oc rfl (oc rfl oz)) (Cal.mono (c_s_l24Letters (p_l.getD k4 d_Str) 3 (okL.getD o2 ok_d_Str _)) ?_))
   rintro v24 w23 ⟨rfl, hE25⟩
   have hE25z := Ex.size hE25
   refine sd rfl (yl_not rfl rfl (sd rfl (yl_move rfl rfl (bcase (s_l24Letters (p_l.getD k4 d_Str) 3) (fun hb26 => ?_) (fun hb26 => ?_)))))
   ·refine sy rfl rfl (not_t hb26) (yl_move rfl rfl (sy rfl rfl (not_t hb26) (yl_move rfl rfl ?_)))
    have q27 := RdS.ex good_Str hf18 hE25
    obtain ⟨A28, c29, he32, h31⟩ := RdS.sl (RdS.drop (RdS.take q27 (k := k4) (by omega)) (k := 0) (by omega))
    have hrc33 := (q27).2.1
    refine sy rfl rfl (not_t hb26) (yl_sliceR (kl := .i64) (l := 0) (h := k4) un22 ty9 rfl rfl (.inl ⟨rfl, rfl⟩) (.inr ⟨_, rfl, rfl⟩) (by omega) (by omega) he32 (sy rfl rfl (not_t hb26) (yl_move rfl rfl (sy rfl rfl (not_t hb26) (yl_call en33 rfl (oc rfl (oc rfl oz)) (Cal.mono (c_s_l24At (p_l.take k4) (p_l.getD k4 d_Str) (RdS.up h31 good_Str) (okL.take o2 _) (okL.getD o2 ok_d_Str _)) ?_))))))
    rintro v35 w34 ⟨rfl, hE36⟩
    have hE36z := Ex.size hE36
    refine sy rfl rfl (not_t hb26) (yl_geq rfl rfl rfl (sd rfl (yl_pick_f rfl rfl (not_t hb26) rfl (dn (bcase (decide (0 ≤ (s_l24At (p_l.take k4) (p_l.getD k4 d_Str)))) (fun hb37 => ?_) (fun hb37 => ?_))))))
    ·have hb37p := dec_t hb37
     refine CW.cond_t rfl hb37 (CW.seq (CW.region (sd rfl (yl_assign rfl rfl (dn (CW.ret (br (tr ?_))))))))
     refine tr ?_
     have hB39 : B_s_l24Cols_0 p_l k4 () = .ret false := by simp only [B_s_l24Cols_0, hb26, hb37, cL]
     have hL38 : loopM (B_s_l24Cols_0 p_l) (p_l.length - 0) 0 () = .ret false := hI12.symm.trans (loopM.ret hlt21 hB39)
     refine br (tr (rr rfl (.cons rfl .nil) ?_))
     have hM40 : (s_l24Cols p_l) = (false) := by simp only [s_l24Cols, hb26, hb37, hL38, cL]
     rw [hM40]
     exact ⟨rfl, (Ex.trans (Ex.trans hf19 hE25) hE36)⟩
    ·have hb37p := dec_f hb37
     refine CW.cond_f rfl hb37 (CW.skip (bn (tn (CW.region (sd rfl (yl_inc rfl rfl rfl (by omega) (sd rfl (yl_move rfl rfl (dn ?_)))))))))
     have hB43 : B_s_l24Cols_0 p_l k4 () = .cont () := by simp only [B_s_l24Cols_0, hb26, hb37, cL]
     exact ⟨p_l.length - (k4 + 1), by omega, k4 + 1, rfl, hlt21, (by omega), rfl, rfl, rfl, rfl, (RdS.ex good_Str q27 hE36), (Ex.trans (Ex.trans hf19 hE25) hE36), (loopM.cont hlt21 hB43).symm.trans hI12⟩
   ·refine sz rfl rfl (not_f hb26) (sz rfl rfl (not_f hb26) (sz rfl rfl (not_f hb26) (sz rfl rfl (not_f hb26) (sz rfl rfl (not_f hb26) (sz rfl rfl (not_f hb26) (sd rfl (yl_pick_t rfl rfl (not_f hb26) rfl (dn ?_))))))))
    refine CW.cond_t rfl rfl (CW.seq (CW.region (sd rfl (yl_assign rfl rfl (dn (CW.ret (br (tr ?_))))))))
    refine tr ?_
    have hB48 : B_s_l24Cols_0 p_l k4 () = .ret false := by simp only [B_s_l24Cols_0, hb26, cL]
    have hL47 : loopM (B_s_l24Cols_0 p_l) (p_l.length - 0) 0 () = .ret false := hI12.symm.trans (loopM.ret hlt21 hB48)
    refine br (tr (rr rfl (.cons rfl .nil) ?_))
    have hM49 : (s_l24Cols p_l) = (false) := by simp only [s_l24Cols, hb26, hL47, cL]
    rw [hM49]
    exact ⟨rfl, (Ex.trans hf19 hE25)⟩
  ·refine CW.seq (CW.region (sd rfl (yl_lss rfl rfl rfl (dn (CW.seq (CW.cond_f rfl (lt_f hlt21) (CW.exit (tx ?_))))))))
   refine tx ?_
   have hL51 : loopM (B_s_l24Cols_0 p_l) (p_l.length - 0) 0 () = .done () := hI12.symm.trans (loopM.stop hlt21)
   refine bx (tn (CW.seq (CW.region (sd rfl (yl_move rfl rfl (sd rfl (yl_len un22 rfl rfl (sd rfl (yl_call en22 rfl (oc rfl (oc rfl (oc rfl oz))) (Cal.mono (c_s_l1In (p_l.length : Int) 2 4) ?_))))))))))
   rintro v53 w52 ⟨rfl, hE54⟩
   have hE54z := Ex.size hE54
   refine sd rfl (yl_assign rfl rfl (dn (CW.ret (rr rfl (.cons rfl .nil) ?_))))
   have hM55 : (s_l24Cols p_l) = ((s_l1In (p_l.length : Int) 2 4)) := by simp only [s_l24Cols, hL51, cL]
   rw [hM55]
   exact ⟨rfl, (Ex.trans hf19 hE54)⟩
theorem c_s_GoodTable {A1 : Option Addr} {c1 : Nat} {A2 : Option Addr} {c2 : Nat} {w : World} (p_0 : DTable) (h1 : RdS w (Iv 0 w.heap.size) (RF e_Str) 1 A1 p_0.Cols.length c1 p_0.Cols) (h2 : RdS w (Iv 0 w.heap.size) (RF e_Idx) 3 A2 p_0.Idxs.length c2 p_0.Idxs) (o3 : ok_Table p_0) : Cal Tryd.prog 11 #[.agg #[.string (bs (p_0.Name)), .slice A1 p_0.Cols.length c1, .slice A2 p_0.Idxs.length c2]] w fun v w' => v = .bool ((s_GoodTable p_0)) ∧ Ex w w' := by
 have hol4 : p_0.Name.length ≤ 1073741824 := o3.1
 have hol5 := o3.2.1.1
 have hol6 := o3.2.2.1
 refine Cal.of func11 rfl ntmps11 rfl (CW.seq (CW.region (sd rfl (yl_box rfl rfl rfl ?_))))
 intro b7 w8 hs9 hz10 hB11 hE12
 refine sd rfl (yl_assign rfl rfl (dn (CW.seq (CW.seq (CW.region (sd rfl (yl_fieldAddr fd31_0 rfl rfl (sd rfl (yl_load1 ty9 rfl rfl ((hB11.cell 0).trans rfl) (sd rfl (yl_call en20 rfl (oc rfl (oc rfl oz)) (Cal.mono (c_s_l24Letters p_0.Name 1 o3.1) ?_))))))))))))
 rintro v14 w13 ⟨rfl, hE15⟩
 have hE15z := Ex.size hE15
 refine sd rfl (yl_not rfl rfl (sd rfl (yl_move rfl rfl (bcase (s_l24Letters p_0.Name 1) (fun hb16 => ?_) (fun hb16 => ?_)))))
 ·refine sy rfl rfl (not_t hb16) (yl_fieldAddr fd31_1 rfl rfl ?_)
  have q17 := Box.ex hB11 hE15
  refine sy rfl rfl (not_t hb16) (yl_load1 ty22 rfl rfl ((q17.cell 1).trans rfl) ?_)
  have q19 := RdS.ex good_Str (RdS.ex good_Str h1 hE12) hE15
  refine sy rfl rfl (not_t hb16) (yl_call en21 rfl (oc rfl oz) (Cal.mono (c_s_l24Cols p_0.Cols (RdS.up q19 good_Str) o3.2.1) ?_))
  rintro v21 w20 ⟨rfl, hE22⟩
  have hE22z := Ex.size hE22
  refine sy rfl rfl (not_t hb16) (yl_not rfl rfl (sd rfl (yl_pick_f rfl rfl (not_t hb16) rfl (sd rfl (yl_move rfl rfl (bcase (s_l24Cols p_0.Cols) (fun hb23 => ?_) (fun hb23 => ?_)))))))
  ·refine sy rfl rfl (not_t hb23) (yl_fieldAddr fd31_2 rfl rfl ?_)
   have q24 := Box.ex q17 hE22
   refine sy rfl rfl (not_t hb23) (yl_load1 ty29 rfl rfl ((q24.cell 2).trans rfl) (sy rfl rfl (not_t hb23) (yl_len un29 rfl rfl (sy rfl rfl (not_t hb23) (yl_gtr rfl rfl rfl (sd rfl (yl_pick_f rfl rfl (not_t hb23) rfl (dn (bcase (decide (3 < (p_0.Idxs.length : Int))) (fun hb25 => ?_) (fun hb25 => ?_))))))))))
   ·have hb25p := dec_t hb25
    refine CW.cond_t rfl hb25 (CW.seq (CW.region (sd rfl (yl_assign rfl rfl (dn (CW.ret (tr (rr rfl (.cons rfl .nil) ?_))))))))
    have hM26 : (s_GoodTable p_0) = (false) := by simp only [s_GoodTable, hb16, hb23, hb25, cL]
    rw [hM26]
    exact ⟨rfl, (Ex.trans (Ex.trans (Ex.trans (Ex.refl w) hE12) hE15) hE22)⟩
   ·have hb25p := dec_f hb25
    refine CW.cond_f rfl hb25 (CW.skip (tn (CW.seq (CW.seq (CW.region (sd rfl (yl_fieldAddr fd31_2 rfl rfl (sd rfl (yl_load1 ty29 rfl rfl ((q24.cell 2).trans rfl) (sd rfl (yl_len un29 rfl rfl ?_)))))))))))
    refine sd rfl (yl_move rfl rfl (dn (CW.block (CW.loop (fun m68 L69 w70 => ∃ (k30 : Nat), m68 = p_0.Idxs.length - k30 ∧ k30 ≤ p_0.Idxs.length ∧ w20.heap.size ≤ w70.heap.size ∧ lkp L69 1 = some (.pointer (some ⟨b7, 0, none⟩)) ∧ lkp L69 22 = some (.slice A2 p_0.Idxs.length c2) ∧ lkp L69 23 = some (.int .i64 ((p_0.Idxs.length : Int))) ∧ lkp L69 24 = some (.int .i64 ((k30 : Int))) ∧ Box w70 b7 31 [.string (bs (p_0.Name)), .slice A1 p_0.Cols.length c1, .slice A2 p_0.Idxs.length c2] ∧ RdS w70 (Iv 0 w.heap.size) (RF e_Str) 1 A1 p_0.Cols.length c1 p_0.Cols ∧ RdS w70 (Iv 0 w.heap.size) (RF e_Idx) 3 A2 p_0.Idxs.length c2 p_0.Idxs ∧ Ex w w70 ∧ loopM (B_s_GoodTable_0 p_0) (p_0.Idxs.length - k30) k30 () = loopM (B_s_GoodTable_0 p_0) (p_0.Idxs.length - 0) 0 ()) (p_0.Idxs.length - 0) ?_ ?_))))
    ·exact ⟨0, rfl, (by omega), Nat.le_refl _, rfl, rfl, rfl, rfl, q24, (RdS.ex good_Str q19 hE22), (RdS.ex good_Idx (RdS.ex good_Idx (RdS.ex good_Idx h2 hE12) hE15) hE22), (Ex.trans (Ex.trans (Ex.trans (Ex.refl w) hE12) hE15) hE22), rfl⟩
    ·rintro m78 L79 w80 ⟨k30, rfl, hk81, hsz83, hl84, hl85, hl86, hl87, hf88, hf89, hf90, hf91, hI82⟩
     refine CW.sub (Sub.cons hl84 (Sub.cons hl85 (Sub.cons hl86 (Sub.cons hl87 (Sub.nil _))))) ?_
     have hf88z := Box.lt hf88
     have hf91z := Ex.size hf91
     have hbg92 := RdS.big hf90
     rcases Nat.lt_or_ge k30 p_0.Idxs.length with hlt93 | hlt93
     ·refine CW.seq (CW.region (sd rfl (yl_lss rfl rfl rfl (dn (CW.seq (CW.cond_t rfl (lt_t hlt93) (CW.skip (tn ?_))))))))
      refine CW.seq (CW.block (CW.seq (CW.region (sd rfl (yl_move rfl rfl ?_)))))
      obtain ⟨eb94, eo94, _, eA94, _, ebl94, _, eR94, eC94⟩ := RdS.aD hf90 d_Idx (i := k30)
      obtain rfl := eR94
      have eC94 : Cells w80 eb94 (eo94 + k30 * 3) [.string (bs ((p_0.Idxs.getD k30 d_Idx).Name)), .int .i64 ((p_0.Idxs.getD k30 d_Idx).Col), .int .i64 ((p_0.Idxs.getD k30 d_Idx).Stage)] := eC94
      refine sd rfl (yl_ixN un29 ty48 rfl rfl rfl eA94 (sd rfl (yl_loadN ty48 rfl rfl eC94 rfl (sd rfl (yl_alloc ty48 (cs := [.string (bs (([] : Str))), .int .i64 (0), .int .i64 (0)]) rfl rfl ?_)))))
      intro b95 w96 hs97 hz98 hB99 hE100
      refine sd rfl (yl_assign rfl rfl (SeqR.u rfl rfl (yl_store (vs := [.string (bs ((p_0.Idxs.getD k30 d_Idx).Name)), .int .i64 ((p_0.Idxs.getD k30 d_Idx).Col), .int .i64 ((p_0.Idxs.getD k30 d_Idx).Stage)]) ty48 rfl rfl rfl rfl rfl rfl hB99 (Nat.le_of_ble_eq_true rfl) ?_)))
      intro w101 hB102 hO103
      have hB102 : Box w101 b95 48 [.string (bs ((p_0.Idxs.getD k30 d_Idx).Name)), .int .i64 ((p_0.Idxs.getD k30 d_Idx).Col), .int .i64 ((p_0.Idxs.getD k30 d_Idx).Stage)] := hB102
      have hO103z := hO103.size
      refine dn (CW.seq (bcase (s_l24Letters ((p_0.Idxs.getD k30 d_Idx).Name) 1) (fun hb105 => ?_) (fun hb105 => ?_)))
      ·refine bcase (s_l1In ((p_0.Idxs.getD k30 d_Idx).Col) 1 (IntKind.wrap .i64 ((p_0.Cols.length : Int) - 1))) (fun hb110 => ?_) (fun hb110 => ?_)
       ·have hb110p := f_l1In hb110
        refine bcase (s_l1In ((p_0.Idxs.getD k30 d_Idx).Stage) 0 3) (fun hb116 => ?_) (fun hb116 => ?_)
        ·have hb116p := f_l1In hb116
         refine bcase (decide (0 < (k30 : Int))) (fun hb122 => ?_) (fun hb122 => ?_)
         ·have hb122p := dec_t hb122
          have q125 := Box.only (Box.ex hf88 hE100) hO103 (by omega)
          have q129 := RdS.only good_Idx (RdS.ex good_Idx hf90 hE100) hO103 (by simp only [Iv]; omega)
          obtain ⟨eb130, eo130, _, eA130, _, ebl130, _, eR130, eC130⟩ := RdS.atD q129 d_Idx (i := (IntKind.wrap .i64 ((k30 : Int) - 1)).toNat) (by first | omega | assumption | (simp only [wI] at *; omega))
          obtain rfl := eR130
          have eC130 : Cells w101 eb130 (eo130 + ((IntKind.wrap .i64 ((k30 : Int) - 1)).toNat) * 3) [.string (bs ((p_0.Idxs.getD ((IntKind.wrap .i64 ((k30 : Int) - 1)).toNat) d_Idx).Name)), .int .i64 ((p_0.Idxs.getD ((IntKind.wrap .i64 ((k30 : Int) - 1)).toNat) d_Idx).Col), .int .i64 ((p_0.Idxs.getD ((IntKind.wrap .i64 ((k30 : Int) - 1)).toNat) d_Idx).Stage)] := eC130
          refine CW.drawsI 36 (vgetI ([.pointer (some ⟨b95, 0 + 0, none⟩), .string (bs ((p_0.Idxs.getD k30 d_Idx).Name)), .bool ((s_l24Letters ((p_0.Idxs.getD k30 d_Idx).Name) 1)), .bool (!(s_l24Letters ((p_0.Idxs.getD k30 d_Idx).Name) 1)), .bool (!(s_l24Letters ((p_0.Idxs.getD k30 d_Idx).Name) 1)), .pointer (some ⟨b95, 0 + 1, none⟩), .int .i64 ((p_0.Idxs.getD k30 d_Idx).Col), .pointer (some ⟨b7, 0 + 1, none⟩), .slice A1 p_0.Cols.length c1, .int .i64 ((p_0.Cols.length : Int)), .int .i64 (IntKind.wrap .i64 ((p_0.Cols.length : Int) - 1)), .bool ((s_l1In ((p_0.Idxs.getD k30 d_Idx).Col) 1 (IntKind.wrap .i64 ((p_0.Cols.length : Int) - 1)))), .bool (!(s_l1In ((p_0.Idxs.getD k30 d_Idx).Col) 1 (IntKind.wrap .i64 ((p_0.Cols.length : Int) - 1)))), .bool (!(s_l1In ((p_0.Idxs.getD k30 d_Idx).Col) 1 (IntKind.wrap .i64 ((p_0.Cols.length : Int) - 1)))), .bool (!(s_l1In ((p_0.Idxs.getD k30 d_Idx).Col) 1 (IntKind.wrap .i64 ((p_0.Cols.length : Int) - 1)))), .pointer (some ⟨b95, 0 + 2, none⟩), .int .i64 ((p_0.Idxs.getD k30 d_Idx).Stage), .bool ((s_l1In ((p_0.Idxs.getD k30 d_Idx).Stage) 0 3)), .bool (!(s_l1In ((p_0.Idxs.getD k30 d_Idx).Stage) 0 3)), .bool (!(s_l1In ((p_0.Idxs.getD k30 d_Idx).Stage) 0 3)), .bool (!(s_l1In ((p_0.Idxs.getD k30 d_Idx).Stage) 0 3)), .int .i64 ((k30 : Int)), .bool (decide (0 < (k30 : Int))), .bool (decide (0 < (k30 : Int))), .pointer (some ⟨b7, 0 + 2, none⟩), .slice A2 p_0.Idxs.length c2, .int .i64 ((k30 : Int)), .int .i64 (IntKind.wrap .i64 ((k30 : Int) - 1)), .pointer (some ⟨eb130, eo130 + ((IntKind.wrap .i64 ((k30 : Int) - 1)).toNat) * 3, none⟩), .pointer (some ⟨eb130, eo130 + ((IntKind.wrap .i64 ((k30 : Int) - 1)).toNat) * 3 + 0, none⟩), .string (bs ((p_0.Idxs.getD ((IntKind.wrap .i64 ((k30 : Int) - 1)).toNat) d_Idx).Name)), .pointer (some ⟨b95, 0 + 0, none⟩), .string (bs ((p_0.Idxs.getD k30 d_Idx).Name)), .bool (!(sLt ((p_0.Idxs.getD ((IntKind.wrap .i64 ((k30 : Int) - 1)).toNat) d_Idx).Name) ((p_0.Idxs.getD k30 d_Idx).Name))), .bool (!(sLt ((p_0.Idxs.getD ((IntKind.wrap .i64 ((k30 : Int) - 1)).toNat) d_Idx).Name) ((p_0.Idxs.getD k30 d_Idx).Name))), .bool (!(sLt ((p_0.Idxs.getD ((IntKind.wrap .i64 ((k30 : Int) - 1)).toNat) d_Idx).Name) ((p_0.Idxs.getD k30 d_Idx).Name)))].map DetI)) Tryd.follows rfl rfl rfl rfl rfl rfl (vgetI_stable (stD _)) ⟨?_, ?_, ?_, ?_, ?_, ?_, ?_, ?_, ?_, ?_, ?_, ?_, ?_, ?_, ?_, ?_, ?_, ?_, ?_, ?_, ?_, ?_, ?_, ?_, ?_, ?_, ?_, ?_, ?_, ?_, ?_, ?_, ?_, ?_, ?_, ?_, trivial⟩ ?_
          ·exact oI rfl fun h => yl_fieldAddr fd48_0 rfl (h.old 4 _ rfl rfl) kI
          ·exact oI rfl fun h => yl_load1 ty9 rfl (h.dt 0 29 rfl rfl rfl) (((Box.ex hB102 h.ex).cell 0).trans rfl) kI
          ·intro L142 w143 hi144
           exact OpR.op' rfl (yl_call en20 rfl (oc (hi144.dt 1 30 rfl rfl rfl) (oc rfl oz)) (Cal.mono (c_s_l24Letters ((p_0.Idxs.getD k30 d_Idx).Name) 1 (okL.getD o3.2.2 ok_d_Idx _)) fun _ _ h => h))
          ·exact oI rfl fun h => yl_not rfl (h.dt 2 31 rfl rfl rfl) kI
          ·exact oI rfl fun h => yl_move rfl (h.dt 3 32 rfl rfl rfl) kI
          ·exact oW rfl rfl rfl rfl (not_t hb105) fun h => yl_fieldAddr fd48_1 rfl (h.old 4 _ rfl rfl) kI
          ·exact oW rfl rfl rfl rfl (not_t hb105) fun h => yl_load1 ty3 rfl (h.dt 5 34 rfl rfl rfl) (((Box.ex hB102 h.ex).cell 1).trans rfl) kI
          ·exact oW rfl rfl rfl rfl (not_t hb105) fun h => yl_fieldAddr fd31_1 rfl (h.old 1 _ rfl rfl) kI
          ·exact oW rfl rfl rfl rfl (not_t hb105) fun h => yl_load1 ty22 rfl (h.dt 7 36 rfl rfl rfl) (((Box.ex q125 h.ex).cell 1).trans rfl) kI
          ·exact oW rfl rfl rfl rfl (not_t hb105) fun h => yl_len un22 rfl (h.dt 8 37 rfl rfl rfl) kI
          ·exact oW rfl rfl rfl rfl (not_t hb105) fun h => yl_sub rfl (h.dt 9 38 rfl rfl rfl) rfl kI
          ·intro L198 w199 hi200
           exact OpR.want rfl rfl (hi200.dt 4 33 rfl rfl rfl) (not_t hb105) (yl_call en22 rfl (oc (hi200.dt 6 35 rfl rfl rfl) (oc rfl (oc (hi200.dt 10 39 rfl rfl rfl) oz))) (Cal.mono (c_s_l1In ((p_0.Idxs.getD k30 d_Idx).Col) 1 (IntKind.wrap .i64 ((p_0.Cols.length : Int) - 1))) fun _ _ h => h))
          ·exact oW rfl rfl rfl rfl (not_t hb105) fun h => yl_not rfl (h.dt 11 40 rfl rfl rfl) kI
          ·exact oI rfl fun h => yl_pick_f rfl (h.dt 4 33 rfl rfl rfl) (not_t hb105) (h.dt 12 41 rfl rfl rfl) kI
          ·exact oI rfl fun h => yl_move rfl (h.dt 13 42 rfl rfl rfl) kI
          ·exact oW rfl rfl rfl rfl (not_t hb110) fun h => yl_fieldAddr fd48_2 rfl (h.old 4 _ rfl rfl) kI
          ·exact oW rfl rfl rfl rfl (not_t hb110) fun h => yl_load1 ty3 rfl (h.dt 15 44 rfl rfl rfl) (((Box.ex hB102 h.ex).cell 2).trans rfl) kI
          ·intro L238 w239 hi240
           exact OpR.want rfl rfl (hi240.dt 14 43 rfl rfl rfl) (not_t hb110) (yl_call en22 rfl (oc (hi240.dt 16 45 rfl rfl rfl) (oc rfl (oc rfl oz))) (Cal.mono (c_s_l1In ((p_0.Idxs.getD k30 d_Idx).Stage) 0 3) fun _ _ h => h))
          ·exact oW rfl rfl rfl rfl (not_t hb110) fun h => yl_not rfl (h.dt 17 46 rfl rfl rfl) kI
          ·exact oI rfl fun h => yl_pick_f rfl (h.dt 14 43 rfl rfl rfl) (not_t hb110) (h.dt 18 47 rfl rfl rfl) kI
          ·exact oI rfl fun h => yl_move rfl (h.dt 19 48 rfl rfl rfl) kI
          ·exact oW rfl rfl rfl rfl (not_t hb116) fun h => yl_move rfl (h.old 3 _ rfl rfl) kI
          ·exact oW rfl rfl rfl rfl (not_t hb116) fun h => yl_gtr rfl (h.dt 21 50 rfl rfl rfl) rfl kI
          ·exact oW rfl rfl rfl rfl (not_t hb116) fun h => yl_move rfl (h.dt 22 51 rfl rfl rfl) kI
          ·exact oW rfl rfl rfl rfl hb122 fun h => yl_fieldAddr fd31_2 rfl (h.old 1 _ rfl rfl) kI
          ·exact oW rfl rfl rfl rfl hb122 fun h => yl_load1 ty29 rfl (h.dt 24 53 rfl rfl rfl) (((Box.ex q125 h.ex).cell 2).trans rfl) kI
          ·exact oW rfl rfl rfl rfl hb122 fun h => yl_move rfl (h.old 3 _ rfl rfl) kI
          ·exact oW rfl rfl rfl rfl hb122 fun h => yl_sub rfl (h.dt 26 55 rfl rfl rfl) rfl kI
          ·intro L307 w308 hi309
           have hE310 := hi309.ex
           have hE310z := Ex.size hE310
           exact OpR.want rfl rfl (hi309.dt 23 52 rfl rfl rfl) hb122 (Yl.sameI (yl_indexAddr un29 ty48 rfl (hi309.dt 25 54 rfl rfl rfl) (hi309.dt 27 56 rfl rfl rfl) eA130 (by first | omega | assumption | (simp only [wI] at *; omega)) (by first | omega | assumption | (simp only [wI] at *; omega)) kI))
          ·exact oW rfl rfl rfl rfl hb122 fun h => yl_fieldAddr fd48_0 rfl (h.dt 28 57 rfl rfl rfl) kI
          ·exact oW rfl rfl rfl rfl hb122 fun h => yl_load1 ty9 rfl (h.dt 29 58 rfl rfl rfl) ((Cells.ex eC130 h.ex) 0 _ rfl) kI
          ·exact oW rfl rfl rfl rfl hb122 fun h => yl_fieldAddr fd48_0 rfl (h.old 4 _ rfl rfl) kI
          ·exact oW rfl rfl rfl rfl hb122 fun h => yl_load1 ty9 rfl (h.dt 31 60 rfl rfl rfl) (((Box.ex hB102 h.ex).cell 0).trans rfl) kI
          ·exact oW rfl rfl rfl rfl hb122 fun h => yl_sgeq (a := ((p_0.Idxs.getD ((IntKind.wrap .i64 ((k30 : Int) - 1)).toNat) d_Idx).Name)) (b := ((p_0.Idxs.getD k30 d_Idx).Name)) rfl (h.dt 30 59 rfl rfl rfl) (h.dt 32 61 rfl rfl rfl) kI
          ·exact oW rfl rfl rfl rfl (not_t hb116) fun h => yl_pick_t rfl (h.dt 23 52 rfl rfl rfl) hb122 (h.dt 33 62 rfl rfl rfl) kI
          ·exact oI rfl fun h => yl_pick_f rfl (h.dt 20 49 rfl rfl rfl) (not_t hb116) (h.dt 34 63 rfl rfl rfl) kI
          ·intro fl363 fh364 L360 w361 hp362
           have hE365 := hp362.ex
           have hE365z := Ex.size hE365
           refine dn (CW.sub (Sub.cons (d := 1) (hp362.old 1 _ rfl rfl) (Sub.cons (d := 22) (hp362.old 22 _ rfl rfl) (Sub.cons (d := 23) (hp362.old 23 _ rfl rfl) (Sub.cons (d := 24) (hp362.old 24 _ rfl rfl) (Sub.cons (d := 34) (hp362.nt 5 34 rfl rfl rfl) (Sub.cons (d := 35) (hp362.nt 6 35 rfl rfl rfl) (Sub.cons (d := 36) (hp362.nt 7 36 rfl rfl rfl) (Sub.cons (d := 37) (hp362.nt 8 37 rfl rfl rfl) (Sub.cons (d := 38) (hp362.nt 9 38 rfl rfl rfl) (Sub.cons (d := 39) (hp362.nt 10 39 rfl rfl rfl) (Sub.cons (d := 40) (hp362.nt 11 40 rfl rfl rfl) (Sub.cons (d := 41) (hp362.nt 12 41 rfl rfl rfl) (Sub.cons (d := 44) (hp362.nt 15 44 rfl rfl rfl) (Sub.cons (d := 45) (hp362.nt 16 45 rfl rfl rfl) (Sub.cons (d := 46) (hp362.nt 17 46 rfl rfl rfl) (Sub.cons (d := 47) (hp362.nt 18 47 rfl rfl rfl) (Sub.cons (d := 50) (hp362.nt 21 50 rfl rfl rfl) (Sub.cons (d := 51) (hp362.nt 22 51 rfl rfl rfl) (Sub.cons (d := 52) (hp362.nt 23 52 rfl rfl rfl) (Sub.cons (d := 53) (hp362.nt 24 53 rfl rfl rfl) (Sub.cons (d := 54) (hp362.nt 25 54 rfl rfl rfl) (Sub.cons (d := 55) (hp362.nt 26 55 rfl rfl rfl) (Sub.cons (d := 56) (hp362.nt 27 56 rfl rfl rfl) (Sub.cons (d := 57) (hp362.nt 28 57 rfl rfl rfl) (Sub.cons (d := 58) (hp362.nt 29 58 rfl rfl rfl) (Sub.cons (d := 59) (hp362.nt 30 59 rfl rfl rfl) (Sub.cons (d := 60) (hp362.nt 31 60 rfl rfl rfl) (Sub.cons (d := 61) (hp362.nt 32 61 rfl rfl rfl) (Sub.cons (d := 62) (hp362.nt 33 62 rfl rfl rfl) (Sub.cons (d := 63) (hp362.nt 34 63 rfl rfl rfl) (Sub.cons (d := 64) (hp362.nt 35 64 rfl rfl rfl) (Sub.nil _)))))))))))))))))))))))))))))))) ?_)
           refine bcase (sLt ((p_0.Idxs.getD ((IntKind.wrap .i64 ((k30 : Int) - 1)).toNat) d_Idx).Name) ((p_0.Idxs.getD k30 d_Idx).Name)) (fun hb397 => ?_) (fun hb397 => ?_)
           ·refine CW.cond_f rfl (not_t hb397) (CW.skip (bn (tn (CW.region (sd rfl (yl_inc rfl rfl rfl (by omega) (sd rfl (yl_move rfl rfl (dn ?_)))))))))
            have hB398 : B_s_GoodTable_0 p_0 k30 () = .cont () := by simp only [B_s_GoodTable_0, hb16, hb23, hb25, hb105, hb110, hb116, hb122, hb397, cL]
            exact ⟨p_0.Idxs.length - (k30 + 1), by omega, k30 + 1, rfl, hlt93, (by omega), rfl, rfl, rfl, rfl, (Box.ex q125 hE365), (RdS.ex good_Str (RdS.only good_Str (RdS.ex good_Str hf89 hE100) hO103 (by simp only [Iv]; omega)) hE365), (RdS.ex good_Idx q129 hE365), (Ex.trans (Below.only (Ex.trans hf91 hE100) hO103 (by omega)) hE365), (loopM.cont hlt93 hB398).symm.trans hI82⟩
           ·refine CW.cond_t rfl (not_f hb397) (CW.seq (CW.region (sd rfl (yl_assign rfl rfl (dn (CW.ret (br (tr ?_))))))))
            refine tr ?_
            have hB408 : B_s_GoodTable_0 p_0 k30 () = .ret false := by simp only [B_s_GoodTable_0, hb16, hb23, hb25, hb105, hb110, hb116, hb122, hb397, cL]
            have hL407 : loopM (B_s_GoodTable_0 p_0) (p_0.Idxs.length - 0) 0 () = .ret false := hI82.symm.trans (loopM.ret hlt93 hB408)
            refine br (tr (rr rfl (.cons rfl .nil) ?_))
            have hM409 : (s_GoodTable p_0) = (false) := by simp only [s_GoodTable, hb16, hb23, hb25, hb105, hb110, hb116, hb122, hb397, hL407, cL]
            rw [hM409]
            exact ⟨rfl, (Ex.trans (Below.only (Ex.trans hf91 hE100) hO103 (by omega)) hE365)⟩
         ·have hb122p := dec_f hb122
          have q415 := Box.only (Box.ex hf88 hE100) hO103 (by omega)
          refine CW.drawsI 36 (vgetI ([.pointer (some ⟨b95, 0 + 0, none⟩), .string (bs ((p_0.Idxs.getD k30 d_Idx).Name)), .bool ((s_l24Letters ((p_0.Idxs.getD k30 d_Idx).Name) 1)), .bool (!(s_l24Letters ((p_0.Idxs.getD k30 d_Idx).Name) 1)), .bool (!(s_l24Letters ((p_0.Idxs.getD k30 d_Idx).Name) 1)), .pointer (some ⟨b95, 0 + 1, none⟩), .int .i64 ((p_0.Idxs.getD k30 d_Idx).Col), .pointer (some ⟨b7, 0 + 1, none⟩), .slice A1 p_0.Cols.length c1, .int .i64 ((p_0.Cols.length : Int)), .int .i64 (IntKind.wrap .i64 ((p_0.Cols.length : Int) - 1)), .bool ((s_l1In ((p_0.Idxs.getD k30 d_Idx).Col) 1 (IntKind.wrap .i64 ((p_0.Cols.length : Int) - 1)))), .bool (!(s_l1In ((p_0.Idxs.getD k30 d_Idx).Col) 1 (IntKind.wrap .i64 ((p_0.Cols.length : Int) - 1)))), .bool (!(s_l1In ((p_0.Idxs.getD k30 d_Idx).Col) 1 (IntKind.wrap .i64 ((p_0.Cols.length : Int) - 1)))), .bool (!(s_l1In ((p_0.Idxs.getD k30 d_Idx).Col) 1 (IntKind.wrap .i64 ((p_0.Cols.length : Int) - 1)))), .pointer (some ⟨b95, 0 + 2, none⟩), .int .i64 ((p_0.Idxs.getD k30 d_Idx).Stage), .bool ((s_l1In ((p_0.Idxs.getD k30 d_Idx).Stage) 0 3)), .bool (!(s_l1In ((p_0.Idxs.getD k30 d_Idx).Stage) 0 3)), .bool (!(s_l1In ((p_0.Idxs.getD k30 d_Idx).Stage) 0 3)), .bool (!(s_l1In ((p_0.Idxs.getD k30 d_Idx).Stage) 0 3)), .int .i64 ((k30 : Int)), .bool (decide (0 < (k30 : Int))), .bool (decide (0 < (k30 : Int))), undef, undef, undef, undef, undef, undef, undef, undef, undef, undef, .bool (false), .bool (false)].map DetI)) Tryd.follows rfl rfl rfl rfl rfl rfl (vgetI_stable (stD _)) ⟨?_, ?_, ?_, ?_, ?_, ?_, ?_, ?_, ?_, ?_, ?_, ?_, ?_, ?_, ?_, ?_, ?_, ?_, ?_, ?_, ?_, ?_, ?_, ?_, ?_, ?_, ?_, ?_, ?_, ?_, ?_, ?_, ?_, ?_, ?_, ?_, trivial⟩ ?_
          ·exact oI rfl fun h => yl_fieldAddr fd48_0 rfl (h.old 4 _ rfl rfl) kI
          ·exact oI rfl fun h => yl_load1 ty9 rfl (h.dt 0 29 rfl rfl rfl) (((Box.ex hB102 h.ex).cell 0).trans rfl) kI
          ·intro L429 w430 hi431
           exact OpR.op' rfl (yl_call en20 rfl (oc (hi431.dt 1 30 rfl rfl rfl) (oc rfl oz)) (Cal.mono (c_s_l24Letters ((p_0.Idxs.getD k30 d_Idx).Name) 1 (okL.getD o3.2.2 ok_d_Idx _)) fun _ _ h => h))
          ·exact oI rfl fun h => yl_not rfl (h.dt 2 31 rfl rfl rfl) kI
          ·exact oI rfl fun h => yl_move rfl (h.dt 3 32 rfl rfl rfl) kI
          ·exact oW rfl rfl rfl rfl (not_t hb105) fun h => yl_fieldAddr fd48_1 rfl (h.old 4 _ rfl rfl) kI
          ·exact oW rfl rfl rfl rfl (not_t hb105) fun h => yl_load1 ty3 rfl (h.dt 5 34 rfl rfl rfl) (((Box.ex hB102 h.ex).cell 1).trans rfl) kI
          ·exact oW rfl rfl rfl rfl (not_t hb105) fun h => yl_fieldAddr fd31_1 rfl (h.old 1 _ rfl rfl) kI
          ·exact oW rfl rfl rfl rfl (not_t hb105) fun h => yl_load1 ty22 rfl (h.dt 7 36 rfl rfl rfl) (((Box.ex q415 h.ex).cell 1).trans rfl) kI
          ·exact oW rfl rfl rfl rfl (not_t hb105) fun h => yl_len un22 rfl (h.dt 8 37 rfl rfl rfl) kI
          ·exact oW rfl rfl rfl rfl (not_t hb105) fun h => yl_sub rfl (h.dt 9 38 rfl rfl rfl) rfl kI
          ·intro L485 w486 hi487
           exact OpR.want rfl rfl (hi487.dt 4 33 rfl rfl rfl) (not_t hb105) (yl_call en22 rfl (oc (hi487.dt 6 35 rfl rfl rfl) (oc rfl (oc (hi487.dt 10 39 rfl rfl rfl) oz))) (Cal.mono (c_s_l1In ((p_0.Idxs.getD k30 d_Idx).Col) 1 (IntKind.wrap .i64 ((p_0.Cols.length : Int) - 1))) fun _ _ h => h))
          ·exact oW rfl rfl rfl rfl (not_t hb105) fun h => yl_not rfl (h.dt 11 40 rfl rfl rfl) kI
          ·exact oI rfl fun h => yl_pick_f rfl (h.dt 4 33 rfl rfl rfl) (not_t hb105) (h.dt 12 41 rfl rfl rfl) kI
          ·exact oI rfl fun h => yl_move rfl (h.dt 13 42 rfl rfl rfl) kI
          ·exact oW rfl rfl rfl rfl (not_t hb110) fun h => yl_fieldAddr fd48_2 rfl (h.old 4 _ rfl rfl) kI
          ·exact oW rfl rfl rfl rfl (not_t hb110) fun h => yl_load1 ty3 rfl (h.dt 15 44 rfl rfl rfl) (((Box.ex hB102 h.ex).cell 2).trans rfl) kI
          ·intro L525 w526 hi527
           exact OpR.want rfl rfl (hi527.dt 14 43 rfl rfl rfl) (not_t hb110) (yl_call en22 rfl (oc (hi527.dt 16 45 rfl rfl rfl) (oc rfl (oc rfl oz))) (Cal.mono (c_s_l1In ((p_0.Idxs.getD k30 d_Idx).Stage) 0 3) fun _ _ h => h))
          ·exact oW rfl rfl rfl rfl (not_t hb110) fun h => yl_not rfl (h.dt 17 46 rfl rfl rfl) kI
          ·exact oI rfl fun h => yl_pick_f rfl (h.dt 14 43 rfl rfl rfl) (not_t hb110) (h.dt 18 47 rfl rfl rfl) kI
          ·exact oI rfl fun h => yl_move rfl (h.dt 19 48 rfl rfl rfl) kI
          ·exact oW rfl rfl rfl rfl (not_t hb116) fun h => yl_move rfl (h.old 3 _ rfl rfl) kI
          ·exact oW rfl rfl rfl rfl (not_t hb116) fun h => yl_gtr rfl (h.dt 21 50 rfl rfl rfl) rfl kI
          ·exact oW rfl rfl rfl rfl (not_t hb116) fun h => yl_move rfl (h.dt 22 51 rfl rfl rfl) kI
          ·exact oS rfl rfl rfl rfl rfl hb122
          ·exact oS rfl rfl rfl rfl rfl hb122
          ·exact oS rfl rfl rfl rfl rfl hb122
          ·exact oS rfl rfl rfl rfl rfl hb122
          ·exact oS rfl rfl rfl rfl rfl hb122
          ·exact oS rfl rfl rfl rfl rfl hb122
          ·exact oS rfl rfl rfl rfl rfl hb122
          ·exact oS rfl rfl rfl rfl rfl hb122
          ·exact oS rfl rfl rfl rfl rfl hb122
          ·exact oS rfl rfl rfl rfl rfl hb122
          ·exact oW rfl rfl rfl rfl (not_t hb116) fun h => yl_pick_f rfl (h.dt 23 52 rfl rfl rfl) hb122 rfl kI
          ·exact oI rfl fun h => yl_pick_f rfl (h.dt 20 49 rfl rfl rfl) (not_t hb116) (h.dt 34 63 rfl rfl rfl) kI
          ·intro fl635 fh636 L632 w633 hp634
           have hE637 := hp634.ex
           have hE637z := Ex.size hE637
           refine dn (CW.sub (Sub.cons (d := 1) (hp634.old 1 _ rfl rfl) (Sub.cons (d := 22) (hp634.old 22 _ rfl rfl) (Sub.cons (d := 23) (hp634.old 23 _ rfl rfl) (Sub.cons (d := 24) (hp634.old 24 _ rfl rfl) (Sub.cons (d := 34) (hp634.nt 5 34 rfl rfl rfl) (Sub.cons (d := 35) (hp634.nt 6 35 rfl rfl rfl) (Sub.cons (d := 36) (hp634.nt 7 36 rfl rfl rfl) (Sub.cons (d := 37) (hp634.nt 8 37 rfl rfl rfl) (Sub.cons (d := 38) (hp634.nt 9 38 rfl rfl rfl) (Sub.cons (d := 39) (hp634.nt 10 39 rfl rfl rfl) (Sub.cons (d := 40) (hp634.nt 11 40 rfl rfl rfl) (Sub.cons (d := 41) (hp634.nt 12 41 rfl rfl rfl) (Sub.cons (d := 44) (hp634.nt 15 44 rfl rfl rfl) (Sub.cons (d := 45) (hp634.nt 16 45 rfl rfl rfl) (Sub.cons (d := 46) (hp634.nt 17 46 rfl rfl rfl) (Sub.cons (d := 47) (hp634.nt 18 47 rfl rfl rfl) (Sub.cons (d := 50) (hp634.nt 21 50 rfl rfl rfl) (Sub.cons (d := 51) (hp634.nt 22 51 rfl rfl rfl) (Sub.cons (d := 52) (hp634.nt 23 52 rfl rfl rfl) (Sub.cons (d := 53) (hp634.nt 24 53 rfl rfl rfl) (Sub.cons (d := 54) (hp634.nt 25 54 rfl rfl rfl) (Sub.cons (d := 55) (hp634.nt 26 55 rfl rfl rfl) (Sub.cons (d := 56) (hp634.nt 27 56 rfl rfl rfl) (Sub.cons (d := 57) (hp634.nt 28 57 rfl rfl rfl) (Sub.cons (d := 58) (hp634.nt 29 58 rfl rfl rfl) (Sub.cons (d := 59) (hp634.nt 30 59 rfl rfl rfl) (Sub.cons (d := 60) (hp634.nt 31 60 rfl rfl rfl) (Sub.cons (d := 61) (hp634.nt 32 61 rfl rfl rfl) (Sub.cons (d := 62) (hp634.nt 33 62 rfl rfl rfl) (Sub.cons (d := 63) (hp634.nt 34 63 rfl rfl rfl) (Sub.cons (d := 64) (hp634.nt 35 64 rfl rfl rfl) (Sub.nil _)))))))))))))))))))))))))))))))) ?_)
           refine CW.cond_f rfl rfl (CW.skip (bn (tn (CW.region (sd rfl (yl_inc rfl rfl rfl (by omega) (sd rfl (yl_move rfl rfl (dn ?_)))))))))
           have hB669 : B_s_GoodTable_0 p_0 k30 () = .cont () := by simp only [B_s_GoodTable_0, hb16, hb23, hb25, hb105, hb110, hb116, hb122, cL]
           exact ⟨p_0.Idxs.length - (k30 + 1), by omega, k30 + 1, rfl, hlt93, (by omega), rfl, rfl, rfl, rfl, (Box.ex q415 hE637), (RdS.ex good_Str (RdS.only good_Str (RdS.ex good_Str hf89 hE100) hO103 (by simp only [Iv]; omega)) hE637), (RdS.ex good_Idx (RdS.only good_Idx (RdS.ex good_Idx hf90 hE100) hO103 (by simp only [Iv]; omega)) hE637), (Ex.trans (Below.only (Ex.trans hf91 hE100) hO103 (by omega)) hE637), (loopM.cont hlt93 hB669).symm.trans hI82⟩
        ·refine CW.drawsI 36 (vgetI ([.pointer (some ⟨b95, 0 + 0, none⟩), .string (bs ((p_0.Idxs.getD k30 d_Idx).Name)), .bool ((s_l24Letters ((p_0.Idxs.getD k30 d_Idx).Name) 1)), .bool (!(s_l24Letters ((p_0.Idxs.getD k30 d_Idx).Name) 1)), .bool (!(s_l24Letters ((p_0.Idxs.getD k30 d_Idx).Name) 1)), .pointer (some ⟨b95, 0 + 1, none⟩), .int .i64 ((p_0.Idxs.getD k30 d_Idx).Col), .pointer (some ⟨b7, 0 + 1, none⟩), .slice A1 p_0.Cols.length c1, .int .i64 ((p_0.Cols.length : Int)), .int .i64 (IntKind.wrap .i64 ((p_0.Cols.length : Int) - 1)), .bool ((s_l1In ((p_0.Idxs.getD k30 d_Idx).Col) 1 (IntKind.wrap .i64 ((p_0.Cols.length : Int) - 1)))), .bool (!(s_l1In ((p_0.Idxs.getD k30 d_Idx).Col) 1 (IntKind.wrap .i64 ((p_0.Cols.length : Int) - 1)))), .bool (!(s_l1In ((p_0.Idxs.getD k30 d_Idx).Col) 1 (IntKind.wrap .i64 ((p_0.Cols.length : Int) - 1)))), .bool (!(s_l1In ((p_0.Idxs.getD k30 d_Idx).Col) 1 (IntKind.wrap .i64 ((p_0.Cols.length : Int) - 1)))), .pointer (some ⟨b95, 0 + 2, none⟩), .int .i64 ((p_0.Idxs.getD k30 d_Idx).Stage), .bool ((s_l1In ((p_0.Idxs.getD k30 d_Idx).Stage) 0 3)), .bool (!(s_l1In ((p_0.Idxs.getD k30 d_Idx).Stage) 0 3)), .bool (!(s_l1In ((p_0.Idxs.getD k30 d_Idx).Stage) 0 3)), .bool (!(s_l1In ((p_0.Idxs.getD k30 d_Idx).Stage) 0 3)), undef, undef, undef, undef, undef, undef, undef, undef, undef, undef, undef, undef, undef, undef, .bool (true)].map DetI)) Tryd.follows rfl rfl rfl rfl rfl rfl (vgetI_stable (stD _)) ⟨?_, ?_, ?_, ?_, ?_, ?_, ?_, ?_, ?_, ?_, ?_, ?_, ?_, ?_, ?_, ?_, ?_, ?_, ?_, ?_, ?_, ?_, ?_, ?_, ?_, ?_, ?_, ?_, ?_, ?_, ?_, ?_, ?_, ?_, ?_, ?_, trivial⟩ ?_
         ·exact oI rfl fun h => yl_fieldAddr fd48_0 rfl (h.old 4 _ rfl rfl) kI
         ·exact oI rfl fun h => yl_load1 ty9 rfl (h.dt 0 29 rfl rfl rfl) (((Box.ex hB102 h.ex).cell 0).trans rfl) kI
         ·intro L696 w697 hi698
          exact OpR.op' rfl (yl_call en20 rfl (oc (hi698.dt 1 30 rfl rfl rfl) (oc rfl oz)) (Cal.mono (c_s_l24Letters ((p_0.Idxs.getD k30 d_Idx).Name) 1 (okL.getD o3.2.2 ok_d_Idx _)) fun _ _ h => h))
         ·exact oI rfl fun h => yl_not rfl (h.dt 2 31 rfl rfl rfl) kI
         ·exact oI rfl fun h => yl_move rfl (h.dt 3 32 rfl rfl rfl) kI
         ·exact oW rfl rfl rfl rfl (not_t hb105) fun h => yl_fieldAddr fd48_1 rfl (h.old 4 _ rfl rfl) kI
         ·exact oW rfl rfl rfl rfl (not_t hb105) fun h => yl_load1 ty3 rfl (h.dt 5 34 rfl rfl rfl) (((Box.ex hB102 h.ex).cell 1).trans rfl) kI
         ·exact oW rfl rfl rfl rfl (not_t hb105) fun h => yl_fieldAddr fd31_1 rfl (h.old 1 _ rfl rfl) kI
         ·intro L733 w734 hi735
          have hE736 := hi735.ex
          have hE736z := Ex.size hE736
          exact OpR.want rfl rfl (hi735.dt 4 33 rfl rfl rfl) (not_t hb105) (Yl.sameI (yl_load1 ty22 rfl (hi735.dt 7 36 rfl rfl rfl) (((Box.ex (Box.only (Box.ex hf88 hE100) hO103 (by omega)) hE736).cell 1).trans rfl) kI))
         ·exact oW rfl rfl rfl rfl (not_t hb105) fun h => yl_len un22 rfl (h.dt 8 37 rfl rfl rfl) kI
         ·exact oW rfl rfl rfl rfl (not_t hb105) fun h => yl_sub rfl (h.dt 9 38 rfl rfl rfl) rfl kI
         ·intro L752 w753 hi754
          exact OpR.want rfl rfl (hi754.dt 4 33 rfl rfl rfl) (not_t hb105) (yl_call en22 rfl (oc (hi754.dt 6 35 rfl rfl rfl) (oc rfl (oc (hi754.dt 10 39 rfl rfl rfl) oz))) (Cal.mono (c_s_l1In ((p_0.Idxs.getD k30 d_Idx).Col) 1 (IntKind.wrap .i64 ((p_0.Cols.length : Int) - 1))) fun _ _ h => h))
         ·exact oW rfl rfl rfl rfl (not_t hb105) fun h => yl_not rfl (h.dt 11 40 rfl rfl rfl) kI
         ·exact oI rfl fun h => yl_pick_f rfl (h.dt 4 33 rfl rfl rfl) (not_t hb105) (h.dt 12 41 rfl rfl rfl) kI
         ·exact oI rfl fun h => yl_move rfl (h.dt 13 42 rfl rfl rfl) kI
         ·exact oW rfl rfl rfl rfl (not_t hb110) fun h => yl_fieldAddr fd48_2 rfl (h.old 4 _ rfl rfl) kI
         ·exact oW rfl rfl rfl rfl (not_t hb110) fun h => yl_load1 ty3 rfl (h.dt 15 44 rfl rfl rfl) (((Box.ex hB102 h.ex).cell 2).trans rfl) kI
         ·intro L792 w793 hi794
          exact OpR.want rfl rfl (hi794.dt 14 43 rfl rfl rfl) (not_t hb110) (yl_call en22 rfl (oc (hi794.dt 16 45 rfl rfl rfl) (oc rfl (oc rfl oz))) (Cal.mono (c_s_l1In ((p_0.Idxs.getD k30 d_Idx).Stage) 0 3) fun _ _ h => h))
         ·exact oW rfl rfl rfl rfl (not_t hb110) fun h => yl_not rfl (h.dt 17 46 rfl rfl rfl) kI
         ·exact oI rfl fun h => yl_pick_f rfl (h.dt 14 43 rfl rfl rfl) (not_t hb110) (h.dt 18 47 rfl rfl rfl) kI
         ·exact oI rfl fun h => yl_move rfl (h.dt 19 48 rfl rfl rfl) kI
         ·exact oS rfl rfl rfl rfl rfl (not_f hb116)
         ·exact oS rfl rfl rfl rfl rfl (not_f hb116)
         ·exact oS rfl rfl rfl rfl rfl (not_f hb116)
         ·exact oU rfl rfl rfl rfl rfl
         ·exact oU rfl rfl rfl rfl rfl
         ·exact oU rfl rfl rfl rfl rfl
         ·exact oU rfl rfl rfl rfl rfl
         ·exact oU rfl rfl rfl rfl rfl
         ·exact oU rfl rfl rfl rfl rfl
         ·exact oU rfl rfl rfl rfl rfl
         ·exact oU rfl rfl rfl rfl rfl
         ·exact oU rfl rfl rfl rfl rfl
         ·exact oU rfl rfl rfl rfl rfl
         ·exact oS rfl rfl rfl rfl rfl (not_f hb116)
         ·exact oI rfl fun h => yl_pick_t rfl (h.dt 20 49 rfl rfl rfl) (not_f hb116) rfl kI
         ·intro fl897 fh898 L894 w895 hp896
          have hE899 := hp896.ex
          have hE899z := Ex.size hE899
          refine dn (CW.sub (Sub.cons (d := 1) (hp896.old 1 _ rfl rfl) (Sub.cons (d := 22) (hp896.old 22 _ rfl rfl) (Sub.cons (d := 23) (hp896.old 23 _ rfl rfl) (Sub.cons (d := 24) (hp896.old 24 _ rfl rfl) (Sub.cons (d := 34) (hp896.nt 5 34 rfl rfl rfl) (Sub.cons (d := 35) (hp896.nt 6 35 rfl rfl rfl) (Sub.cons (d := 36) (hp896.nt 7 36 rfl rfl rfl) (Sub.cons (d := 37) (hp896.nt 8 37 rfl rfl rfl) (Sub.cons (d := 38) (hp896.nt 9 38 rfl rfl rfl) (Sub.cons (d := 39) (hp896.nt 10 39 rfl rfl rfl) (Sub.cons (d := 40) (hp896.nt 11 40 rfl rfl rfl) (Sub.cons (d := 41) (hp896.nt 12 41 rfl rfl rfl) (Sub.cons (d := 44) (hp896.nt 15 44 rfl rfl rfl) (Sub.cons (d := 45) (hp896.nt 16 45 rfl rfl rfl) (Sub.cons (d := 46) (hp896.nt 17 46 rfl rfl rfl) (Sub.cons (d := 47) (hp896.nt 18 47 rfl rfl rfl) (Sub.cons (d := 50) (hp896.nt 21 50 rfl rfl rfl) (Sub.cons (d := 51) (hp896.nt 22 51 rfl rfl rfl) (Sub.cons (d := 52) (hp896.nt 23 52 rfl rfl rfl) (Sub.cons (d := 53) (hp896.nt 24 53 rfl rfl rfl) (Sub.cons (d := 54) (hp896.nt 25 54 rfl rfl rfl) (Sub.cons (d := 55) (hp896.nt 26 55 rfl rfl rfl) (Sub.cons (d := 56) (hp896.nt 27 56 rfl rfl rfl) (Sub.cons (d := 57) (hp896.nt 28 57 rfl rfl rfl) (Sub.cons (d := 58) (hp896.nt 29 58 rfl rfl rfl) (Sub.cons (d := 59) (hp896.nt 30 59 rfl rfl rfl) (Sub.cons (d := 60) (hp896.nt 31 60 rfl rfl rfl) (Sub.cons (d := 61) (hp896.nt 32 61 rfl rfl rfl) (Sub.cons (d := 62) (hp896.nt 33 62 rfl rfl rfl) (Sub.cons (d := 63) (hp896.nt 34 63 rfl rfl rfl) (Sub.cons (d := 64) (hp896.nt 35 64 rfl rfl rfl) (Sub.nil _)))))))))))))))))))))))))))))))) ?_)
          refine CW.cond_t rfl rfl (CW.seq (CW.region (sd rfl (yl_assign rfl rfl (dn (CW.ret (br (tr ?_))))))))
          refine tr ?_
          have hB932 : B_s_GoodTable_0 p_0 k30 () = .ret false := by simp only [B_s_GoodTable_0, hb16, hb23, hb25, hb105, hb110, hb116, cL]
          have hL931 : loopM (B_s_GoodTable_0 p_0) (p_0.Idxs.length - 0) 0 () = .ret false := hI82.symm.trans (loopM.ret hlt93 hB932)
          refine br (tr (rr rfl (.cons rfl .nil) ?_))
          have hM933 : (s_GoodTable p_0) = (false) := by simp only [s_GoodTable, hb16, hb23, hb25, hb105, hb110, hb116, hL931, cL]
          rw [hM933]
          exact ⟨rfl, (Ex.trans (Below.only (Ex.trans hf91 hE100) hO103 (by omega)) hE899)⟩
       ·refine CW.drawsI 36 (vgetI ([.pointer (some ⟨b95, 0 + 0, none⟩), .string (bs ((p_0.Idxs.getD k30 d_Idx).Name)), .bool ((s_l24Letters ((p_0.Idxs.getD k30 d_Idx).Name) 1)), .bool (!(s_l24Letters ((p_0.Idxs.getD k30 d_Idx).Name) 1)), .bool (!(s_l24Letters ((p_0.Idxs.getD k30 d_Idx).Name) 1)), .pointer (some ⟨b95, 0 + 1, none⟩), .int .i64 ((p_0.Idxs.getD k30 d_Idx).Col), .pointer (some ⟨b7, 0 + 1, none⟩), .slice A1 p_0.Cols.length c1, .int .i64 ((p_0.Cols.length : Int)), .int .i64 (IntKind.wrap .i64 ((p_0.Cols.length : Int) - 1)), .bool ((s_l1In ((p_0.Idxs.getD k30 d_Idx).Col) 1 (IntKind.wrap .i64 ((p_0.Cols.length : Int) - 1)))), .bool (!(s_l1In ((p_0.Idxs.getD k30 d_Idx).Col) 1 (IntKind.wrap .i64 ((p_0.Cols.length : Int) - 1)))), .bool (!(s_l1In ((p_0.Idxs.getD k30 d_Idx).Col) 1 (IntKind.wrap .i64 ((p_0.Cols.length : Int) - 1)))), .bool (!(s_l1In ((p_0.Idxs.getD k30 d_Idx).Col) 1 (IntKind.wrap .i64 ((p_0.Cols.length : Int) - 1)))), undef, undef, undef, undef, .bool (true), .bool (true), undef, undef, undef, undef, undef, undef, undef, undef, undef, undef, undef, undef, undef, undef, .bool (true)].map DetI)) Tryd.follows rfl rfl rfl rfl rfl rfl (vgetI_stable (stD _)) ⟨?_, ?_, ?_, ?_, ?_, ?_, ?_, ?_, ?_, ?_, ?_, ?_, ?_, ?_, ?_, ?_, ?_, ?_, ?_, ?_, ?_, ?_, ?_, ?_, ?_, ?_, ?_, ?_, ?_, ?_, ?_, ?_, ?_, ?_, ?_, ?_, trivial⟩ ?_
        ·exact oI rfl fun h => yl_fieldAddr fd48_0 rfl (h.old 4 _ rfl rfl) kI
        ·exact oI rfl fun h => yl_load1 ty9 rfl (h.dt 0 29 rfl rfl rfl) (((Box.ex hB102 h.ex).cell 0).trans rfl) kI
        ·intro L952 w953 hi954
         exact OpR.op' rfl (yl_call en20 rfl (oc (hi954.dt 1 30 rfl rfl rfl) (oc rfl oz)) (Cal.mono (c_s_l24Letters ((p_0.Idxs.getD k30 d_Idx).Name) 1 (okL.getD o3.2.2 ok_d_Idx _)) fun _ _ h => h))
        ·exact oI rfl fun h => yl_not rfl (h.dt 2 31 rfl rfl rfl) kI
        ·exact oI rfl fun h => yl_move rfl (h.dt 3 32 rfl rfl rfl) kI
        ·exact oW rfl rfl rfl rfl (not_t hb105) fun h => yl_fieldAddr fd48_1 rfl (h.old 4 _ rfl rfl) kI
        ·exact oW rfl rfl rfl rfl (not_t hb105) fun h => yl_load1 ty3 rfl (h.dt 5 34 rfl rfl rfl) (((Box.ex hB102 h.ex).cell 1).trans rfl) kI
        ·exact oW rfl rfl rfl rfl (not_t hb105) fun h => yl_fieldAddr fd31_1 rfl (h.old 1 _ rfl rfl) kI
        ·intro L989 w990 hi991
         have hE992 := hi991.ex
         have hE992z := Ex.size hE992
         exact OpR.want rfl rfl (hi991.dt 4 33 rfl rfl rfl) (not_t hb105) (Yl.sameI (yl_load1 ty22 rfl (hi991.dt 7 36 rfl rfl rfl) (((Box.ex (Box.only (Box.ex hf88 hE100) hO103 (by omega)) hE992).cell 1).trans rfl) kI))
        ·exact oW rfl rfl rfl rfl (not_t hb105) fun h => yl_len un22 rfl (h.dt 8 37 rfl rfl rfl) kI
        ·exact oW rfl rfl rfl rfl (not_t hb105) fun h => yl_sub rfl (h.dt 9 38 rfl rfl rfl) rfl kI
        ·intro L1008 w1009 hi1010
         exact OpR.want rfl rfl (hi1010.dt 4 33 rfl rfl rfl) (not_t hb105) (yl_call en22 rfl (oc (hi1010.dt 6 35 rfl rfl rfl) (oc rfl (oc (hi1010.dt 10 39 rfl rfl rfl) oz))) (Cal.mono (c_s_l1In ((p_0.Idxs.getD k30 d_Idx).Col) 1 (IntKind.wrap .i64 ((p_0.Cols.length : Int) - 1))) fun _ _ h => h))
        ·exact oW rfl rfl rfl rfl (not_t hb105) fun h => yl_not rfl (h.dt 11 40 rfl rfl rfl) kI
        ·exact oI rfl fun h => yl_pick_f rfl (h.dt 4 33 rfl rfl rfl) (not_t hb105) (h.dt 12 41 rfl rfl rfl) kI
        ·exact oI rfl fun h => yl_move rfl (h.dt 13 42 rfl rfl rfl) kI
        ·exact oS rfl rfl rfl rfl rfl (not_f hb110)
        ·exact oS rfl rfl rfl rfl rfl (not_f hb110)
        ·exact oS rfl rfl rfl rfl rfl (not_f hb110)
        ·exact oS rfl rfl rfl rfl rfl (not_f hb110)
        ·exact oI rfl fun h => yl_pick_t rfl (h.dt 14 43 rfl rfl rfl) (not_f hb110) rfl kI
        ·exact oI rfl fun h => yl_move rfl (h.dt 19 48 rfl rfl rfl) kI
        ·exact oS rfl rfl rfl rfl rfl rfl
        ·exact oS rfl rfl rfl rfl rfl rfl
        ·exact oS rfl rfl rfl rfl rfl rfl
        ·exact oU rfl rfl rfl rfl rfl
        ·exact oU rfl rfl rfl rfl rfl
        ·exact oU rfl rfl rfl rfl rfl
        ·exact oU rfl rfl rfl rfl rfl
        ·exact oU rfl rfl rfl rfl rfl
        ·exact oU rfl rfl rfl rfl rfl
        ·exact oU rfl rfl rfl rfl rfl
        ·exact oU rfl rfl rfl rfl rfl
        ·exact oU rfl rfl rfl rfl rfl
        ·exact oU rfl rfl rfl rfl rfl
        ·exact oS rfl rfl rfl rfl rfl rfl
        ·exact oI rfl fun h => yl_pick_t rfl (h.dt 20 49 rfl rfl rfl) rfl rfl kI
        ·intro fl1145 fh1146 L1142 w1143 hp1144
         have hE1147 := hp1144.ex
         have hE1147z := Ex.size hE1147
         refine dn (CW.sub (Sub.cons (d := 1) (hp1144.old 1 _ rfl rfl) (Sub.cons (d := 22) (hp1144.old 22 _ rfl rfl) (Sub.cons (d := 23) (hp1144.old 23 _ rfl rfl) (Sub.cons (d := 24) (hp1144.old 24 _ rfl rfl) (Sub.cons (d := 34) (hp1144.nt 5 34 rfl rfl rfl) (Sub.cons (d := 35) (hp1144.nt 6 35 rfl rfl rfl) (Sub.cons (d := 36) (hp1144.nt 7 36 rfl rfl rfl) (Sub.cons (d := 37) (hp1144.nt 8 37 rfl rfl rfl) (Sub.cons (d := 38) (hp1144.nt 9 38 rfl rfl rfl) (Sub.cons (d := 39) (hp1144.nt 10 39 rfl rfl rfl) (Sub.cons (d := 40) (hp1144.nt 11 40 rfl rfl rfl) (Sub.cons (d := 41) (hp1144.nt 12 41 rfl rfl rfl) (Sub.cons (d := 44) (hp1144.nt 15 44 rfl rfl rfl) (Sub.cons (d := 45) (hp1144.nt 16 45 rfl rfl rfl) (Sub.cons (d := 46) (hp1144.nt 17 46 rfl rfl rfl) (Sub.cons (d := 47) (hp1144.nt 18 47 rfl rfl rfl) (Sub.cons (d := 50) (hp1144.nt 21 50 rfl rfl rfl) (Sub.cons (d := 51) (hp1144.nt 22 51 rfl rfl rfl) (Sub.cons (d := 52) (hp1144.nt 23 52 rfl rfl rfl) (Sub.cons (d := 53) (hp1144.nt 24 53 rfl rfl rfl) (Sub.cons (d := 54) (hp1144.nt 25 54 rfl rfl rfl) (Sub.cons (d := 55) (hp1144.nt 26 55 rfl rfl rfl) (Sub.cons (d := 56) (hp1144.nt 27 56 rfl rfl rfl) (Sub.cons (d := 57) (hp1144.nt 28 57 rfl rfl rfl) (Sub.cons (d := 58) (hp1144.nt 29 58 rfl rfl rfl) (Sub.cons (d := 59) (hp1144.nt 30 59 rfl rfl rfl) (Sub.cons (d := 60) (hp1144.nt 31 60 rfl rfl rfl) (Sub.cons (d := 61) (hp1144.nt 32 61 rfl rfl rfl) (Sub.cons (d := 62) (hp1144.nt 33 62 rfl rfl rfl) (Sub.cons (d := 63) (hp1144.nt 34 63 rfl rfl rfl) (Sub.cons (d := 64) (hp1144.nt 35 64 rfl rfl rfl) (Sub.nil _)))))))))))))))))))))))))))))))) ?_)
         refine CW.cond_t rfl rfl (CW.seq (CW.region (sd rfl (yl_assign rfl rfl (dn (CW.ret (br (tr ?_))))))))
         refine tr ?_
         have hB1180 : B_s_GoodTable_0 p_0 k30 () = .ret false := by simp only [B_s_GoodTable_0, hb16, hb23, hb25, hb105, hb110, cL]
         have hL1179 : loopM (B_s_GoodTable_0 p_0) (p_0.Idxs.length - 0) 0 () = .ret false := hI82.symm.trans (loopM.ret hlt93 hB1180)
         refine br (tr (rr rfl (.cons rfl .nil) ?_))
         have hM1181 : (s_GoodTable p_0) = (false) := by simp only [s_GoodTable, hb16, hb23, hb25, hb105, hb110, hL1179, cL]
         rw [hM1181]
         exact ⟨rfl, (Ex.trans (Below.only (Ex.trans hf91 hE100) hO103 (by omega)) hE1147)⟩
      ·refine CW.drawsI 36 (vgetI ([.pointer (some ⟨b95, 0 + 0, none⟩), .string (bs ((p_0.Idxs.getD k30 d_Idx).Name)), .bool ((s_l24Letters ((p_0.Idxs.getD k30 d_Idx).Name) 1)), .bool (!(s_l24Letters ((p_0.Idxs.getD k30 d_Idx).Name) 1)), .bool (!(s_l24Letters ((p_0.Idxs.getD k30 d_Idx).Name) 1)), undef, undef, undef, undef, undef, undef, undef, undef, .bool (true), .bool (true), undef, undef, undef, undef, .bool (true), .bool (true), undef, undef, undef, undef, undef, undef, undef, undef, undef, undef, undef, undef, undef, undef, .bool (true)].map DetI)) Tryd.follows rfl rfl rfl rfl rfl rfl (vgetI_stable (stD _)) ⟨?_, ?_, ?_, ?_, ?_, ?_, ?_, ?_, ?_, ?_, ?_, ?_, ?_, ?_, ?_, ?_, ?_, ?_, ?_, ?_, ?_, ?_, ?_, ?_, ?_, ?_, ?_, ?_, ?_, ?_, ?_, ?_, ?_, ?_, ?_, ?_, trivial⟩ ?_
       ·exact oI rfl fun h => yl_fieldAddr fd48_0 rfl (h.old 4 _ rfl rfl) kI
       ·exact oI rfl fun h => yl_load1 ty9 rfl (h.dt 0 29 rfl rfl rfl) (((Box.ex hB102 h.ex).cell 0).trans rfl) kI
       ·intro L1197 w1198 hi1199
        exact OpR.op' rfl (yl_call en20 rfl (oc (hi1199.dt 1 30 rfl rfl rfl) (oc rfl oz)) (Cal.mono (c_s_l24Letters ((p_0.Idxs.getD k30 d_Idx).Name) 1 (okL.getD o3.2.2 ok_d_Idx _)) fun _ _ h => h))
       ·exact oI rfl fun h => yl_not rfl (h.dt 2 31 rfl rfl rfl) kI
       ·exact oI rfl fun h => yl_move rfl (h.dt 3 32 rfl rfl rfl) kI
       ·exact oS rfl rfl rfl rfl rfl (not_f hb105)
       ·exact oS rfl rfl rfl rfl rfl (not_f hb105)
       ·exact oS rfl rfl rfl rfl rfl (not_f hb105)
       ·exact oS rfl rfl rfl rfl rfl (not_f hb105)
       ·exact oS rfl rfl rfl rfl rfl (not_f hb105)
       ·exact oS rfl rfl rfl rfl rfl (not_f hb105)
       ·exact oS rfl rfl rfl rfl rfl (not_f hb105)
       ·exact oS rfl rfl rfl rfl rfl (not_f hb105)
       ·exact oI rfl fun h => yl_pick_t rfl (h.dt 4 33 rfl rfl rfl) (not_f hb105) rfl kI
       ·exact oI rfl fun h => yl_move rfl (h.dt 13 42 rfl rfl rfl) kI
       ·exact oS rfl rfl rfl rfl rfl rfl
       ·exact oS rfl rfl rfl rfl rfl rfl
       ·exact oS rfl rfl rfl rfl rfl rfl
       ·exact oS rfl rfl rfl rfl rfl rfl
       ·exact oI rfl fun h => yl_pick_t rfl (h.dt 14 43 rfl rfl rfl) rfl rfl kI
       ·exact oI rfl fun h => yl_move rfl (h.dt 19 48 rfl rfl rfl) kI
       ·exact oS rfl rfl rfl rfl rfl rfl
       ·exact oS rfl rfl rfl rfl rfl rfl
       ·exact oS rfl rfl rfl rfl rfl rfl
       ·exact oU rfl rfl rfl rfl rfl
       ·exact oU rfl rfl rfl rfl rfl
       ·exact oU rfl rfl rfl rfl rfl
       ·exact oU rfl rfl rfl rfl rfl
       ·exact oU rfl rfl rfl rfl rfl
       ·exact oU rfl rfl rfl rfl rfl
       ·exact oU rfl rfl rfl rfl rfl
       ·exact oU rfl rfl rfl rfl rfl
       ·exact oU rfl rfl rfl rfl rfl
       ·exact oU rfl rfl rfl rfl rfl
       ·exact oS rfl rfl rfl rfl rfl rfl
       ·exact oI rfl fun h => yl_pick_t rfl (h.dt 20 49 rfl rfl rfl) rfl rfl kI
       ·intro fl1376 fh1377 L1373 w1374 hp1375
        have hE1378 := hp1375.ex
        have hE1378z := Ex.size hE1378
        refine dn (CW.sub (Sub.cons (d := 1) (hp1375.old 1 _ rfl rfl) (Sub.cons (d := 22) (hp1375.old 22 _ rfl rfl) (Sub.cons (d := 23) (hp1375.old 23 _ rfl rfl) (Sub.cons (d := 24) (hp1375.old 24 _ rfl rfl) (Sub.cons (d := 34) (hp1375.nt 5 34 rfl rfl rfl) (Sub.cons (d := 35) (hp1375.nt 6 35 rfl rfl rfl) (Sub.cons (d := 36) (hp1375.nt 7 36 rfl rfl rfl) (Sub.cons (d := 37) (hp1375.nt 8 37 rfl rfl rfl) (Sub.cons (d := 38) (hp1375.nt 9 38 rfl rfl rfl) (Sub.cons (d := 39) (hp1375.nt 10 39 rfl rfl rfl) (Sub.cons (d := 40) (hp1375.nt 11 40 rfl rfl rfl) (Sub.cons (d := 41) (hp1375.nt 12 41 rfl rfl rfl) (Sub.cons (d := 44) (hp1375.nt 15 44 rfl rfl rfl) (Sub.cons (d := 45) (hp1375.nt 16 45 rfl rfl rfl) (Sub.cons (d := 46) (hp1375.nt 17 46 rfl rfl rfl) (Sub.cons (d := 47) (hp1375.nt 18 47 rfl rfl rfl) (Sub.cons (d := 50) (hp1375.nt 21 50 rfl rfl rfl) (Sub.cons (d := 51) (hp1375.nt 22 51 rfl rfl rfl) (Sub.cons (d := 52) (hp1375.nt 23 52 rfl rfl rfl) (Sub.cons (d := 53) (hp1375.nt 24 53 rfl rfl rfl) (Sub.cons (d := 54) (hp1375.nt 25 54 rfl rfl rfl) (Sub.cons (d := 55) (hp1375.nt 26 55 rfl rfl rfl) (Sub.cons (d := 56) (hp1375.nt 27 56 rfl rfl rfl) (Sub.cons (d := 57) (hp1375.nt 28 57 rfl rfl rfl) (Sub.cons (d := 58) (hp1375.nt 29 58 rfl rfl rfl) (Sub.cons (d := 59) (hp1375.nt 30 59 rfl rfl rfl) (Sub.cons (d := 60) (hp1375.nt 31 60 rfl rfl rfl) (Sub.cons (d := 61) (hp1375.nt 32 61 rfl rfl rfl) (Sub.cons (d := 62) (hp1375.nt 33 62 rfl rfl rfl) (Sub.cons (d := 63) (hp1375.nt 34 63 rfl rfl rfl) (Sub.cons (d := 64) (hp1375.nt 35 64 rfl rfl rfl) (Sub.nil _)))))))))))))))))))))))))))))))) ?_)
        refine CW.cond_t rfl rfl (CW.seq (CW.region (sd rfl (yl_assign rfl rfl (dn (CW.ret (br (tr ?_))))))))
        refine tr ?_
        have hB1411 : B_s_GoodTable_0 p_0 k30 () = .ret false := by simp only [B_s_GoodTable_0, hb16, hb23, hb25, hb105, cL]
        have hL1410 : loopM (B_s_GoodTable_0 p_0) (p_0.Idxs.length - 0) 0 () = .ret false := hI82.symm.trans (loopM.ret hlt93 hB1411)
        refine br (tr (rr rfl (.cons rfl .nil) ?_))
        have hM1412 : (s_GoodTable p_0) = (false) := by simp only [s_GoodTable, hb16, hb23, hb25, hb105, hL1410, cL]
        rw [hM1412]
        exact ⟨rfl, (Ex.trans (Below.only (Ex.trans hf91 hE100) hO103 (by omega)) hE1378)⟩
     ·refine CW.seq (CW.region (sd rfl (yl_lss rfl rfl rfl (dn (CW.seq (CW.cond_f rfl (lt_f hlt93) (CW.exit (tx ?_))))))))
      refine tx ?_
      have hL1416 : loopM (B_s_GoodTable_0 p_0) (p_0.Idxs.length - 0) 0 () = .done () := hI82.symm.trans (loopM.stop hlt93)
      refine bx (tn (CW.seq (CW.region (sd rfl (yl_assign rfl rfl (dn (CW.ret (rr rfl (.cons rfl .nil) ?_))))))))
      have hM1417 : (s_GoodTable p_0) = (true) := by simp only [s_GoodTable, hb16, hb23, hb25, hL1416, cL]
      rw [hM1417]
      exact ⟨rfl, hf91⟩
  ·refine sz rfl rfl (not_f hb23) (sz rfl rfl (not_f hb23) (sz rfl rfl (not_f hb23) (sz rfl rfl (not_f hb23) (sd rfl (yl_pick_t rfl rfl (not_f hb23) rfl (dn (CW.cond_t rfl rfl (CW.seq ?_))))))))
   refine CW.region (sd rfl (yl_assign rfl rfl (dn (CW.ret (tr (rr rfl (.cons rfl .nil) ?_))))))
   have hM1418 : (s_GoodTable p_0) = (false) := by simp only [s_GoodTable, hb16, hb23, cL]
   rw [hM1418]
   exact ⟨rfl, (Ex.trans (Ex.trans (Ex.trans (Ex.refl w) hE12) hE15) hE22)⟩
 ·refine sz rfl rfl (not_f hb16) (sz rfl rfl (not_f hb16) (sz rfl rfl (not_f hb16) (sz rfl rfl (not_f hb16) (sd rfl (yl_pick_t rfl rfl (not_f hb16) rfl (sd rfl (yl_move rfl rfl (sz rfl rfl rfl (sz rfl rfl rfl (sz rfl rfl rfl ?_))))))))))
  refine sz rfl rfl rfl (sd rfl (yl_pick_t rfl rfl rfl rfl (dn (CW.cond_t rfl rfl (CW.seq (CW.region (sd rfl (yl_assign rfl rfl (SeqR.done ?_)))))))))
  refine tn (CW.ret (tr (rr rfl (.cons rfl .nil) ?_)))
  have hM1422 : (s_GoodTable p_0) = (false) := by simp only [s_GoodTable, hb16, cL]
  rw [hM1422]
  exact ⟨rfl, (Ex.trans (Ex.trans (Ex.refl w) hE12) hE15)⟩
theorem c_s_l24Join {A1 : Option Addr} {c1 : Nat} {w : World} (p_l : List Str) (p_by : Str) (h1 : RdS w (Iv 0 w.heap.size) (RF e_Str) 1 A1 p_l.length c1 p_l) (o2 : (okL okS) p_l) (o3 : okS p_by) : Cal Tryd.prog 23 #[.slice A1 p_l.length c1, .string (bs (p_by))] w fun v w' => v = .string (bs ((s_l24Join p_l p_by))) ∧ Ex w w' := by
 have hol4 := o2.1
 have hol5 : p_by.length ≤ 1073741824 := o3
 refine Cal.of func23 rfl ntmps23 rfl (CW.seq (CW.region (sd rfl (yl_assign rfl rfl (dn (CW.seq (CW.region (sd rfl (yl_assign rfl rfl ?_)))))))))
 refine dn (CW.seq (CW.seq (CW.region (sd rfl (yl_move rfl rfl (sd rfl (yl_len un22 rfl rfl (sd rfl (yl_move rfl rfl (SeqR.done ?_))))))))))
 refine tn (CW.block (CW.loop (fun m15 L16 w17 => ∃ (k6 : Nat) (x14 : Str), m15 = p_l.length - k6 ∧ k6 ≤ p_l.length ∧ w.heap.size ≤ w17.heap.size ∧ lkp L16 1 = some (.string (bs (p_by))) ∧ lkp L16 5 = some (.string (bs (x14))) ∧ lkp L16 8 = some (.slice A1 p_l.length c1) ∧ lkp L16 9 = some (.int .i64 ((p_l.length : Int))) ∧ lkp L16 10 = some (.int .i64 ((k6 : Int))) ∧ RdS w17 (Iv 0 w.heap.size) (RF e_Str) 1 A1 p_l.length c1 p_l ∧ Ex w w17 ∧ x14.length ≤ 0 + 2147483648 * (k6 - 0) ∧ loopM (B_s_l24Join_0 p_l p_by) (p_l.length - k6) k6 (x14) = loopM (B_s_l24Join_0 p_l p_by) (p_l.length - 0) 0 (([] : Str))) (p_l.length - 0) ?_ ?_))
 ·exact ⟨0, ([] : Str), rfl, (by omega), Nat.le_refl _, rfl, rfl, rfl, rfl, rfl, h1, (Ex.refl w), (by first | (simp; done) | (first | omega | (simp only [List.length_append, List.length_cons, List.length_nil, List.length_set, toS_length]; omega))), rfl⟩
 ·rintro m18 L19 w20 ⟨k6, x14, rfl, hk21, hsz23, hl24, hl25, hl26, hl27, hl28, hf29, hf30, hln31, hI22⟩
  refine CW.sub (Sub.cons hl24 (Sub.cons hl25 (Sub.cons hl26 (Sub.cons hl27 (Sub.cons hl28 (Sub.nil _)))))) ?_
  have hf30z := Ex.size hf30
  have hbg32 := RdS.big hf29
  rcases Nat.lt_or_ge k6 p_l.length with hlt33 | hlt33
  ·refine CW.seq (CW.region (sd rfl (yl_lss rfl rfl rfl (dn (CW.seq (CW.cond_t rfl (lt_t hlt33) (CW.skip (tn ?_))))))))
   refine CW.seq (CW.block (CW.seq (CW.region (sd rfl (yl_move rfl rfl ?_)))))
   obtain ⟨eb34, eo34, _, eA34, _, ebl34, _, eR34, eC34⟩ := RdS.aD hf29 d_Str (i := k6)
   obtain rfl := eR34
   have eC34 : Cells w20 eb34 (eo34 + k6 * 1) [.string (bs ((p_l.getD k6 d_Str)))] := eC34
   refine sd rfl (yl_ixN un22 ty9 rfl rfl rfl eA34 (sd rfl (yl_load1 ty9 rfl rfl (eC34 0 _ rfl) (sd rfl (yl_assign rfl rfl (sd rfl (yl_assign rfl rfl (dn (CW.seq (CW.seq (CW.region ?_)))))))))))
   refine sd rfl (yl_move rfl rfl (sd rfl (yl_gtr rfl rfl rfl (dn (bcase (decide (0 < (k6 : Int))) (fun hb35 => ?_) (fun hb35 => ?_))))))
   ·have hb35p := dec_t hb35
    refine CW.cond_t rfl hb35 (CW.region (sd rfl (yl_move rfl rfl (sd rfl (yl_move rfl rfl ?_)))))
    have hol36 : p_by.length ≤ 1073741824 := o3
    refine sd rfl (yl_sadd (a := x14) (b := p_by) rfl rfl rfl (by first | omega | (simp only [List.length_append, List.length_cons, List.length_nil, List.length_take, List.length_drop, toS_length]; omega)) (sd rfl (yl_assign rfl rfl (dn (CW.region (sd rfl (yl_move rfl rfl (sd rfl (yl_move rfl rfl ?_)))))))))
    have hol37 : p_by.length ≤ 1073741824 := o3
    have hol38 : (p_l.getD k6 d_Str).length ≤ 1073741824 := (okL.getD o2 ok_d_Str _)
    refine sd rfl (yl_sadd (a := (x14 ++ p_by)) (b := (p_l.getD k6 d_Str)) rfl rfl rfl (by first | omega | (simp only [List.length_append, List.length_cons, List.length_nil, List.length_take, List.length_drop, toS_length]; omega)) (sd rfl (yl_assign rfl rfl (SeqR.done (bn (tn (CW.region (sd rfl (yl_inc rfl rfl rfl (by omega) (sd rfl (yl_move rfl rfl (SeqR.done ?_))))))))))))
    refine tn ?_
    have hB39 : B_s_l24Join_0 p_l p_by k6 (x14) = .cont ((x14 ++ p_by) ++ (p_l.getD k6 d_Str)) := by simp only [B_s_l24Join_0, hb35, cL]
    exact ⟨p_l.length - (k6 + 1), by omega, k6 + 1, (x14 ++ p_by) ++ (p_l.getD k6 d_Str), rfl, hlt33, (by omega), rfl, rfl, rfl, rfl, rfl, hf29, hf30, (by first | omega | (simp only [List.length_append, List.length_cons, List.length_nil, List.length_set, toS_length]; omega)), (loopM.cont hlt33 hB39).symm.trans hI22⟩
   ·have hb35p := dec_f hb35
    refine CW.cond_f rfl hb35 (CW.skip (tn (CW.region (sd rfl (yl_move rfl rfl (sd rfl (yl_move rfl rfl ?_)))))))
    have hol40 : (p_l.getD k6 d_Str).length ≤ 1073741824 := (okL.getD o2 ok_d_Str _)
    refine sd rfl (yl_sadd (a := x14) (b := (p_l.getD k6 d_Str)) rfl rfl rfl (by first | omega | (simp only [List.length_append, List.length_cons, List.length_nil, List.length_take, List.length_drop, toS_length]; omega)) (sd rfl (yl_assign rfl rfl (SeqR.done (bn (tn (CW.region (sd rfl (yl_inc rfl rfl rfl (by omega) (sd rfl (yl_move rfl rfl (SeqR.done ?_))))))))))))
    refine tn ?_
    have hB41 : B_s_l24Join_0 p_l p_by k6 (x14) = .cont (x14 ++ (p_l.getD k6 d_Str)) := by simp only [B_s_l24Join_0, hb35, cL]
    exact ⟨p_l.length - (k6 + 1), by omega, k6 + 1, x14 ++ (p_l.getD k6 d_Str), rfl, hlt33, (by omega), rfl, rfl, rfl, rfl, rfl, hf29, hf30, (by first | omega | (simp only [List.length_append, List.length_cons, List.length_nil, List.length_set, toS_length]; omega)), (loopM.cont hlt33 hB41).symm.trans hI22⟩
  ·refine CW.seq (CW.region (sd rfl (yl_lss rfl rfl rfl (dn (CW.seq (CW.cond_f rfl (lt_f hlt33) (CW.exit (tx ?_))))))))
   refine tx ?_
   have hL42 : loopM (B_s_l24Join_0 p_l p_by) (p_l.length - 0) 0 (([] : Str)) = .done (x14) := hI22.symm.trans (loopM.stop hlt33)
   refine bx (tn (CW.seq (CW.region (sd rfl (yl_move rfl rfl (sd rfl (yl_assign rfl rfl (dn (CW.ret ?_)))))))))
   refine rr rfl (.cons rfl .nil) ?_
   have hM43 : (s_l24Join p_l p_by) = (x14) := by simp only [s_l24Join, hL42, cL]
   rw [hM43]
   exact ⟨rfl, hf30⟩
theorem c_s_l1Num {w : World} (p_n : Int) (pre0 : (0 ≤ p_n ∧ p_n ≤ 9)) : Cal Tryd.prog 24 #[.int .i64 (p_n)] w fun v w' => v = .string (bs ((s_l1Num p_n))) ∧ okS (s_l1Num p_n) ∧ Ex w w' := by
 refine Cal.of func24 rfl ntmps24 rfl (CW.seq (CW.region (sd rfl (yl_assign rfl rfl (dn (CW.seq (CW.seq (CW.region ?_))))))))
 refine sd rfl (yl_move rfl rfl (sd rfl (yl_lss rfl rfl rfl (dn (CW.cond_t rfl (decide_eq_true (by omega)) (CW.seq (CW.region (sd rfl (yl_move rfl rfl (sd rfl (yl_add rfl rfl rfl ?_)))))))))))
 refine sd rfl (yl_conv un3 un5 rfl rfl (sd rfl (yl_buildSlice (cs := [.int .u8 (IntKind.wrap .u8 (IntKind.wrap .i64 (48 + p_n)))]) un57 ty5 (by decide) rfl (oc rfl oz) (by kernel_rfl) ?_)))
 intro b1 w2 hs3 hz4 hB5 hE6
 have hO7 : OwnL w2 b1 (b1 + 1) 5 1 (RF e_U8) (some ⟨b1, 0, none⟩) 1 1 ([IntKind.wrap .u8 (IntKind.wrap .i64 (48 + p_n))] : List Int) := OwnL.of_box (S := fun _ => False) hB5 (Nat.le_refl _) (Nat.lt_succ_self _) (EncL.cons (c := [.int .u8 (IntKind.wrap .u8 (IntKind.wrap .i64 (48 + p_n)))]) rfl rfl EncL.nil) (Nat.le_of_ble_eq_true rfl) (fun h => h) (fun _ h => False.elim h)
 refine sd rfl (yl_toS un57 un5 un9 rfl rfl (OwnL.rd good_U8 hO7) (sd rfl (yl_assign rfl rfl (dn (CW.ret (tr (rr rfl (.cons rfl .nil) ?_)))))))
 have hM9 : (s_l1Num p_n) = (toS ([IntKind.wrap .u8 (IntKind.wrap .i64 (48 + p_n))] : List Int)) := by simp only [s_l1Num, cL]
 rw [hM9]
 exact ⟨rfl, (okS_toS (Nat.le_of_ble_eq_true rfl)), (Ex.trans (Ex.refl w) hE6)⟩
theorem c_s_l24Text {A1 : Option Addr} {c1 : Nat} {A2 : Option Addr} {c2 : Nat} {w : World} (p_t : DTable) (h1 : RdS w (Iv 0 w.heap.size) (RF e_Str) 1 A1 p_t.Cols.length c1 p_t.Cols) (h2 : RdS w (Iv 0 w.heap.size) (RF e_Idx) 3 A2 p_t.Idxs.length c2 p_t.Idxs) (o3 : ok_Table p_t) (pre0 : s_GoodTable p_t = true) : Cal Tryd.prog 12 #[.agg #[.string (bs (p_t.Name)), .slice A1 p_t.Cols.length c1, .slice A2 p_t.Idxs.length c2]] w fun v w' => v = .string (bs ((s_l24Text p_t))) ∧ Ex w w' := by
 have hol4 : p_t.Name.length ≤ 1073741824 := o3.1
 have hol5 := o3.2.1.1
 have hol6 := o3.2.2.1
 have hgt := f_s_GoodTable pre0
 have hgn := gt_name pre0
 have hjc := join_cols pre0
 rw [← Join_eq] at hjc
 refine Cal.of func12 rfl ntmps12 rfl (CW.seq (CW.region (sd rfl (yl_box rfl rfl rfl ?_))))
 intro b7 w8 hs9 hz10 hB11 hE12
 refine sd rfl (yl_assign rfl rfl (dn (CW.seq ?_)))
 have hol13 : p_t.Name.length ≤ 1073741824 := o3.1
 have q14 := RdS.ex good_Str h1 hE12
 have hol16 : p_t.Name.length ≤ 1073741824 := o3.1
 have hol17 : p_t.Name.length ≤ 1073741824 := o3.1
 refine CW.drawsI 9 (vgetI ([.pointer (some ⟨b7, 0 + 0, none⟩), .string (bs (p_t.Name)), .string (bs (p_t.Name ++ ([40] : Str))), .pointer (some ⟨b7, 0 + 1, none⟩), .slice A1 p_t.Cols.length c1, .string (bs ((s_l24Join p_t.Cols ([44] : Str)))), .string (bs ((p_t.Name ++ ([40] : Str)) ++ (s_l24Join p_t.Cols ([44] : Str)))), .string (bs (((p_t.Name ++ ([40] : Str)) ++ (s_l24Join p_t.Cols ([44] : Str))) ++ ([41] : Str))), .string (bs (((p_t.Name ++ ([40] : Str)) ++ (s_l24Join p_t.Cols ([44] : Str))) ++ ([41] : Str)))].map DetI)) Tryd.follows rfl rfl rfl rfl rfl rfl (vgetI_stable (stD _)) ⟨?_, ?_, ?_, ?_, ?_, ?_, ?_, ?_, ?_, trivial⟩ ?_
 ·exact oI rfl fun h => yl_fieldAddr fd31_0 rfl (h.old 1 _ rfl rfl) kI
 ·exact oI rfl fun h => yl_load1 ty9 rfl (h.dt 0 6 rfl rfl rfl) (((Box.ex hB11 h.ex).cell 0).trans rfl) kI
 ·intro L29 w30 hi31
  have hE32 := hi31.ex
  have hE32z := Ex.size hE32
  have hol34 : p_t.Name.length ≤ 1073741824 := o3.1
  exact os rfl ((yl_sadd (a := p_t.Name) (b := ([40] : Str)) rfl (hi31.dt 1 7 rfl rfl rfl) rfl (by first | omega | (simp only [List.length_append, List.length_cons, List.length_nil, List.length_take, List.length_drop, toS_length]; omega)) kI))
 ·exact oI rfl fun h => yl_fieldAddr fd31_1 rfl (h.old 1 _ rfl rfl) kI
 ·exact oI rfl fun h => yl_load1 ty22 rfl (h.dt 3 9 rfl rfl rfl) (((Box.ex hB11 h.ex).cell 1).trans rfl) kI
 ·intro L46 w47 hi48
  have hE49 := hi48.ex
  exact OpR.op' rfl (yl_call en23 rfl (oc (hi48.dt 4 10 rfl rfl rfl) (oc rfl oz)) (Cal.mono (c_s_l24Join p_t.Cols ([44] : Str) (RdS.up (RdS.ex good_Str q14 hE49) good_Str) o3.2.1 (okS.lit rfl)) fun _ _ h => h))
 ·intro L55 w56 hi57
  have hE58 := hi57.ex
  have hE58z := Ex.size hE58
  have hol61 : p_t.Name.length ≤ 1073741824 := o3.1
  exact os rfl ((yl_sadd (a := (p_t.Name ++ ([40] : Str))) (b := (s_l24Join p_t.Cols ([44] : Str))) rfl (hi57.dt 2 8 rfl rfl rfl) (hi57.dt 5 11 rfl rfl rfl) (by first | omega | (simp only [List.length_append, List.length_cons, List.length_nil, List.length_take, List.length_drop, toS_length]; omega)) kI))
 ·intro L62 w63 hi64
  have hE65 := hi64.ex
  have hE65z := Ex.size hE65
  have hol67 : p_t.Name.length ≤ 1073741824 := o3.1
  exact os rfl ((yl_sadd (a := ((p_t.Name ++ ([40] : Str)) ++ (s_l24Join p_t.Cols ([44] : Str)))) (b := ([41] : Str)) rfl (hi64.dt 6 12 rfl rfl rfl) rfl (by first | omega | (simp only [List.length_append, List.length_cons, List.length_nil, List.length_take, List.length_drop, toS_length]; omega)) kI))
 ·exact oI rfl fun h => yl_assign rfl (h.dt 7 13 rfl rfl rfl) kI
 ·intro fl76 fh77 L73 w74 hp75
  have hE78 := hp75.ex
  have hE78z := Ex.size hE78
  refine dn (CW.sub (Sub.cons (d := 1) (hp75.old 1 _ rfl rfl) (Sub.cons (d := 3) (hp75.nt 8 3 rfl rfl rfl) (Sub.nil _))) (CW.seq (CW.seq (CW.region (sd rfl (yl_fieldAddr fd31_2 rfl rfl ?_))))))
  have q81 := Box.ex hB11 hE78
  refine sd rfl (yl_load1 ty29 rfl rfl ((q81.cell 2).trans rfl) (sd rfl (yl_len un29 rfl rfl (sd rfl (yl_move rfl rfl (dn (CW.block (CW.loop (fun m132 L133 w134 => ∃ (k82 : Nat) (x131 : Str), m132 = p_t.Idxs.length - k82 ∧ k82 ≤ p_t.Idxs.length ∧ w74.heap.size ≤ w134.heap.size ∧ lkp L133 1 = some (.pointer (some ⟨b7, 0, none⟩)) ∧ lkp L133 3 = some (.string (bs (x131))) ∧ lkp L133 15 = some (.slice A2 p_t.Idxs.length c2) ∧ lkp L133 16 = some (.int .i64 ((p_t.Idxs.length : Int))) ∧ lkp L133 17 = some (.int .i64 ((k82 : Int))) ∧ Box w134 b7 31 [.string (bs (p_t.Name)), .slice A1 p_t.Cols.length c1, .slice A2 p_t.Idxs.length c2] ∧ RdS w134 (Iv 0 w.heap.size) (RF e_Str) 1 A1 p_t.Cols.length c1 p_t.Cols ∧ RdS w134 (Iv 0 w.heap.size) (RF e_Idx) 3 A2 p_t.Idxs.length c2 p_t.Idxs ∧ Ex w w134 ∧ x131.length ≤ p_t.Name.length + 1 + (s_l24Join p_t.Cols ([44] : Str)).length + 1 + 8589934592 * (k82 - 0) ∧ loopM (B_s_l24Text_0 p_t) (p_t.Idxs.length - k82) k82 (x131) = loopM (B_s_l24Text_0 p_t) (p_t.Idxs.length - 0) 0 (((p_t.Name ++ ([40] : Str)) ++ (s_l24Join p_t.Cols ([44] : Str))) ++ ([41] : Str))) (p_t.Idxs.length - 0) ?_ ?_))))))))
  ·exact ⟨0, ((p_t.Name ++ ([40] : Str)) ++ (s_l24Join p_t.Cols ([44] : Str))) ++ ([41] : Str), rfl, (by omega), Nat.le_refl _, rfl, rfl, rfl, rfl, rfl, q81, (RdS.ex good_Str q14 hE78), (RdS.ex good_Idx (RdS.ex good_Idx h2 hE12) hE78), (Ex.trans (Ex.trans (Ex.refl w) hE12) hE78), (by first | (simp; done) | (first | omega | (simp only [List.length_append, List.length_cons, List.length_nil, List.length_set, toS_length]; omega))), rfl⟩
  ·rintro m140 L141 w142 ⟨k82, x131, rfl, hk143, hsz145, hl146, hl147, hl148, hl149, hl150, hf151, hf152, hf153, hf154, hln155, hI144⟩
   refine CW.sub (Sub.cons hl146 (Sub.cons hl147 (Sub.cons hl148 (Sub.cons hl149 (Sub.cons hl150 (Sub.nil _)))))) ?_
   have hf151z := Box.lt hf151
   have hf154z := Ex.size hf154
   have hbg156 := RdS.big hf153
   rcases Nat.lt_or_ge k82 p_t.Idxs.length with hlt157 | hlt157
   ·have hgi := gt_idx pre0 hlt157
    refine CW.seq (CW.region (sd rfl (yl_lss rfl rfl rfl (dn (CW.seq (CW.cond_t rfl (lt_t hlt157) (CW.skip (tn ?_))))))))
    refine CW.seq (CW.block (CW.seq (CW.region ?_)))
    obtain ⟨eb158, eo158, _, eA158, _, ebl158, _, eR158, eC158⟩ := RdS.aD hf153 d_Idx (i := k82)
    obtain rfl := eR158
    have eC158 : Cells w142 eb158 (eo158 + k82 * 3) [.string (bs ((p_t.Idxs.getD k82 d_Idx).Name)), .int .i64 ((p_t.Idxs.getD k82 d_Idx).Col), .int .i64 ((p_t.Idxs.getD k82 d_Idx).Stage)] := eC158
    refine sd rfl (yl_ixN un29 ty48 rfl rfl rfl eA158 (sd rfl (yl_loadN ty48 rfl rfl eC158 rfl (sd rfl (yl_alloc ty48 (cs := [.string (bs (([] : Str))), .int .i64 (0), .int .i64 (0)]) rfl rfl ?_)))))
    intro b159 w160 hs161 hz162 hB163 hE164
    refine SeqR.u rfl rfl (yl_store (vs := [.string (bs ((p_t.Idxs.getD k82 d_Idx).Name)), .int .i64 ((p_t.Idxs.getD k82 d_Idx).Col), .int .i64 ((p_t.Idxs.getD k82 d_Idx).Stage)]) ty48 rfl rfl rfl rfl rfl rfl hB163 (Nat.le_of_ble_eq_true rfl) ?_)
    intro w165 hB166 hO167
    have hB166 : Box w165 b159 48 [.string (bs ((p_t.Idxs.getD k82 d_Idx).Name)), .int .i64 ((p_t.Idxs.getD k82 d_Idx).Col), .int .i64 ((p_t.Idxs.getD k82 d_Idx).Stage)] := hB166
    have hO167z := hO167.size
    refine dn ?_
    have hol168 : ((p_t.Idxs.getD k82 d_Idx).Name).length ≤ 1073741824 := (okL.getD o3.2.2 ok_d_Idx _)
    have hol169 : ((p_t.Idxs.getD k82 d_Idx).Name).length ≤ 1073741824 := (okL.getD o3.2.2 ok_d_Idx _)
    have q171 := Box.only (Box.ex hf151 hE164) hO167 (by omega)
    have q173 := RdS.only good_Str (RdS.ex good_Str hf152 hE164) hO167 (by simp only [Iv]; omega)
    obtain ⟨eb174, eo174, _, eA174, _, ebl174, _, eR174, eC174⟩ := RdS.atD q173 d_Str (i := ((p_t.Idxs.getD k82 d_Idx).Col).toNat) (by first | omega | assumption | (simp only [wI] at *; omega))
    obtain rfl := eR174
    have eC174 : Cells w165 eb174 (eo174 + (((p_t.Idxs.getD k82 d_Idx).Col).toNat) * 1) [.string (bs ((p_t.Cols.getD (((p_t.Idxs.getD k82 d_Idx).Col).toNat) d_Str)))] := eC174
    have hol175 : ((p_t.Idxs.getD k82 d_Idx).Name).length ≤ 1073741824 := (okL.getD o3.2.2 ok_d_Idx _)
    have hol176 : (p_t.Cols.getD (((p_t.Idxs.getD k82 d_Idx).Col).toNat) d_Str).length ≤ 1073741824 := (okL.getD o3.2.1 ok_d_Str _)
    have hol177 : ((p_t.Idxs.getD k82 d_Idx).Name).length ≤ 1073741824 := (okL.getD o3.2.2 ok_d_Idx _)
    have hol178 : (p_t.Cols.getD (((p_t.Idxs.getD k82 d_Idx).Col).toNat) d_Str).length ≤ 1073741824 := (okL.getD o3.2.1 ok_d_Str _)
    have hol181 : ((p_t.Idxs.getD k82 d_Idx).Name).length ≤ 1073741824 := (okL.getD o3.2.2 ok_d_Idx _)
    have hol182 : (p_t.Cols.getD (((p_t.Idxs.getD k82 d_Idx).Col).toNat) d_Str).length ≤ 1073741824 := (okL.getD o3.2.1 ok_d_Str _)
    have hol183 : ((p_t.Idxs.getD k82 d_Idx).Name).length ≤ 1073741824 := (okL.getD o3.2.2 ok_d_Idx _)
    have hol184 : (p_t.Cols.getD (((p_t.Idxs.getD k82 d_Idx).Col).toNat) d_Str).length ≤ 1073741824 := (okL.getD o3.2.1 ok_d_Str _)
    have hrf185 := rf_l1Num ((p_t.Idxs.getD k82 d_Idx).Stage)
    refine CW.drawsI 19 (vgetI [DetI (.string (bs (x131))), DetI (.pointer (some ⟨b159, 0 + 0, none⟩)), DetI (.string (bs ((p_t.Idxs.getD k82 d_Idx).Name))), DetI (.string (bs (([32] : Str) ++ ((p_t.Idxs.getD k82 d_Idx).Name)))), DetI (.string (bs ((([32] : Str) ++ ((p_t.Idxs.getD k82 d_Idx).Name)) ++ ([47] : Str)))), DetI (.pointer (some ⟨b7, 0 + 1, none⟩)), DetI (.slice A1 p_t.Cols.length c1), DetI (.pointer (some ⟨b159, 0 + 1, none⟩)), DetI (.int .i64 ((p_t.Idxs.getD k82 d_Idx).Col)), DetI (.pointer (some ⟨eb174, eo174 + (((p_t.Idxs.getD k82 d_Idx).Col).toNat) * 1, none⟩)), DetI (.string (bs ((p_t.Cols.getD (((p_t.Idxs.getD k82 d_Idx).Col).toNat) d_Str)))), DetI (.string (bs (((([32] : Str) ++ ((p_t.Idxs.getD k82 d_Idx).Name)) ++ ([47] : Str)) ++ (p_t.Cols.getD (((p_t.Idxs.getD k82 d_Idx).Col).toNat) d_Str)))), DetI (.string (bs ((((([32] : Str) ++ ((p_t.Idxs.getD k82 d_Idx).Name)) ++ ([47] : Str)) ++ (p_t.Cols.getD (((p_t.Idxs.getD k82 d_Idx).Col).toNat) d_Str)) ++ ([47] : Str)))), DetI (.pointer (some ⟨b159, 0 + 2, none⟩)), DetI (.int .i64 ((p_t.Idxs.getD k82 d_Idx).Stage)), fun lo hi v wq => v = .string (bs ((s_l1Num ((p_t.Idxs.getD k82 d_Idx).Stage)))) ∧ okS (s_l1Num ((p_t.Idxs.getD k82 d_Idx).Stage)), DetI (.string (bs (((((([32] : Str) ++ ((p_t.Idxs.getD k82 d_Idx).Name)) ++ ([47] : Str)) ++ (p_t.Cols.getD (((p_t.Idxs.getD k82 d_Idx).Col).toNat) d_Str)) ++ ([47] : Str)) ++ (s_l1Num ((p_t.Idxs.getD k82 d_Idx).Stage))))), DetI (.string (bs (x131 ++ (((((([32] : Str) ++ ((p_t.Idxs.getD k82 d_Idx).Name)) ++ ([47] : Str)) ++ (p_t.Cols.getD (((p_t.Idxs.getD k82 d_Idx).Col).toNat) d_Str)) ++ ([47] : Str)) ++ (s_l1Num ((p_t.Idxs.getD k82 d_Idx).Stage)))))), DetI (.string (bs (x131 ++ (((((([32] : Str) ++ ((p_t.Idxs.getD k82 d_Idx).Name)) ++ ([47] : Str)) ++ (p_t.Cols.getD (((p_t.Idxs.getD k82 d_Idx).Col).toNat) d_Str)) ++ ([47] : Str)) ++ (s_l1Num ((p_t.Idxs.getD k82 d_Idx).Stage))))))]) Tryd.follows rfl rfl rfl rfl rfl rfl (vgetI_stable ⟨StableI.det _, StableI.det _, StableI.det _, StableI.det _, StableI.det _, StableI.det _, StableI.det _, StableI.det _, StableI.det _, StableI.det _, StableI.det _, StableI.det _, StableI.det _, StableI.det _, StableI.det _, (fun _ _ _ _ _ ⟨hv, ho180⟩ e => ⟨hv, ho180⟩), StableI.det _, StableI.det _, StableI.det _, trivial⟩) ⟨?_, ?_, ?_, ?_, ?_, ?_, ?_, ?_, ?_, ?_, ?_, ?_, ?_, ?_, ?_, ?_, ?_, ?_, ?_, trivial⟩ ?_
    ·exact oI rfl fun h => yl_move rfl (h.old 3 _ rfl rfl) kI
    ·exact oI rfl fun h => yl_fieldAddr fd48_0 rfl (h.old 5 _ rfl rfl) kI
    ·exact oI rfl fun h => yl_load1 ty9 rfl (h.dt 1 22 rfl rfl rfl) (((Box.ex hB166 h.ex).cell 0).trans rfl) kI
    ·intro L202 w203 hi204
     have hE205 := hi204.ex
     have hE205z := Ex.size hE205
     have hol207 : ((p_t.Idxs.getD k82 d_Idx).Name).length ≤ 1073741824 := (okL.getD o3.2.2 ok_d_Idx _)
     exact os rfl ((yl_sadd (a := ([32] : Str)) (b := ((p_t.Idxs.getD k82 d_Idx).Name)) rfl rfl (hi204.dt 2 23 rfl rfl rfl) (by first | omega | (simp only [List.length_append, List.length_cons, List.length_nil, List.length_take, List.length_drop, toS_length]; omega)) kI))
    ·intro L208 w209 hi210
     have hE211 := hi210.ex
     have hE211z := Ex.size hE211
     have hol213 : ((p_t.Idxs.getD k82 d_Idx).Name).length ≤ 1073741824 := (okL.getD o3.2.2 ok_d_Idx _)
     exact os rfl ((yl_sadd (a := (([32] : Str) ++ ((p_t.Idxs.getD k82 d_Idx).Name))) (b := ([47] : Str)) rfl (hi210.dt 3 24 rfl rfl rfl) rfl (by first | omega | (simp only [List.length_append, List.length_cons, List.length_nil, List.length_take, List.length_drop, toS_length]; omega)) kI))
    ·exact oI rfl fun h => yl_fieldAddr fd31_1 rfl (h.old 1 _ rfl rfl) kI
    ·exact oI rfl fun h => yl_load1 ty22 rfl (h.dt 5 26 rfl rfl rfl) (((Box.ex q171 h.ex).cell 1).trans rfl) kI
    ·exact oI rfl fun h => yl_fieldAddr fd48_1 rfl (h.old 5 _ rfl rfl) kI
    ·exact oI rfl fun h => yl_load1 ty3 rfl (h.dt 7 28 rfl rfl rfl) (((Box.ex hB166 h.ex).cell 1).trans rfl) kI
    ·intro L236 w237 hi238
     have hE239 := hi238.ex
     have hE239z := Ex.size hE239
     exact os rfl ((yl_indexAddr un22 ty9 rfl (hi238.dt 6 27 rfl rfl rfl) (hi238.dt 8 29 rfl rfl rfl) eA174 (by first | omega | assumption | (simp only [wI] at *; omega)) (by first | omega | assumption | (simp only [wI] at *; omega)) kI))
    ·exact oI rfl fun h => yl_load1 ty9 rfl (h.dt 9 30 rfl rfl rfl) ((Cells.ex eC174 h.ex) 0 _ rfl) kI
    ·intro L248 w249 hi250
     have hE251 := hi250.ex
     have hE251z := Ex.size hE251
     have hol254 : ((p_t.Idxs.getD k82 d_Idx).Name).length ≤ 1073741824 := (okL.getD o3.2.2 ok_d_Idx _)
     have hol255 : (p_t.Cols.getD (((p_t.Idxs.getD k82 d_Idx).Col).toNat) d_Str).length ≤ 1073741824 := (okL.getD o3.2.1 ok_d_Str _)
     exact os rfl ((yl_sadd (a := ((([32] : Str) ++ ((p_t.Idxs.getD k82 d_Idx).Name)) ++ ([47] : Str))) (b := (p_t.Cols.getD (((p_t.Idxs.getD k82 d_Idx).Col).toNat) d_Str)) rfl (hi250.dt 4 25 rfl rfl rfl) (hi250.dt 10 31 rfl rfl rfl) (by first | omega | (simp only [List.length_append, List.length_cons, List.length_nil, List.length_take, List.length_drop, toS_length]; omega)) kI))
    ·intro L256 w257 hi258
     have hE259 := hi258.ex
     have hE259z := Ex.size hE259
     have hol261 : ((p_t.Idxs.getD k82 d_Idx).Name).length ≤ 1073741824 := (okL.getD o3.2.2 ok_d_Idx _)
     have hol262 : (p_t.Cols.getD (((p_t.Idxs.getD k82 d_Idx).Col).toNat) d_Str).length ≤ 1073741824 := (okL.getD o3.2.1 ok_d_Str _)
     exact os rfl ((yl_sadd (a := (((([32] : Str) ++ ((p_t.Idxs.getD k82 d_Idx).Name)) ++ ([47] : Str)) ++ (p_t.Cols.getD (((p_t.Idxs.getD k82 d_Idx).Col).toNat) d_Str))) (b := ([47] : Str)) rfl (hi258.dt 11 32 rfl rfl rfl) rfl (by first | omega | (simp only [List.length_append, List.length_cons, List.length_nil, List.length_take, List.length_drop, toS_length]; omega)) kI))
    ·exact oI rfl fun h => yl_fieldAddr fd48_2 rfl (h.old 5 _ rfl rfl) kI
    ·exact oI rfl fun h => yl_load1 ty3 rfl (h.dt 13 34 rfl rfl rfl) (((Box.ex hB166 h.ex).cell 2).trans rfl) kI
    ·intro L274 w275 hi276
     have hE277 := hi276.ex
     have hE277z := Ex.size hE277
     refine OpR.op' rfl (yl_call en24 rfl (oc (hi276.dt 14 35 rfl rfl rfl) oz) (Cal.mono (c_s_l1Num ((p_t.Idxs.getD k82 d_Idx).Stage) (by first | omega | assumption | (simp only [wI] at *; omega))) ?_))
     rintro v281 w279 ⟨rfl, ho280, hE282⟩
     exact ⟨⟨rfl, ho280⟩, hE282⟩
    ·intro L283 w284 hi285
     have hE286 := hi285.ex
     have hE286z := Ex.size hE286
     obtain ⟨lo289, hh290, _, hx288, hr291, hr292, hr293, rfl, h294⟩ := hi285.dep 15 36 rfl rfl
     have hol295 : ((p_t.Idxs.getD k82 d_Idx).Name).length ≤ 1073741824 := (okL.getD o3.2.2 ok_d_Idx _)
     have hol296 : (p_t.Cols.getD (((p_t.Idxs.getD k82 d_Idx).Col).toNat) d_Str).length ≤ 1073741824 := (okL.getD o3.2.1 ok_d_Str _)
     have hol297 : (s_l1Num ((p_t.Idxs.getD k82 d_Idx).Stage)).length ≤ 1073741824 := h294
     exact os rfl ((yl_sadd (a := ((((([32] : Str) ++ ((p_t.Idxs.getD k82 d_Idx).Name)) ++ ([47] : Str)) ++ (p_t.Cols.getD (((p_t.Idxs.getD k82 d_Idx).Col).toNat) d_Str)) ++ ([47] : Str))) (b := (s_l1Num ((p_t.Idxs.getD k82 d_Idx).Stage))) rfl (hi285.dt 12 33 rfl rfl rfl) hx288 (by first | omega | (simp only [List.length_append, List.length_cons, List.length_nil, List.length_take, List.length_drop, toS_length]; omega)) kI))
    ·intro L298 w299 hi300
     have hE301 := hi300.ex
     have hE301z := Ex.size hE301
     have hol304 : ((p_t.Idxs.getD k82 d_Idx).Name).length ≤ 1073741824 := (okL.getD o3.2.2 ok_d_Idx _)
     have hol305 : (p_t.Cols.getD (((p_t.Idxs.getD k82 d_Idx).Col).toNat) d_Str).length ≤ 1073741824 := (okL.getD o3.2.1 ok_d_Str _)
     exact os rfl ((yl_sadd (a := x131) (b := (((((([32] : Str) ++ ((p_t.Idxs.getD k82 d_Idx).Name)) ++ ([47] : Str)) ++ (p_t.Cols.getD (((p_t.Idxs.getD k82 d_Idx).Col).toNat) d_Str)) ++ ([47] : Str)) ++ (s_l1Num ((p_t.Idxs.getD k82 d_Idx).Stage)))) rfl (hi300.dt 0 21 rfl rfl rfl) (hi300.dt 16 37 rfl rfl rfl) (by first | omega | (simp only [List.length_append, List.length_cons, List.length_nil, List.length_take, List.length_drop, toS_length]; omega)) kI))
    ·exact oI rfl fun h => yl_assign rfl (h.dt 17 38 rfl rfl rfl) kI
    ·intro fl314 fh315 L311 w312 hp313
     have hE316 := hp313.ex
     have hE316z := Ex.size hE316
     refine SeqR.done (bn (tn (CW.sub (Sub.cons (d := 1) (hp313.old 1 _ rfl rfl) (Sub.cons (d := 3) (hp313.nt 18 3 rfl rfl rfl) (Sub.cons (d := 15) (hp313.old 15 _ rfl rfl) (Sub.cons (d := 16) (hp313.old 16 _ rfl rfl) (Sub.cons (d := 17) (hp313.old 17 _ rfl rfl) (Sub.nil _)))))) (CW.region (sd rfl (yl_inc rfl rfl rfl (by omega) (sd rfl (yl_move rfl rfl (dn ?_)))))))))
     have hB322 : B_s_l24Text_0 p_t k82 (x131) = .cont (x131 ++ (((((([32] : Str) ++ ((p_t.Idxs.getD k82 d_Idx).Name)) ++ ([47] : Str)) ++ (p_t.Cols.getD (((p_t.Idxs.getD k82 d_Idx).Col).toNat) d_Str)) ++ ([47] : Str)) ++ (s_l1Num ((p_t.Idxs.getD k82 d_Idx).Stage)))) := by simp only [B_s_l24Text_0, cL]
     exact ⟨p_t.Idxs.length - (k82 + 1), by omega, k82 + 1, x131 ++ (((((([32] : Str) ++ ((p_t.Idxs.getD k82 d_Idx).Name)) ++ ([47] : Str)) ++ (p_t.Cols.getD (((p_t.Idxs.getD k82 d_Idx).Col).toNat) d_Str)) ++ ([47] : Str)) ++ (s_l1Num ((p_t.Idxs.getD k82 d_Idx).Stage))), rfl, hlt157, (by omega), rfl, rfl, rfl, rfl, rfl, (Box.ex q171 hE316), (RdS.ex good_Str q173 hE316), (RdS.ex good_Idx (RdS.only good_Idx (RdS.ex good_Idx hf153 hE164) hO167 (by simp only [Iv]; omega)) hE316), (Ex.trans (Below.only (Ex.trans hf154 hE164) hO167 (by omega)) hE316), (by first | omega | (simp only [List.length_append, List.length_cons, List.length_nil, List.length_set, toS_length]; omega)), (loopM.cont hlt157 hB322).symm.trans hI144⟩
   ·refine CW.seq (CW.region (sd rfl (yl_lss rfl rfl rfl (dn (CW.seq (CW.cond_f rfl (lt_f hlt157) (CW.exit (tx ?_))))))))
    refine tx ?_
    have hL331 : loopM (B_s_l24Text_0 p_t) (p_t.Idxs.length - 0) 0 (((p_t.Name ++ ([40] : Str)) ++ (s_l24Join p_t.Cols ([44] : Str))) ++ ([41] : Str)) = .done (x131) := hI144.symm.trans (loopM.stop hlt157)
    refine bx (tn (CW.seq (CW.region (sd rfl (yl_move rfl rfl (sd rfl (yl_assign rfl rfl (dn (CW.ret ?_)))))))))
    refine rr rfl (.cons rfl .nil) ?_
    have hM332 : (s_l24Text p_t) = (x131) := by simp only [s_l24Text, hL331, cL]
    rw [hM332]
    exact ⟨rfl, hf154⟩
theorem c_s_TableText {A1 : Option Addr} {c1 : Nat} {A2 : Option Addr} {c2 : Nat} {w : World} (p_t : DTable) (h1 : RdS w (Iv 0 w.heap.size) (RF e_Str) 1 A1 p_t.Cols.length c1 p_t.Cols) (h2 : RdS w (Iv 0 w.heap.size) (RF e_Idx) 3 A2 p_t.Idxs.length c2 p_t.Idxs) (o3 : ok_Table p_t) : Cal Tryd.prog 5 #[.agg #[.string (bs (p_t.Name)), .slice A1 p_t.Cols.length c1, .slice A2 p_t.Idxs.length c2]] w fun v w' => v = .tuple #[.string (bs ((s_TableText p_t).1)), .bool ((s_TableText p_t).2)] ∧ Ex w w' := by
 refine Cal.of func5 rfl ntmps5 rfl (CW.seq (CW.region (sd rfl (yl_box rfl rfl rfl ?_))))
 intro b7 w8 hs9 hz10 hB11 hE12
 refine sd rfl (yl_assign rfl rfl (sd rfl (yl_assign rfl rfl (dn (CW.seq (CW.seq (CW.region (sd rfl (yl_loadN ty31 rfl rfl (hB11.cells (n := 3) rfl) rfl ?_)))))))))
 have q13 := RdS.ex good_Str h1 hE12
 have q14 := RdS.ex good_Idx h2 hE12
 refine sd rfl (yl_call en11 rfl (oc rfl oz) (Cal.mono (c_s_GoodTable p_t (RdS.up q13 good_Str) (RdS.up q14 good_Idx) o3) ?_))
 rintro v16 w15 ⟨rfl, hE17⟩
 refine sd rfl (yl_not rfl rfl (dn (bcase (s_GoodTable p_t) (fun hb18 => ?_) (fun hb18 => ?_))))
 ·have hb18p := f_s_GoodTable hb18
  refine CW.cond_f rfl (not_t hb18) (CW.skip (tn (CW.seq (CW.region (sd rfl (yl_loadN ty31 rfl rfl ((Box.ex hB11 hE17).cells (n := 3) rfl) rfl (sd rfl (yl_call en12 rfl (oc rfl oz) (Cal.mono (c_s_l24Text p_t (RdS.up (RdS.ex good_Str q13 hE17) good_Str) (RdS.up (RdS.ex good_Idx q14 hE17) good_Idx) o3 hb18) ?_)))))))))
  rintro v23 w22 ⟨rfl, hE24⟩
  refine sd rfl (yl_assign rfl rfl (sd rfl (yl_assign rfl rfl (dn (CW.ret (rr rfl (.cons rfl (.cons rfl .nil)) ?_))))))
  have hM25 : (s_TableText p_t) = (((s_l24Text p_t), true)) := by simp only [s_TableText, hb18, cL]
  rw [hM25]
  exact ⟨rfl, (Ex.trans (Ex.trans (Ex.trans (Ex.refl w) hE12) hE17) hE24)⟩
 ·refine CW.cond_t rfl (not_f hb18) (CW.seq (CW.region (sd rfl (yl_assign rfl rfl (sd rfl (yl_assign rfl rfl (dn (CW.ret (tr ?_)))))))))
  refine rr rfl (.cons rfl (.cons rfl .nil)) ?_
  have hM29 : (s_TableText p_t) = ((([] : Str), false)) := by simp only [s_TableText, hb18, cL]
  rw [hM29]
  exact ⟨rfl, (Ex.trans (Ex.trans (Ex.refl w) hE12) hE17)⟩
theorem c_l_toStringS {A1 : Option Addr} {c1 : Nat} {w : World} (p_a : List Str) (h1 : RdS w (Iv 0 w.heap.size) (RF e_Str) 1 A1 p_a.length c1 p_a) (o2 : (okL okS) p_a) : Cal Tryd.prog 13 #[.slice A1 p_a.length c1] w fun v w' => ∃ A_1 c_1 lo_1 hi_1, v = .slice A_1 p_a.length c_1 ∧ OwnL w' lo_1 hi_1 9 1 (RF e_Str) A_1 p_a.length c_1 p_a ∧ (w.heap.size ≤ lo_1 ∧ lo_1 ≤ hi_1 ∧ hi_1 ≤ w'.heap.size) ∧ Ex w w' := by
 have hol3 := o2.1
 refine Cal.of func13 rfl ntmps13 rfl (CW.seq (CW.region (sd rfl (yl_assign rfl rfl (dn (CW.seq (CW.region (sd rfl (yl_move rfl rfl ?_)))))))))
 refine sd rfl (yl_len un22 rfl rfl (sd rfl (yl_make (zs := [.string (bs (([] : Str)))]) (n := p_a.length) un22 ty9 rfl rfl (Nat.le_of_ble_eq_true rfl) rfl rfl rfl (by first | omega | assumption | (simp only [wI] at *; omega)) (by first | omega | assumption | (simp only [wI] at *; omega)) ?_)))
 intro b4 w5 hs6 hz7 hB8 hE9
 have hO10 : OwnL w5 b4 (b4 + 1) 9 1 (RF e_Str) (some ⟨b4, 0, none⟩) p_a.length p_a.length (List.replicate p_a.length d_Str) := by have := OwnL.of_boxF (lo := b4) (hi := b4 + 1) (xs := (List.replicate p_a.length d_Str)) hB8 (Nat.le_refl _) (Nat.lt_succ_self _) (EncL.zerosF (enc := e_Str) (d := d_Str) rfl p_a.length) (by rw [List.length_replicate]; omega); rwa [List.length_replicate] at this
 refine sd rfl (yl_assign rfl rfl (dn (CW.seq (CW.seq (CW.region (sd rfl (yl_assign rfl rfl (dn ?_))))))))
 refine CW.block (CW.loop (fun m20 L21 w22 => ∃ (k11 : Nat) (x19 : List Str), m20 = p_a.length - k11 ∧ k11 ≤ p_a.length ∧ w5.heap.size ≤ w22.heap.size ∧ lkp L21 0 = some (.slice A1 p_a.length c1) ∧ lkp L21 3 = some (.slice (some ⟨b4, 0, none⟩) p_a.length p_a.length) ∧ lkp L21 4 = some (.int .i64 ((k11 : Int))) ∧ RdS w22 (Iv 0 w.heap.size) (RF e_Str) 1 A1 p_a.length c1 p_a ∧ OwnL w22 b4 (b4 + 1) 9 1 (RF e_Str) (some ⟨b4, 0, none⟩) p_a.length p_a.length x19 ∧ Ex w w22 ∧ loopM (B_l_toStringS_0 p_a) (p_a.length - k11) k11 (x19) = loopM (B_l_toStringS_0 p_a) (p_a.length - 0) 0 ((List.replicate p_a.length d_Str))) (p_a.length - 0) ?_ ?_)
 ·exact ⟨0, (List.replicate p_a.length d_Str), rfl, (by omega), Nat.le_refl _, rfl, rfl, rfl, (RdS.ex good_Str h1 hE9), hO10, (Ex.trans (Ex.refl w) hE9), rfl⟩
 ·rintro m25 L26 w27 ⟨k11, x19, rfl, hk28, hsz30, hl31, hl32, hl33, hf34, hf35, hf36, hI29⟩
  refine CW.sub (Sub.cons hl31 (Sub.cons hl32 (Sub.cons hl33 (Sub.nil _)))) ?_
  have hf36z := Ex.size hf36
  have hbg37 := RdS.big hf34
  rcases Nat.lt_or_ge k11 p_a.length with hlt38 | hlt38
  ·refine CW.seq (CW.seq (CW.region (sd rfl (yl_move rfl rfl (sd rfl (yl_move rfl rfl (sd rfl (yl_len un22 rfl rfl (sd rfl (yl_lss rfl rfl rfl (dn ?_)))))))))))
   refine CW.cond_t rfl (lt_t hlt38) (CW.skip (tn (CW.seq (CW.block (CW.region (sd rfl (yl_move rfl rfl (sd rfl (yl_move rfl rfl (sd rfl (yl_move rfl rfl ?_)))))))))))
   refine sd rfl (yl_move rfl rfl ?_)
   obtain ⟨eb39, eo39, _, eA39, _, ebl39, _, eR39, eC39⟩ := RdS.aD hf34 d_Str (i := k11)
   obtain rfl := eR39
   have eC39 : Cells w27 eb39 (eo39 + k11 * 1) [.string (bs ((p_a.getD k11 d_Str)))] := eC39
   refine sd rfl (yl_ixN un22 ty9 rfl rfl rfl eA39 (sd rfl (yl_load1 ty9 rfl rfl (eC39 0 _ rfl) ?_)))
   obtain ⟨eb41, eo41, _, eA41, _, ebl41, _, eR41, eC41⟩ := RdS.aD (OwnL.rd good_Str hf35) d_Str (i := k11)
   obtain rfl := eR41
   have eC41 : Cells w27 eb41 (eo41 + k11 * 1) [.string (bs ((x19.getD k11 d_Str)))] := eC41
   refine sd rfl (yl_ixN un22 ty9 rfl rfl rfl eA41 ?_)
   have hrg42 := OwnL.rng hf35 (i := k11) (by first | omega | assumption | (simp only [wI] at *; omega)) eb41 (by rw [eA41]; rfl)
   refine SeqR.u rfl rfl (yl_storeF (off := eo41) (i := k11) (d := 0) (dx := d_Str) (x' := (p_a.getD k11 d_Str)) (vs := [.string (bs ((p_a.getD k11 d_Str)))]) ty9 rfl hf35 eA41 rfl rfl rfl rfl rfl (by first | omega | assumption | (simp only [wI] at *; omega)) (Nat.le_of_ble_eq_true rfl) rfl rfl ?_)
   intro w43 hB44 hO45
   have hO45z := hO45.size
   refine SeqR.done (bn (tn (CW.region (sd rfl (yl_move rfl rfl (sd rfl (yl_inc rfl rfl rfl (by omega) (sd rfl (yl_assign rfl rfl (dn ?_))))))))))
   have hB46 : B_l_toStringS_0 p_a k11 (x19) = .cont ((x19.set k11 (p_a.getD k11 d_Str))) := by simp only [B_l_toStringS_0, cL]
   exact ⟨p_a.length - (k11 + 1), by omega, k11 + 1, (x19.set k11 (p_a.getD k11 d_Str)), rfl, hlt38, (by omega), rfl, rfl, rfl, (RdS.only good_Str hf34 hO45 (by simp only [Iv]; omega)), hB44, (Below.only hf36 hO45 (by omega)), (loopM.cont hlt38 hB46).symm.trans hI29⟩
  ·refine CW.seq (CW.seq (CW.region (sd rfl (yl_move rfl rfl (sd rfl (yl_move rfl rfl (sd rfl (yl_len un22 rfl rfl (sd rfl (yl_lss rfl rfl rfl (dn ?_)))))))))))
   refine CW.cond_f rfl (lt_f hlt38) (CW.exit (tx (tx ?_)))
   have hL49 : loopM (B_l_toStringS_0 p_a) (p_a.length - 0) 0 ((List.replicate p_a.length d_Str)) = .done (x19) := hI29.symm.trans (loopM.stop hlt38)
   refine bx (tn (CW.seq (CW.region (sd rfl (yl_move rfl rfl (sd rfl (yl_assign rfl rfl (dn (CW.ret ?_)))))))))
   refine rr rfl (.cons rfl .nil) ?_
   have hM50 : p_a = (x19) := (to_StringS _).symm.trans <| by simp only [l_toStringS, hL49, cL]
   subst hM50
   exact ⟨(some ⟨b4, 0, none⟩), p_a.length, b4, (b4 + 1), rfl, hf35, (by omega), hf36⟩
theorem c_l_toIdx {w : World} (p_a : DIdx) (o1 : ok_Idx p_a) : Cal Tryd.prog 25 #[.agg #[.string (bs (p_a.Name)), .int .i64 (p_a.Col), .int .i64 (p_a.Stage)]] w fun v w' => v = .agg #[.string (bs (p_a.Name)), .int .i64 (p_a.Col), .int .i64 (p_a.Stage)] ∧ Ex w w' := by
 have hol2 : p_a.Name.length ≤ 1073741824 := o1
 refine Cal.of func25 rfl ntmps25 rfl (CW.seq (CW.region (sd rfl (yl_box rfl rfl rfl ?_))))
 intro b3 w4 hs5 hz6 hB7 hE8
 refine sd rfl (yl_alloc ty48 (cs := [.string (bs (([] : Str))), .int .i64 (0), .int .i64 (0)]) rfl rfl ?_)
 intro b9 w10 hs11 hz12 hB13 hE14
 refine dn (CW.seq (CW.region (sd rfl (yl_alloc ty48 (cs := [.string (bs (([] : Str))), .int .i64 (0), .int .i64 (0)]) rfl rfl ?_))))
 intro b15 w16 hs17 hz18 hB19 hE20
 refine dn (CW.seq (CW.region (sd rfl (yl_fieldAddr fd45_0 rfl rfl ?_))))
 have q22 := Box.ex (Box.ex hB7 hE14) hE20
 refine sd rfl (yl_load1 ty9 rfl rfl ((q22.cell 0).trans rfl) (sd rfl (yl_fieldAddr fd48_0 rfl rfl (SeqR.u rfl rfl (yl_store (vs := [.string (bs (p_a.Name))]) ty9 rfl rfl rfl rfl rfl rfl hB19 (Nat.le_of_ble_eq_true rfl) ?_)))))
 intro w23 hB24 hO25
 have hB24 : Box w23 b15 48 [.string (bs (p_a.Name)), .int .i64 (0), .int .i64 (0)] := hB24
 have hO25z := hO25.size
 refine dn (CW.seq (CW.region (sd rfl (yl_fieldAddr fd45_1 rfl rfl ?_))))
 have q26 := Box.only q22 hO25 (by omega)
 refine sd rfl (yl_load1 ty3 rfl rfl ((q26.cell 1).trans rfl) (sd rfl (yl_fieldAddr fd48_1 rfl rfl (SeqR.u rfl rfl (yl_store (vs := [.int .i64 (p_a.Col)]) ty3 rfl rfl rfl rfl rfl rfl hB24 (Nat.le_of_ble_eq_true rfl) ?_)))))
 intro w27 hB28 hO29
 have hB28 : Box w27 b15 48 [.string (bs (p_a.Name)), .int .i64 (p_a.Col), .int .i64 (0)] := hB28
 have hO29z := hO29.size
 refine dn (CW.seq (CW.region (sd rfl (yl_fieldAddr fd45_2 rfl rfl (sd rfl (yl_load1 ty3 rfl rfl (((Box.only q26 hO29 (by omega)).cell 2).trans rfl) (sd rfl (yl_fieldAddr fd48_2 rfl rfl (SeqR.u rfl rfl (yl_store (vs := [.int .i64 (p_a.Stage)]) ty3 rfl rfl rfl rfl rfl rfl hB28 (Nat.le_of_ble_eq_true rfl) ?_))))))))))
 intro w31 hB32 hO33
 have hB32 : Box w31 b15 48 [.string (bs (p_a.Name)), .int .i64 (p_a.Col), .int .i64 (p_a.Stage)] := hB32
 have hO33z := hO33.size
 refine dn (CW.seq (CW.region (sd rfl (yl_loadN ty48 rfl rfl (hB32.cells (n := 3) rfl) rfl (SeqR.u rfl rfl (yl_store (vs := [.string (bs (p_a.Name)), .int .i64 (p_a.Col), .int .i64 (p_a.Stage)]) ty48 rfl rfl rfl rfl rfl rfl (Box.only (Box.only (Box.only (Box.ex hB13 hE20) hO25 (by omega)) hO29 (by omega)) hO33 (by omega)) (Nat.le_of_ble_eq_true rfl) ?_))))))
 intro w38 hB39 hO40
 have hB39 : Box w38 b9 48 [.string (bs (p_a.Name)), .int .i64 (p_a.Col), .int .i64 (p_a.Stage)] := hB39
 have hO40z := hO40.size
 refine dn (CW.ret (rr rfl (.cons ⟨_, rfl, run_loadN ty48 (cs := [.string (bs (p_a.Name)), .int .i64 (p_a.Col), .int .i64 (p_a.Stage)]) rfl (hB39.cells (n := 3) rfl)⟩ .nil) ?_))
 have hM41 : p_a = (p_a) := (to_Idx _).symm.trans <| by simp only [l_toIdx, cL]
 rw [hM41]
 exact ⟨rfl, (Below.only (Below.only (Below.only (Below.only (Ex.trans (Ex.trans (Ex.trans (Ex.refl w) hE8) hE14) hE20) hO25 (by omega)) hO29 (by omega)) hO33 (by omega)) hO40 (by omega))⟩
theorem c_l_toIdxS {A1 : Option Addr} {c1 : Nat} {w : World} (p_a : List DIdx) (h1 : RdS w (Iv 0 w.heap.size) (RF e_Idx) 3 A1 p_a.length c1 p_a) (o2 : (okL ok_Idx) p_a) : Cal Tryd.prog 14 #[.slice A1 p_a.length c1] w fun v w' => ∃ A_1 c_1 lo_1 hi_1, v = .slice A_1 p_a.length c_1 ∧ OwnL w' lo_1 hi_1 48 3 (RF e_Idx) A_1 p_a.length c_1 p_a ∧ (w.heap.size ≤ lo_1 ∧ lo_1 ≤ hi_1 ∧ hi_1 ≤ w'.heap.size) ∧ Ex w w' := by
 have hol3 := o2.1
 refine Cal.of func14 rfl ntmps14 rfl (CW.seq (CW.region (sd rfl (yl_assign rfl rfl (dn (CW.seq (CW.region (sd rfl (yl_move rfl rfl ?_)))))))))
 refine sd rfl (yl_len un23 rfl rfl (sd rfl (yl_make (zs := [.string (bs (([] : Str))), .int .i64 (0), .int .i64 (0)]) (n := p_a.length) un29 ty48 rfl rfl (Nat.le_of_ble_eq_true rfl) rfl rfl rfl (by first | omega | assumption | (simp only [wI] at *; omega)) (by first | omega | assumption | (simp only [wI] at *; omega)) ?_)))
 intro b4 w5 hs6 hz7 hB8 hE9
 have hO10 : OwnL w5 b4 (b4 + 1) 48 3 (RF e_Idx) (some ⟨b4, 0, none⟩) p_a.length p_a.length (List.replicate p_a.length d_Idx) := by have := OwnL.of_boxF (lo := b4) (hi := b4 + 1) (xs := (List.replicate p_a.length d_Idx)) hB8 (Nat.le_refl _) (Nat.lt_succ_self _) (EncL.zerosF (enc := e_Idx) (d := d_Idx) rfl p_a.length) (by rw [List.length_replicate]; omega); rwa [List.length_replicate] at this
 refine sd rfl (yl_assign rfl rfl (dn (CW.seq (CW.seq (CW.region (sd rfl (yl_assign rfl rfl (dn ?_))))))))
 refine CW.block (CW.loop (fun m23 L24 w25 => ∃ (k11 : Nat) (x22 : List DIdx), m23 = p_a.length - k11 ∧ k11 ≤ p_a.length ∧ w5.heap.size ≤ w25.heap.size ∧ lkp L24 0 = some (.slice A1 p_a.length c1) ∧ lkp L24 3 = some (.slice (some ⟨b4, 0, none⟩) p_a.length p_a.length) ∧ lkp L24 4 = some (.int .i64 ((k11 : Int))) ∧ RdS w25 (Iv 0 w.heap.size) (RF e_Idx) 3 A1 p_a.length c1 p_a ∧ OwnL w25 b4 (b4 + 1) 48 3 (RF e_Idx) (some ⟨b4, 0, none⟩) p_a.length p_a.length x22 ∧ Ex w w25 ∧ loopM (B_l_toIdxS_0 p_a) (p_a.length - k11) k11 (x22) = loopM (B_l_toIdxS_0 p_a) (p_a.length - 0) 0 ((List.replicate p_a.length d_Idx))) (p_a.length - 0) ?_ ?_)
 ·exact ⟨0, (List.replicate p_a.length d_Idx), rfl, (by omega), Nat.le_refl _, rfl, rfl, rfl, (RdS.ex good_Idx h1 hE9), hO10, (Ex.trans (Ex.refl w) hE9), rfl⟩
 ·rintro m28 L29 w30 ⟨k11, x22, rfl, hk31, hsz33, hl34, hl35, hl36, hf37, hf38, hf39, hI32⟩
  refine CW.sub (Sub.cons hl34 (Sub.cons hl35 (Sub.cons hl36 (Sub.nil _)))) ?_
  have hf39z := Ex.size hf39
  have hbg40 := RdS.big hf37
  rcases Nat.lt_or_ge k11 p_a.length with hlt41 | hlt41
  ·refine CW.seq (CW.seq (CW.region (sd rfl (yl_move rfl rfl (sd rfl (yl_move rfl rfl (sd rfl (yl_len un23 rfl rfl (sd rfl (yl_lss rfl rfl rfl (dn ?_)))))))))))
   refine CW.cond_t rfl (lt_t hlt41) (CW.skip (tn (CW.seq (CW.block (CW.region (sd rfl (yl_move rfl rfl (sd rfl (yl_move rfl rfl (sd rfl (yl_move rfl rfl ?_)))))))))))
   refine sd rfl (yl_move rfl rfl ?_)
   obtain ⟨eb42, eo42, _, eA42, _, ebl42, _, eR42, eC42⟩ := RdS.aD hf37 d_Idx (i := k11)
   obtain rfl := eR42
   have eC42 : Cells w30 eb42 (eo42 + k11 * 3) [.string (bs ((p_a.getD k11 d_Idx).Name)), .int .i64 ((p_a.getD k11 d_Idx).Col), .int .i64 ((p_a.getD k11 d_Idx).Stage)] := eC42
   refine sd rfl (yl_ixN un23 ty45 rfl rfl rfl eA42 (sd rfl (yl_loadN ty45 rfl rfl eC42 rfl (sd rfl (yl_call en25 rfl (oc rfl oz) (Cal.mono (c_l_toIdx (p_a.getD k11 d_Idx) (okL.getD o2 ok_d_Idx _)) ?_))))))
   rintro v44 w43 ⟨rfl, hE45⟩
   have hE45z := Ex.size hE45
   have q47 := OwnL.ex good_Idx hf38 hE45
   obtain ⟨eb48, eo48, _, eA48, _, ebl48, _, eR48, eC48⟩ := RdS.aD (OwnL.rd good_Idx q47) d_Idx (i := k11)
   obtain rfl := eR48
   have eC48 : Cells w43 eb48 (eo48 + k11 * 3) [.string (bs ((x22.getD k11 d_Idx).Name)), .int .i64 ((x22.getD k11 d_Idx).Col), .int .i64 ((x22.getD k11 d_Idx).Stage)] := eC48
   refine sd rfl (yl_ixN un29 ty48 rfl rfl rfl eA48 ?_)
   have hrg49 := OwnL.rng q47 (i := k11) (by first | omega | assumption | (simp only [wI] at *; omega)) eb48 (by rw [eA48]; rfl)
   refine SeqR.u rfl rfl (yl_storeF (off := eo48) (i := k11) (d := 0) (dx := d_Idx) (x' := (p_a.getD k11 d_Idx)) (vs := [.string (bs ((p_a.getD k11 d_Idx).Name)), .int .i64 ((p_a.getD k11 d_Idx).Col), .int .i64 ((p_a.getD k11 d_Idx).Stage)]) ty48 rfl q47 eA48 rfl rfl rfl rfl rfl (by first | omega | assumption | (simp only [wI] at *; omega)) (Nat.le_of_ble_eq_true rfl) rfl rfl ?_)
   intro w50 hB51 hO52
   have hO52z := hO52.size
   refine SeqR.done (bn (tn (CW.region (sd rfl (yl_move rfl rfl (sd rfl (yl_inc rfl rfl rfl (by omega) (sd rfl (yl_assign rfl rfl (dn ?_))))))))))
   have hB53 : B_l_toIdxS_0 p_a k11 (x22) = .cont ((x22.set k11 (p_a.getD k11 d_Idx))) := by simp only [B_l_toIdxS_0, cL]
   exact ⟨p_a.length - (k11 + 1), by omega, k11 + 1, (x22.set k11 (p_a.getD k11 d_Idx)), rfl, hlt41, (by omega), rfl, rfl, rfl, (RdS.only good_Idx (RdS.ex good_Idx hf37 hE45) hO52 (by simp only [Iv]; omega)), hB51, (Below.only (Ex.trans hf39 hE45) hO52 (by omega)), (loopM.cont hlt41 hB53).symm.trans hI32⟩
  ·refine CW.seq (CW.seq (CW.region (sd rfl (yl_move rfl rfl (sd rfl (yl_move rfl rfl (sd rfl (yl_len un23 rfl rfl (sd rfl (yl_lss rfl rfl rfl (dn ?_)))))))))))
   refine CW.cond_f rfl (lt_f hlt41) (CW.exit (tx (tx ?_)))
   have hL58 : loopM (B_l_toIdxS_0 p_a) (p_a.length - 0) 0 ((List.replicate p_a.length d_Idx)) = .done (x22) := hI32.symm.trans (loopM.stop hlt41)
   refine bx (tn (CW.seq (CW.region (sd rfl (yl_move rfl rfl (sd rfl (yl_assign rfl rfl (dn (CW.ret ?_)))))))))
   refine rr rfl (.cons rfl .nil) ?_
   have hM59 : p_a = (x22) := (to_IdxS _).symm.trans <| by simp only [l_toIdxS, hL58, cL]
   subst hM59
   exact ⟨(some ⟨b4, 0, none⟩), p_a.length, b4, (b4 + 1), rfl, hf38, (by omega), hf39⟩
theorem c_l_toTable {A1 : Option Addr} {c1 : Nat} {A2 : Option Addr} {c2 : Nat} {w : World} (p_a : DTable) (h1 : RdS w (Iv 0 w.heap.size) (RF e_Str) 1 A1 p_a.Cols.length c1 p_a.Cols) (h2 : RdS w (Iv 0 w.heap.size) (RF e_Idx) 3 A2 p_a.Idxs.length c2 p_a.Idxs) (o3 : ok_Table p_a) : Cal Tryd.prog 6 #[.agg #[.string (bs (p_a.Name)), .slice A1 p_a.Cols.length c1, .slice A2 p_a.Idxs.length c2]] w fun v w' => ∃ A_1 c_1 lo_1 hi_1 A_2 c_2 lo_2 hi_2, v = .agg #[.string (bs (p_a.Name)), .slice A_1 p_a.Cols.length c_1, .slice A_2 p_a.Idxs.length c_2] ∧ OwnL w' lo_1 hi_1 9 1 (RF e_Str) A_1 p_a.Cols.length c_1 p_a.Cols ∧ OwnL w' lo_2 hi_2 48 3 (RF e_Idx) A_2 p_a.Idxs.length c_2 p_a.Idxs ∧ (w.heap.size ≤ lo_1 ∧ lo_1 ≤ hi_1 ∧ hi_1 ≤ w'.heap.size) ∧ (w.heap.size ≤ lo_2 ∧ lo_2 ≤ hi_2 ∧ hi_2 ≤ w'.heap.size) ∧ (hi_1 ≤ lo_2 ∨ hi_2 ≤ lo_1) ∧ Ex w w' := by
 have hol4 : p_a.Name.length ≤ 1073741824 := o3.1
 have hol5 := o3.2.1.1
 have hol6 := o3.2.2.1
 refine Cal.of func6 rfl ntmps6 rfl (CW.seq (CW.region (sd rfl (yl_box rfl rfl rfl ?_))))
 intro b7 w8 hs9 hz10 hB11 hE12
 refine sd rfl (yl_alloc ty31 (cs := [.string (bs (([] : Str))), .slice none 0 0, .slice none 0 0]) rfl rfl ?_)
 intro b13 w14 hs15 hz16 hB17 hE18
 refine dn (CW.seq (CW.region (sd rfl (yl_alloc ty31 (cs := [.string (bs (([] : Str))), .slice none 0 0, .slice none 0 0]) rfl rfl ?_))))
 intro b19 w20 hs21 hz22 hB23 hE24
 refine dn (CW.seq (CW.region (sd rfl (yl_fieldAddr fd25_0 rfl rfl ?_))))
 have q26 := Box.ex (Box.ex hB11 hE18) hE24
 refine sd rfl (yl_load1 ty9 rfl rfl ((q26.cell 0).trans rfl) (sd rfl (yl_fieldAddr fd31_0 rfl rfl (SeqR.u rfl rfl (yl_store (vs := [.string (bs (p_a.Name))]) ty9 rfl rfl rfl rfl rfl rfl hB23 (Nat.le_of_ble_eq_true rfl) ?_)))))
 intro w27 hB28 hO29
 have hB28 : Box w27 b19 31 [.string (bs (p_a.Name)), .slice none 0 0, .slice none 0 0] := hB28
 have hO29z := hO29.size
 refine dn (CW.seq (CW.region (sd rfl (yl_fieldAddr fd25_1 rfl rfl ?_))))
 have q30 := Box.only q26 hO29 (by omega)
 refine sd rfl (yl_load1 ty22 rfl rfl ((q30.cell 1).trans rfl) (sd rfl (yl_call en13 rfl (oc rfl oz) (Cal.mono (c_l_toStringS p_a.Cols (RdS.up (RdS.only good_Str (RdS.ex good_Str (RdS.ex good_Str (RdS.ex good_Str h1 hE12) hE18) hE24) hO29 (by simp only [Iv]; omega)) good_Str) o3.2.1) ?_))))
 rintro v37 w35 ⟨A36, c36, lo36, hi36, rfl, h36, hrn39, hE38⟩
 have hE38z := Ex.size hE38
 refine sd rfl (yl_fieldAddr fd31_1 rfl rfl (SeqR.u rfl rfl (yl_store (vs := [.slice A36 p_a.Cols.length c36]) ty22 rfl rfl rfl rfl rfl rfl (Box.ex hB28 hE38) (Nat.le_of_ble_eq_true rfl) ?_)))
 intro w41 hB42 hO43
 have hB42 : Box w41 b19 31 [.string (bs (p_a.Name)), .slice A36 p_a.Cols.length c36, .slice none 0 0] := hB42
 have hO43z := hO43.size
 refine dn (CW.seq (CW.region (sd rfl (yl_fieldAddr fd25_2 rfl rfl (sd rfl (yl_load1 ty23 rfl rfl (((Box.only (Box.ex q30 hE38) hO43 (by omega)).cell 2).trans rfl) (sd rfl (yl_call en14 rfl (oc rfl oz) (Cal.mono (c_l_toIdxS p_a.Idxs (RdS.up (RdS.only good_Idx (RdS.ex good_Idx (RdS.only good_Idx (RdS.ex good_Idx (RdS.ex good_Idx (RdS.ex good_Idx h2 hE12) hE18) hE24) hO29 (by simp only [Iv]; omega)) hE38) hO43 (by simp only [Iv]; omega)) good_Idx) o3.2.2) ?_)))))))))
 rintro v54 w52 ⟨A53, c53, lo53, hi53, rfl, h53, hrn56, hE55⟩
 have hE55z := Ex.size hE55
 refine sd rfl (yl_fieldAddr fd31_2 rfl rfl (SeqR.u rfl rfl (yl_store (vs := [.slice A53 p_a.Idxs.length c53]) ty29 rfl rfl rfl rfl rfl rfl (Box.ex hB42 hE55) (Nat.le_of_ble_eq_true rfl) ?_)))
 intro w58 hB59 hO60
 have hB59 : Box w58 b19 31 [.string (bs (p_a.Name)), .slice A36 p_a.Cols.length c36, .slice A53 p_a.Idxs.length c53] := hB59
 have hO60z := hO60.size
 refine dn (CW.seq (CW.region (sd rfl (yl_loadN ty31 rfl rfl (hB59.cells (n := 3) rfl) rfl (SeqR.u rfl rfl (yl_store (vs := [.string (bs (p_a.Name)), .slice A36 p_a.Cols.length c36, .slice A53 p_a.Idxs.length c53]) ty31 rfl rfl rfl rfl rfl rfl (Box.only (Box.ex (Box.only (Box.ex (Box.only (Box.ex hB17 hE24) hO29 (by omega)) hE38) hO43 (by omega)) hE55) hO60 (by omega)) (Nat.le_of_ble_eq_true rfl) ?_))))))
 intro w67 hB68 hO69
 have hB68 : Box w67 b13 31 [.string (bs (p_a.Name)), .slice A36 p_a.Cols.length c36, .slice A53 p_a.Idxs.length c53] := hB68
 have hO69z := hO69.size
 refine dn (CW.ret (rr rfl (.cons ⟨_, rfl, run_loadN ty31 (cs := [.string (bs (p_a.Name)), .slice A36 p_a.Cols.length c36, .slice A53 p_a.Idxs.length c53]) rfl (hB68.cells (n := 3) rfl)⟩ .nil) ?_))
 have hM70 : p_a = (p_a) := (to_Table _).symm.trans <| by simp only [l_toTable, cL]
 rw [hM70]
 exact ⟨A36, c36, lo36, hi36, A53, c53, lo53, hi53, rfl, (OwnL.only good_Str (OwnL.only good_Str (OwnL.ex good_Str (OwnL.only good_Str h36 hO43 (by omega)) hE55) hO60 (by omega)) hO69 (by omega)), (OwnL.only good_Idx (OwnL.only good_Idx h53 hO60 (by omega)) hO69 (by omega)), (by omega), (by omega), (by omega), (Below.only (Below.only (Ex.trans (Below.only (Ex.trans (Below.only (Ex.trans (Ex.trans (Ex.trans (Ex.refl w) hE12) hE18) hE24) hO29 (by omega)) hE38) hO43 (by omega)) hE55) hO60 (by omega)) hO69 (by omega))⟩
theorem c_i_within {w : World} (p_n : Int) (p_low : Int) (p_high : Int) : Cal Tryd.prog 27 #[.int .i64 (p_n), .int .i64 (p_low), .int .i64 (p_high)] w fun v w' => v = .bool ((i_within p_n p_low p_high)) ∧ Ex w w' := by
 refine Cal.of func27 rfl ntmps27 rfl (CW.seq (CW.region (sd rfl (yl_assign rfl rfl (dn (CW.seq (CW.region (sd rfl (yl_move rfl rfl ?_)))))))))
 refine sd rfl (yl_move rfl rfl (sd rfl (yl_geq rfl rfl rfl (sd rfl (yl_move rfl rfl (bcase (decide (p_low ≤ p_n)) (fun hb1 => ?_) (fun hb1 => ?_)))))))
 ·have hb1p := dec_t hb1
  refine sy rfl rfl hb1 (yl_move rfl rfl (sy rfl rfl hb1 (yl_move rfl rfl (sy rfl rfl hb1 (yl_leq rfl rfl rfl (sd rfl (yl_pick_t rfl rfl hb1 rfl (sd rfl (yl_assign rfl rfl (dn (CW.ret (rr rfl (.cons rfl .nil) ?_))))))))))))
  have hM2 : (i_within p_n p_low p_high) = (decide (p_n ≤ p_high)) := by simp only [i_within, hb1, cL]
  rw [hM2]
  exact ⟨rfl, (Ex.refl w)⟩
 ·have hb1p := dec_f hb1
  refine sz rfl rfl hb1 (sz rfl rfl hb1 (sz rfl rfl hb1 (sd rfl (yl_pick_f rfl rfl hb1 rfl (sd rfl (yl_assign rfl rfl (dn (CW.ret (rr rfl (.cons rfl .nil) ?_)))))))))
  have hM3 : (i_within p_n p_low p_high) = (false) := by simp only [i_within, hb1, cL]
  rw [hM3]
  exact ⟨rfl, (Ex.refl w)⟩
theorem c_i_areLetters {w : World} (p_s : Str) (p_most : Int) (o1 : okS p_s) : Cal Tryd.prog 26 #[.string (bs (p_s)), .int .i64 (p_most)] w fun v w' => v = .bool ((i_areLetters p_s p_most)) ∧ Ex w w' := by
 have hol2 : p_s.length ≤ 1073741824 := o1
 refine Cal.of func26 rfl ntmps26 rfl (CW.seq (CW.region (sd rfl (yl_assign rfl rfl (dn (CW.seq (CW.seq (CW.region ?_))))))))
 refine sd rfl (yl_move rfl rfl (sd rfl (yl_slen un9 (a := p_s) rfl rfl (sd rfl (yl_move rfl rfl (dn (CW.block (CW.loop (fun m4 L5 w6 => ∃ (k3 : Nat), m4 = p_s.length - k3 ∧ k3 ≤ p_s.length ∧ w.heap.size ≤ w6.heap.size ∧ lkp L5 0 = some (.string (bs (p_s))) ∧ lkp L5 1 = some (.int .i64 (p_most)) ∧ lkp L5 7 = some (.int .i64 ((p_s.length : Int))) ∧ lkp L5 8 = some (.int .i64 ((k3 : Int))) ∧ Ex w w6 ∧ loopM (B_i_areLetters_0 p_s p_most) (p_s.length - k3) k3 () = loopM (B_i_areLetters_0 p_s p_most) (p_s.length - 0) 0 ()) (p_s.length - 0) ?_ ?_))))))))
 ·exact ⟨0, rfl, (by omega), Nat.le_refl _, rfl, rfl, rfl, rfl, (Ex.refl w), rfl⟩
 ·rintro m7 L8 w9 ⟨k3, rfl, hk10, hsz12, hl13, hl14, hl15, hl16, hf17, hI11⟩
  refine CW.sub (Sub.cons hl13 (Sub.cons hl14 (Sub.cons hl15 (Sub.cons hl16 (Sub.nil _))))) ?_
  have hf17z := Ex.size hf17
  have hbg18 : p_s.length ≤ 1073741824 := o1
  rcases Nat.lt_or_ge k3 p_s.length with hlt19 | hlt19
  ·refine CW.seq (CW.region (sd rfl (yl_lss rfl rfl rfl (dn (CW.seq (CW.cond_t rfl (lt_t hlt19) (CW.skip (tn ?_))))))))
   refine CW.seq (CW.block (CW.seq (CW.region (sd rfl (yl_move rfl rfl (sd rfl (yl_assign rfl rfl (dn (CW.seq ?_)))))))))
   refine CW.region (sd rfl (yl_move rfl rfl (sd rfl (yl_move rfl rfl (sd rfl (yl_sindexN un9 (a := p_s) rfl rfl rfl (by first | omega | assumption | (simp only [wI] at *; omega)) (sd rfl (yl_lss rfl rfl rfl (sd rfl (yl_move rfl rfl (bcase (decide (((p_s.getD k3 0).toNat : Int) < 97)) (fun hb20 => ?_) (fun hb20 => ?_))))))))))))
   ·have hb20p := dec_t hb20
    refine sz rfl rfl hb20 (sz rfl rfl hb20 (sz rfl rfl hb20 (sz rfl rfl hb20 (sd rfl (yl_pick_t rfl rfl hb20 rfl (dn (CW.cond_t rfl rfl (CW.seq ?_))))))))
    refine CW.region (sd rfl (yl_assign rfl rfl (dn (CW.ret (br (tr (tr ?_)))))))
    have hB22 : B_i_areLetters_0 p_s p_most k3 () = .ret false := by simp only [B_i_areLetters_0, hb20, cL]
    have hL21 : loopM (B_i_areLetters_0 p_s p_most) (p_s.length - 0) 0 () = .ret false := hI11.symm.trans (loopM.ret hlt19 hB22)
    refine br (tr (rr rfl (.cons rfl .nil) ?_))
    have hM23 : (i_areLetters p_s p_most) = (false) := by simp only [i_areLetters, hb20, hL21, cL]
    rw [hM23]
    exact ⟨rfl, hf17⟩
   ·have hb20p := dec_f hb20
    refine sy rfl rfl hb20 (yl_move rfl rfl (sy rfl rfl hb20 (yl_move rfl rfl (sy rfl rfl hb20 (yl_sindexN un9 (a := p_s) rfl rfl rfl (by first | omega | assumption | (simp only [wI] at *; omega)) (sy rfl rfl hb20 (yl_gtr rfl rfl rfl (sd rfl (yl_pick_f rfl rfl hb20 rfl (dn (bcase (decide (122 < ((p_s.getD k3 0).toNat : Int))) (fun hb24 => ?_) (fun hb24 => ?_))))))))))))
    ·have hb24p := dec_t hb24
     refine CW.cond_t rfl hb24 (CW.seq (CW.region (sd rfl (yl_assign rfl rfl (dn (CW.ret (br (tr ?_))))))))
     refine tr ?_
     have hB26 : B_i_areLetters_0 p_s p_most k3 () = .ret false := by simp only [B_i_areLetters_0, hb20, hb24, cL]
     have hL25 : loopM (B_i_areLetters_0 p_s p_most) (p_s.length - 0) 0 () = .ret false := hI11.symm.trans (loopM.ret hlt19 hB26)
     refine br (tr (rr rfl (.cons rfl .nil) ?_))
     have hM27 : (i_areLetters p_s p_most) = (false) := by simp only [i_areLetters, hb20, hb24, hL25, cL]
     rw [hM27]
     exact ⟨rfl, hf17⟩
    ·have hb24p := dec_f hb24
     refine CW.cond_f rfl hb24 (CW.skip (bn (tn (CW.region (sd rfl (yl_inc rfl rfl rfl (by omega) (sd rfl (yl_move rfl rfl (dn ?_)))))))))
     have hB28 : B_i_areLetters_0 p_s p_most k3 () = .cont () := by simp only [B_i_areLetters_0, hb20, hb24, cL]
     exact ⟨p_s.length - (k3 + 1), by omega, k3 + 1, rfl, hlt19, (by omega), rfl, rfl, rfl, rfl, hf17, (loopM.cont hlt19 hB28).symm.trans hI11⟩
  ·refine CW.seq (CW.region (sd rfl (yl_lss rfl rfl rfl (dn (CW.seq (CW.cond_f rfl (lt_f hlt19) (CW.exit (tx ?_))))))))
   refine tx ?_
   have hL29 : loopM (B_i_areLetters_0 p_s p_most) (p_s.length - 0) 0 () = .done () := hI11.symm.trans (loopM.stop hlt19)
   refine bx (tn (CW.seq (CW.region (sd rfl (yl_move rfl rfl (sd rfl (yl_slen un9 (a := p_s) rfl rfl (sd rfl (yl_move rfl rfl (sd rfl (yl_call en27 rfl (oc rfl (oc rfl (oc rfl oz))) (Cal.mono (c_i_within (p_s.length : Int) 1 p_most) ?_))))))))))))
   rintro v31 w30 ⟨rfl, hE32⟩
   have hE32z := Ex.size hE32
   refine sd rfl (yl_assign rfl rfl (dn (CW.ret (rr rfl (.cons rfl .nil) ?_))))
   have hM33 : (i_areLetters p_s p_most) = ((i_within (p_s.length : Int) 1 p_most)) := by simp only [i_areLetters, hL29, cL]
   rw [hM33]
   exact ⟨rfl, (Ex.trans hf17 hE32)⟩
theorem c_g_slices_Index_string {A1 : Option Addr} {c1 : Nat} {w : World} (p_s : List Str) (p_v : Str) (h1 : RdS w (Iv 0 w.heap.size) (RF e_Str) 1 A1 p_s.length c1 p_s) (o2 : (okL okS) p_s) (o3 : okS p_v) : Cal Tryd.prog 34 #[.slice A1 p_s.length c1, .string (bs (p_v))] w fun v w' => v = .int .i64 ((g_slices_Index_string p_s p_v)) ∧ Ex w w' := by
 have hol4 := o2.1
 have hol5 : p_v.length ≤ 1073741824 := o3
 refine Cal.of func34 rfl ntmps34 rfl (CW.seq (CW.region (sd rfl (yl_assign rfl rfl (dn (CW.seq (CW.seq (CW.region ?_))))))))
 refine sd rfl (yl_move rfl rfl (sd rfl (yl_len un22 rfl rfl (sd rfl (yl_move rfl rfl (dn (CW.block (CW.loop (fun m7 L8 w9 => ∃ (k6 : Nat), m7 = p_s.length - k6 ∧ k6 ≤ p_s.length ∧ w.heap.size ≤ w9.heap.size ∧ lkp L8 0 = some (.slice A1 p_s.length c1) ∧ lkp L8 1 = some (.string (bs (p_v))) ∧ lkp L8 7 = some (.int .i64 ((p_s.length : Int))) ∧ lkp L8 8 = some (.int .i64 ((k6 : Int))) ∧ RdS w9 (Iv 0 w.heap.size) (RF e_Str) 1 A1 p_s.length c1 p_s ∧ Ex w w9 ∧ loopM (B_g_slices_Index_string_0 p_s p_v) (p_s.length - k6) k6 () = loopM (B_g_slices_Index_string_0 p_s p_v) (p_s.length - 0) 0 ()) (p_s.length - 0) ?_ ?_))))))))
 ·exact ⟨0, rfl, (by omega), Nat.le_refl _, rfl, rfl, rfl, rfl, h1, (Ex.refl w), rfl⟩
 ·rintro m10 L11 w12 ⟨k6, rfl, hk13, hsz15, hl16, hl17, hl18, hl19, hf20, hf21, hI14⟩
  refine CW.sub (Sub.cons hl16 (Sub.cons hl17 (Sub.cons hl18 (Sub.cons hl19 (Sub.nil _))))) ?_
  have hf21z := Ex.size hf21
  have hbg22 := RdS.big hf20
  rcases Nat.lt_or_ge k6 p_s.length with hlt23 | hlt23
  ·refine CW.seq (CW.region (sd rfl (yl_lss rfl rfl rfl (dn (CW.seq (CW.cond_t rfl (lt_t hlt23) (CW.skip (tn ?_))))))))
   refine CW.seq (CW.block (CW.seq (CW.region (sd rfl (yl_move rfl rfl (sd rfl (yl_assign rfl rfl (dn (CW.seq ?_)))))))))
   refine CW.region (sd rfl (yl_move rfl rfl (sd rfl (yl_move rfl rfl (sd rfl (yl_move rfl rfl ?_))))))
   obtain ⟨eb24, eo24, _, eA24, _, ebl24, _, eR24, eC24⟩ := RdS.aD hf20 d_Str (i := k6)
   obtain rfl := eR24
   have eC24 : Cells w12 eb24 (eo24 + k6 * 1) [.string (bs ((p_s.getD k6 d_Str)))] := eC24
   refine sd rfl (yl_ixN un22 ty9 rfl rfl rfl eA24 (sd rfl (yl_load1 ty9 rfl rfl (eC24 0 _ rfl) (sd rfl (yl_seql (a := p_v) (b := (p_s.getD k6 d_Str)) rfl rfl rfl (dn (bcase (p_v == (p_s.getD k6 d_Str)) (fun hb25 => ?_) (fun hb25 => ?_))))))))
   ·refine CW.cond_t rfl hb25 (CW.seq (CW.region (sd rfl (yl_move rfl rfl (sd rfl (yl_assign rfl rfl (dn (CW.ret (br ?_)))))))))
    refine tr (tr ?_)
    have hB27 : B_g_slices_Index_string_0 p_s p_v k6 () = .ret (k6 : Int) := by simp only [B_g_slices_Index_string_0, hb25, cL]
    have hL26 : loopM (B_g_slices_Index_string_0 p_s p_v) (p_s.length - 0) 0 () = .ret (k6 : Int) := hI14.symm.trans (loopM.ret hlt23 hB27)
    refine br (tr (rr rfl (.cons rfl .nil) ?_))
    have hM28 : (g_slices_Index_string p_s p_v) = ((k6 : Int)) := by simp only [g_slices_Index_string, hb25, hL26, cL]
    rw [hM28]
    exact ⟨rfl, hf21⟩
   ·refine CW.cond_f rfl hb25 (CW.skip (bn (tn (CW.region (sd rfl (yl_inc rfl rfl rfl (by omega) (sd rfl (yl_move rfl rfl (dn ?_)))))))))
    have hB29 : B_g_slices_Index_string_0 p_s p_v k6 () = .cont () := by simp only [B_g_slices_Index_string_0, hb25, cL]
    exact ⟨p_s.length - (k6 + 1), by omega, k6 + 1, rfl, hlt23, (by omega), rfl, rfl, rfl, rfl, hf20, hf21, (loopM.cont hlt23 hB29).symm.trans hI14⟩
  ·refine CW.seq (CW.region (sd rfl (yl_lss rfl rfl rfl (dn (CW.seq (CW.cond_f rfl (lt_f hlt23) (CW.exit (tx ?_))))))))
   refine tx ?_
   have hL30 : loopM (B_g_slices_Index_string_0 p_s p_v) (p_s.length - 0) 0 () = .done () := hI14.symm.trans (loopM.stop hlt23)
   refine bx (tn (CW.seq (CW.region (sd rfl (yl_assign rfl rfl (dn (CW.ret (rr rfl (.cons rfl .nil) ?_))))))))
   have hM31 : (g_slices_Index_string p_s p_v) = (-1) := by simp only [g_slices_Index_string, hL30, cL]
   rw [hM31]
   exact ⟨rfl, hf21⟩
theorem c_g_slices_Contains_string {A1 : Option Addr} {c1 : Nat} {w : World} (p_s : List Str) (p_v : Str) (h1 : RdS w (Iv 0 w.heap.size) (RF e_Str) 1 A1 p_s.length c1 p_s) (o2 : (okL okS) p_s) (o3 : okS p_v) : Cal Tryd.prog 28 #[.slice A1 p_s.length c1, .string (bs (p_v))] w fun v w' => v = .bool ((g_slices_Contains_string p_s p_v)) ∧ Ex w w' := by
 refine Cal.of func28 rfl ntmps28 rfl (CW.seq (CW.region (sd rfl (yl_assign rfl rfl (dn (CW.seq (CW.region (sd rfl (yl_move rfl rfl ?_)))))))))
 refine sd rfl (yl_move rfl rfl (sd rfl (yl_call en34 rfl (oc rfl (oc rfl oz)) (Cal.mono (c_g_slices_Index_string p_s p_v (RdS.up h1 good_Str) o2 o3) ?_))))
 rintro v7 w6 ⟨rfl, hE8⟩
 refine sd rfl (yl_geq rfl rfl rfl (sd rfl (yl_assign rfl rfl (dn (CW.ret (rr rfl (.cons rfl .nil) ?_))))))
 have hM9 : (g_slices_Contains_string p_s p_v) = (decide (0 ≤ (g_slices_Index_string p_s p_v))) := by simp only [g_slices_Contains_string, cL]
 rw [hM9]
 exact ⟨rfl, (Ex.trans (Ex.refl w) hE8)⟩
theorem c_i_isStage {w : World} (p_stage : Int) : Cal Tryd.prog 29 #[.int .i64 (p_stage)] w fun v w' => v = .bool ((i_isStage p_stage)) ∧ Ex w w' := by
 refine Cal.of func29 rfl ntmps29 rfl (CW.seq (CW.region (sd rfl (yl_assign rfl rfl (dn (CW.seq (CW.region (sd rfl (yl_move rfl rfl ?_)))))))))
 refine sd rfl (yl_call en27 rfl (oc rfl (oc rfl (oc rfl oz))) (Cal.mono (c_i_within p_stage 0 3) ?_))
 rintro v2 w1 ⟨rfl, hE3⟩
 refine sd rfl (yl_assign rfl rfl (dn (CW.ret (rr rfl (.cons rfl .nil) ?_))))
 have hM4 : (i_isStage p_stage) = ((i_within p_stage 0 3)) := by simp only [i_isStage, cL]
 rw [hM4]
 exact ⟨rfl, (Ex.trans (Ex.refl w) hE3)⟩
theorem c_i_GoodTable {A1 : Option Addr} {c1 : Nat} {A2 : Option Addr} {c2 : Nat} {w : World} (p_0 : DTable) (h1 : RdS w (Iv 0 w.heap.size) (RF e_Str) 1 A1 p_0.Cols.length c1 p_0.Cols) (h2 : RdS w (Iv 0 w.heap.size) (RF e_Idx) 3 A2 p_0.Idxs.length c2 p_0.Idxs) (o3 : ok_Table p_0) : Cal Tryd.prog 15 #[.agg #[.string (bs (p_0.Name)), .slice A1 p_0.Cols.length c1, .slice A2 p_0.Idxs.length c2]] w fun v w' => v = .bool ((i_GoodTable p_0)) ∧ Ex w w' := by
 have hol4 : p_0.Name.length ≤ 1073741824 := o3.1
 have hol5 := o3.2.1.1
 have hol6 := o3.2.2.1
 refine Cal.of func15 rfl ntmps15 rfl (CW.seq (CW.region (sd rfl (yl_box rfl rfl rfl ?_))))
 intro b7 w8 hs9 hz10 hB11 hE12
 refine sd rfl (yl_assign rfl rfl (dn (CW.seq (CW.seq (CW.region (sd rfl (yl_fieldAddr fd31_0 rfl rfl (sd rfl (yl_load1 ty9 rfl rfl ((hB11.cell 0).trans rfl) (sd rfl (yl_call en26 rfl (oc rfl (oc rfl oz)) (Cal.mono (c_i_areLetters p_0.Name 1 o3.1) ?_))))))))))))
 rintro v14 w13 ⟨rfl, hE15⟩
 have hE15z := Ex.size hE15
 refine sd rfl (yl_not rfl rfl (sd rfl (yl_move rfl rfl (bcase (i_areLetters p_0.Name 1) (fun hb16 => ?_) (fun hb16 => ?_)))))
 ·refine sy rfl rfl (not_t hb16) (yl_fieldAddr fd31_1 rfl rfl ?_)
  have q17 := Box.ex hB11 hE15
  refine sy rfl rfl (not_t hb16) (yl_load1 ty22 rfl rfl ((q17.cell 1).trans rfl) (sy rfl rfl (not_t hb16) (yl_len un22 rfl rfl (sy rfl rfl (not_t hb16) (yl_call en27 rfl (oc rfl (oc rfl (oc rfl oz))) (Cal.mono (c_i_within (p_0.Cols.length : Int) 2 4) ?_))))))
  rintro v19 w18 ⟨rfl, hE20⟩
  have hE20z := Ex.size hE20
  refine sy rfl rfl (not_t hb16) (yl_not rfl rfl (sd rfl (yl_pick_f rfl rfl (not_t hb16) rfl (sd rfl (yl_move rfl rfl (bcase (i_within (p_0.Cols.length : Int) 2 4) (fun hb21 => ?_) (fun hb21 => ?_)))))))
  ·have hb21p := f_within hb21
   refine sy rfl rfl (not_t hb21) (yl_fieldAddr fd31_2 rfl rfl ?_)
   have q22 := Box.ex q17 hE20
   refine sy rfl rfl (not_t hb21) (yl_load1 ty29 rfl rfl ((q22.cell 2).trans rfl) (sy rfl rfl (not_t hb21) (yl_len un29 rfl rfl (sy rfl rfl (not_t hb21) (yl_gtr rfl rfl rfl (sd rfl (yl_pick_f rfl rfl (not_t hb21) rfl (dn (bcase (decide (3 < (p_0.Idxs.length : Int))) (fun hb23 => ?_) (fun hb23 => ?_))))))))))
   ·have hb23p := dec_t hb23
    refine CW.cond_t rfl hb23 (CW.seq (CW.region (sd rfl (yl_assign rfl rfl (dn (CW.ret (tr (rr rfl (.cons rfl .nil) ?_))))))))
    have hM24 : (i_GoodTable p_0) = (false) := by simp only [i_GoodTable, hb16, hb21, hb23, cL]
    rw [hM24]
    exact ⟨rfl, (Ex.trans (Ex.trans (Ex.trans (Ex.refl w) hE12) hE15) hE20)⟩
   ·have hb23p := dec_f hb23
    refine CW.cond_f rfl hb23 (CW.skip (tn (CW.seq (CW.seq (CW.region (sd rfl (yl_fieldAddr fd31_1 rfl rfl (sd rfl (yl_load1 ty22 rfl rfl ((q22.cell 1).trans rfl) (sd rfl (yl_len un22 rfl rfl ?_)))))))))))
    refine sd rfl (yl_move rfl rfl (dn (CW.block (CW.loop (fun m29 L30 w31 => ∃ (k28 : Nat), m29 = p_0.Cols.length - k28 ∧ k28 ≤ p_0.Cols.length ∧ w18.heap.size ≤ w31.heap.size ∧ lkp L30 1 = some (.pointer (some ⟨b7, 0, none⟩)) ∧ lkp L30 25 = some (.slice A1 p_0.Cols.length c1) ∧ lkp L30 26 = some (.int .i64 ((p_0.Cols.length : Int))) ∧ lkp L30 27 = some (.int .i64 ((k28 : Int))) ∧ Box w31 b7 31 [.string (bs (p_0.Name)), .slice A1 p_0.Cols.length c1, .slice A2 p_0.Idxs.length c2] ∧ RdS w31 (Iv 0 w.heap.size) (RF e_Str) 1 A1 p_0.Cols.length c1 p_0.Cols ∧ RdS w31 (Iv 0 w.heap.size) (RF e_Idx) 3 A2 p_0.Idxs.length c2 p_0.Idxs ∧ Ex w w31 ∧ loopM (B_i_GoodTable_0 p_0) (p_0.Cols.length - k28) k28 () = loopM (B_i_GoodTable_0 p_0) (p_0.Cols.length - 0) 0 ()) (p_0.Cols.length - 0) ?_ ?_))))
    ·exact ⟨0, rfl, (by omega), Nat.le_refl _, rfl, rfl, rfl, rfl, q22, (RdS.ex good_Str (RdS.ex good_Str (RdS.ex good_Str h1 hE12) hE15) hE20), (RdS.ex good_Idx (RdS.ex good_Idx (RdS.ex good_Idx h2 hE12) hE15) hE20), (Ex.trans (Ex.trans (Ex.trans (Ex.refl w) hE12) hE15) hE20), rfl⟩
    ·rintro m41 L42 w43 ⟨k28, rfl, hk44, hsz46, hl47, hl48, hl49, hl50, hf51, hf52, hf53, hf54, hI45⟩
     refine CW.sub (Sub.cons hl47 (Sub.cons hl48 (Sub.cons hl49 (Sub.cons hl50 (Sub.nil _))))) ?_
     have hf51z := Box.lt hf51
     have hf54z := Ex.size hf54
     have hbg55 := RdS.big hf52
     rcases Nat.lt_or_ge k28 p_0.Cols.length with hlt56 | hlt56
     ·refine CW.seq (CW.region (sd rfl (yl_lss rfl rfl rfl (dn (CW.seq (CW.cond_t rfl (lt_t hlt56) (CW.skip (tn ?_))))))))
      refine CW.seq (CW.block (CW.seq (CW.region (sd rfl (yl_move rfl rfl ?_)))))
      obtain ⟨eb57, eo57, _, eA57, _, ebl57, _, eR57, eC57⟩ := RdS.aD hf52 d_Str (i := k28)
      obtain rfl := eR57
      have eC57 : Cells w43 eb57 (eo57 + k28 * 1) [.string (bs ((p_0.Cols.getD k28 d_Str)))] := eC57
      refine sd rfl (yl_ixN un22 ty9 rfl rfl rfl eA57 (sd rfl (yl_load1 ty9 rfl rfl (eC57 0 _ rfl) (sd rfl (yl_assign rfl rfl (sd rfl (yl_assign rfl rfl (dn (CW.seq (CW.region (sd rfl (yl_move rfl rfl ?_))))))))))))
      refine sd rfl (yl_call en26 rfl (oc rfl (oc rfl oz)) (Cal.mono (c_i_areLetters (p_0.Cols.getD k28 d_Str) 3 (okL.getD o3.2.1 ok_d_Str _)) ?_))
      rintro v59 w58 ⟨rfl, hE60⟩
      have hE60z := Ex.size hE60
      refine sd rfl (yl_not rfl rfl (sd rfl (yl_move rfl rfl (bcase (i_areLetters (p_0.Cols.getD k28 d_Str) 3) (fun hb61 => ?_) (fun hb61 => ?_)))))
      ·refine sy rfl rfl (not_t hb61) (yl_fieldAddr fd31_1 rfl rfl ?_)
       have q62 := Box.ex hf51 hE60
       refine sy rfl rfl (not_t hb61) (yl_load1 ty22 rfl rfl ((q62.cell 1).trans rfl) (sy rfl rfl (not_t hb61) (yl_move rfl rfl ?_)))
       have q63 := RdS.ex good_Str hf52 hE60
       obtain ⟨A64, c65, he68, h67⟩ := RdS.sl (RdS.drop (RdS.take q63 (k := k28) (by omega)) (k := 0) (by omega))
       have hrc69 := (q63).2.1
       refine sy rfl rfl (not_t hb61) (yl_sliceR (kl := .i64) (l := 0) (h := k28) un22 ty9 rfl rfl (.inl ⟨rfl, rfl⟩) (.inr ⟨_, rfl, rfl⟩) (by omega) (by omega) he68 (sy rfl rfl (not_t hb61) (yl_move rfl rfl (sy rfl rfl (not_t hb61) (yl_call en28 rfl (oc rfl (oc rfl oz)) (Cal.mono (c_g_slices_Contains_string (p_0.Cols.take k28) (p_0.Cols.getD k28 d_Str) (RdS.up h67 good_Str) (okL.take o3.2.1 _) (okL.getD o3.2.1 ok_d_Str _)) ?_))))))
       rintro v71 w70 ⟨rfl, hE72⟩
       have hE72z := Ex.size hE72
       refine sd rfl (yl_pick_f rfl rfl (not_t hb61) rfl (dn (bcase (g_slices_Contains_string (p_0.Cols.take k28) (p_0.Cols.getD k28 d_Str)) (fun hb73 => ?_) (fun hb73 => ?_))))
       ·refine CW.cond_t rfl hb73 (CW.seq (CW.region (sd rfl (yl_assign rfl rfl (dn (CW.ret (br (tr ?_))))))))
        refine tr ?_
        have hB75 : B_i_GoodTable_0 p_0 k28 () = .ret false := by simp only [B_i_GoodTable_0, hb16, hb21, hb23, hb61, hb73, cL]
        have hL74 : loopM (B_i_GoodTable_0 p_0) (p_0.Cols.length - 0) 0 () = .ret false := hI45.symm.trans (loopM.ret hlt56 hB75)
        refine br (tr (rr rfl (.cons rfl .nil) ?_))
        have hM76 : (i_GoodTable p_0) = (false) := by simp only [i_GoodTable, hb16, hb21, hb23, hb61, hb73, hL74, cL]
        rw [hM76]
        exact ⟨rfl, (Ex.trans (Ex.trans hf54 hE60) hE72)⟩
       ·refine CW.cond_f rfl hb73 (CW.skip (bn (tn (CW.region (sd rfl (yl_inc rfl rfl rfl (by omega) (sd rfl (yl_move rfl rfl (dn ?_)))))))))
        have hB79 : B_i_GoodTable_0 p_0 k28 () = .cont () := by simp only [B_i_GoodTable_0, hb16, hb21, hb23, hb61, hb73, cL]
        exact ⟨p_0.Cols.length - (k28 + 1), by omega, k28 + 1, rfl, hlt56, (by omega), rfl, rfl, rfl, rfl, (Box.ex q62 hE72), (RdS.ex good_Str q63 hE72), (RdS.ex good_Idx (RdS.ex good_Idx hf53 hE60) hE72), (Ex.trans (Ex.trans hf54 hE60) hE72), (loopM.cont hlt56 hB79).symm.trans hI45⟩
      ·refine sz rfl rfl (not_f hb61) (sz rfl rfl (not_f hb61) (sz rfl rfl (not_f hb61) (sz rfl rfl (not_f hb61) (sz rfl rfl (not_f hb61) (sz rfl rfl (not_f hb61) (sd rfl (yl_pick_t rfl rfl (not_f hb61) rfl (dn ?_))))))))
       refine CW.cond_t rfl rfl (CW.seq (CW.region (sd rfl (yl_assign rfl rfl (dn (CW.ret (br (tr ?_))))))))
       refine tr ?_
       have hB87 : B_i_GoodTable_0 p_0 k28 () = .ret false := by simp only [B_i_GoodTable_0, hb16, hb21, hb23, hb61, cL]
       have hL86 : loopM (B_i_GoodTable_0 p_0) (p_0.Cols.length - 0) 0 () = .ret false := hI45.symm.trans (loopM.ret hlt56 hB87)
       refine br (tr (rr rfl (.cons rfl .nil) ?_))
       have hM88 : (i_GoodTable p_0) = (false) := by simp only [i_GoodTable, hb16, hb21, hb23, hb61, hL86, cL]
       rw [hM88]
       exact ⟨rfl, (Ex.trans hf54 hE60)⟩
     ·refine CW.seq (CW.region (sd rfl (yl_lss rfl rfl rfl (dn (CW.seq (CW.cond_f rfl (lt_f hlt56) (CW.exit (tx ?_))))))))
      refine tx ?_
      have hL90 : loopM (B_i_GoodTable_0 p_0) (p_0.Cols.length - 0) 0 () = .done () := hI45.symm.trans (loopM.stop hlt56)
      refine bx (tn (CW.seq (CW.seq (CW.region (sd rfl (yl_fieldAddr fd31_2 rfl rfl (sd rfl (yl_load1 ty29 rfl rfl ((hf51.cell 2).trans rfl) (sd rfl (yl_len un29 rfl rfl (sd rfl (yl_move rfl rfl ?_))))))))))))
      refine dn (CW.block (CW.loop (fun m129 L130 w131 => ∃ (k91 : Nat), m129 = p_0.Idxs.length - k91 ∧ k91 ≤ p_0.Idxs.length ∧ w43.heap.size ≤ w131.heap.size ∧ lkp L130 1 = some (.pointer (some ⟨b7, 0, none⟩)) ∧ lkp L130 45 = some (.slice A2 p_0.Idxs.length c2) ∧ lkp L130 46 = some (.int .i64 ((p_0.Idxs.length : Int))) ∧ lkp L130 47 = some (.int .i64 ((k91 : Int))) ∧ Box w131 b7 31 [.string (bs (p_0.Name)), .slice A1 p_0.Cols.length c1, .slice A2 p_0.Idxs.length c2] ∧ RdS w131 (Iv 0 w.heap.size) (RF e_Str) 1 A1 p_0.Cols.length c1 p_0.Cols ∧ RdS w131 (Iv 0 w.heap.size) (RF e_Idx) 3 A2 p_0.Idxs.length c2 p_0.Idxs ∧ Ex w w131 ∧ loopM (B_i_GoodTable_1 p_0) (p_0.Idxs.length - k91) k91 () = loopM (B_i_GoodTable_1 p_0) (p_0.Idxs.length - 0) 0 ()) (p_0.Idxs.length - 0) ?_ ?_))
      ·exact ⟨0, rfl, (by omega), Nat.le_refl _, rfl, rfl, rfl, rfl, hf51, hf52, hf53, hf54, rfl⟩
      ·rintro m132 L133 w134 ⟨k91, rfl, hk135, hsz137, hl138, hl139, hl140, hl141, hf142, hf143, hf144, hf145, hI136⟩
       refine CW.sub (Sub.cons hl138 (Sub.cons hl139 (Sub.cons hl140 (Sub.cons hl141 (Sub.nil _))))) ?_
       have hf142z := Box.lt hf142
       have hf145z := Ex.size hf145
       have hbg146 := RdS.big hf144
       rcases Nat.lt_or_ge k91 p_0.Idxs.length with hlt147 | hlt147
       ·refine CW.seq (CW.region (sd rfl (yl_lss rfl rfl rfl (dn (CW.seq (CW.cond_t rfl (lt_t hlt147) (CW.skip (tn ?_))))))))
        refine CW.seq (CW.block (CW.seq (CW.region (sd rfl (yl_move rfl rfl ?_)))))
        obtain ⟨eb148, eo148, _, eA148, _, ebl148, _, eR148, eC148⟩ := RdS.aD hf144 d_Idx (i := k91)
        obtain rfl := eR148
        have eC148 : Cells w134 eb148 (eo148 + k91 * 3) [.string (bs ((p_0.Idxs.getD k91 d_Idx).Name)), .int .i64 ((p_0.Idxs.getD k91 d_Idx).Col), .int .i64 ((p_0.Idxs.getD k91 d_Idx).Stage)] := eC148
        refine sd rfl (yl_ixN un29 ty48 rfl rfl rfl eA148 (sd rfl (yl_loadN ty48 rfl rfl eC148 rfl (sd rfl (yl_alloc ty48 (cs := [.string (bs (([] : Str))), .int .i64 (0), .int .i64 (0)]) rfl rfl ?_)))))
        intro b149 w150 hs151 hz152 hB153 hE154
        refine sd rfl (yl_assign rfl rfl (SeqR.u rfl rfl (yl_store (vs := [.string (bs ((p_0.Idxs.getD k91 d_Idx).Name)), .int .i64 ((p_0.Idxs.getD k91 d_Idx).Col), .int .i64 ((p_0.Idxs.getD k91 d_Idx).Stage)]) ty48 rfl rfl rfl rfl rfl rfl hB153 (Nat.le_of_ble_eq_true rfl) ?_)))
        intro w155 hB156 hO157
        have hB156 : Box w155 b149 48 [.string (bs ((p_0.Idxs.getD k91 d_Idx).Name)), .int .i64 ((p_0.Idxs.getD k91 d_Idx).Col), .int .i64 ((p_0.Idxs.getD k91 d_Idx).Stage)] := hB156
        have hO157z := hO157.size
        refine dn (CW.seq (bcase (i_areLetters ((p_0.Idxs.getD k91 d_Idx).Name) 1) (fun hb159 => ?_) (fun hb159 => ?_)))
        ·refine bcase (i_within ((p_0.Idxs.getD k91 d_Idx).Col) 1 (IntKind.wrap .i64 ((p_0.Cols.length : Int) - 1))) (fun hb164 => ?_) (fun hb164 => ?_)
         ·have hb164p := f_within hb164
          refine bcase (i_isStage ((p_0.Idxs.getD k91 d_Idx).Stage)) (fun hb170 => ?_) (fun hb170 => ?_)
          ·have hb170p := f_i_isStage hb170
           refine bcase (decide (0 < (k91 : Int))) (fun hb176 => ?_) (fun hb176 => ?_)
           ·have hb176p := dec_t hb176
            have q179 := Box.only (Box.ex hf142 hE154) hO157 (by omega)
            have q183 := RdS.only good_Idx (RdS.ex good_Idx hf144 hE154) hO157 (by simp only [Iv]; omega)
            obtain ⟨eb184, eo184, _, eA184, _, ebl184, _, eR184, eC184⟩ := RdS.atD q183 d_Idx (i := (IntKind.wrap .i64 ((k91 : Int) - 1)).toNat) (by first | omega | assumption | (simp only [wI] at *; omega))
            obtain rfl := eR184
            have eC184 : Cells w155 eb184 (eo184 + ((IntKind.wrap .i64 ((k91 : Int) - 1)).toNat) * 3) [.string (bs ((p_0.Idxs.getD ((IntKind.wrap .i64 ((k91 : Int) - 1)).toNat) d_Idx).Name)), .int .i64 ((p_0.Idxs.getD ((IntKind.wrap .i64 ((k91 : Int) - 1)).toNat) d_Idx).Col), .int .i64 ((p_0.Idxs.getD ((IntKind.wrap .i64 ((k91 : Int) - 1)).toNat) d_Idx).Stage)] := eC184
            refine CW.drawsI 36 (vgetI ([.pointer (some ⟨b149, 0 + 0, none⟩), .string (bs ((p_0.Idxs.getD k91 d_Idx).Name)), .bool ((i_areLetters ((p_0.Idxs.getD k91 d_Idx).Name) 1)), .bool (!(i_areLetters ((p_0.Idxs.getD k91 d_Idx).Name) 1)), .bool (!(i_areLetters ((p_0.Idxs.getD k91 d_Idx).Name) 1)), .pointer (some ⟨b149, 0 + 1, none⟩), .int .i64 ((p_0.Idxs.getD k91 d_Idx).Col), .pointer (some ⟨b7, 0 + 1, none⟩), .slice A1 p_0.Cols.length c1, .int .i64 ((p_0.Cols.length : Int)), .int .i64 (IntKind.wrap .i64 ((p_0.Cols.length : Int) - 1)), .bool ((i_within ((p_0.Idxs.getD k91 d_Idx).Col) 1 (IntKind.wrap .i64 ((p_0.Cols.length : Int) - 1)))), .bool (!(i_within ((p_0.Idxs.getD k91 d_Idx).Col) 1 (IntKind.wrap .i64 ((p_0.Cols.length : Int) - 1)))), .bool (!(i_within ((p_0.Idxs.getD k91 d_Idx).Col) 1 (IntKind.wrap .i64 ((p_0.Cols.length : Int) - 1)))), .bool (!(i_within ((p_0.Idxs.getD k91 d_Idx).Col) 1 (IntKind.wrap .i64 ((p_0.Cols.length : Int) - 1)))), .pointer (some ⟨b149, 0 + 2, none⟩), .int .i64 ((p_0.Idxs.getD k91 d_Idx).Stage), .bool ((i_isStage ((p_0.Idxs.getD k91 d_Idx).Stage))), .bool (!(i_isStage ((p_0.Idxs.getD k91 d_Idx).Stage))), .bool (!(i_isStage ((p_0.Idxs.getD k91 d_Idx).Stage))), .bool (!(i_isStage ((p_0.Idxs.getD k91 d_Idx).Stage))), .int .i64 ((k91 : Int)), .bool (decide (0 < (k91 : Int))), .bool (decide (0 < (k91 : Int))), .pointer (some ⟨b149, 0 + 0, none⟩), .string (bs ((p_0.Idxs.getD k91 d_Idx).Name)), .pointer (some ⟨b7, 0 + 2, none⟩), .slice A2 p_0.Idxs.length c2, .int .i64 ((k91 : Int)), .int .i64 (IntKind.wrap .i64 ((k91 : Int) - 1)), .pointer (some ⟨eb184, eo184 + ((IntKind.wrap .i64 ((k91 : Int) - 1)).toNat) * 3, none⟩), .pointer (some ⟨eb184, eo184 + ((IntKind.wrap .i64 ((k91 : Int) - 1)).toNat) * 3 + 0, none⟩), .string (bs ((p_0.Idxs.getD ((IntKind.wrap .i64 ((k91 : Int) - 1)).toNat) d_Idx).Name)), .bool (sLe ((p_0.Idxs.getD k91 d_Idx).Name) ((p_0.Idxs.getD ((IntKind.wrap .i64 ((k91 : Int) - 1)).toNat) d_Idx).Name)), .bool (sLe ((p_0.Idxs.getD k91 d_Idx).Name) ((p_0.Idxs.getD ((IntKind.wrap .i64 ((k91 : Int) - 1)).toNat) d_Idx).Name)), .bool (sLe ((p_0.Idxs.getD k91 d_Idx).Name) ((p_0.Idxs.getD ((IntKind.wrap .i64 ((k91 : Int) - 1)).toNat) d_Idx).Name))].map DetI)) Tryd.follows rfl rfl rfl rfl rfl rfl (vgetI_stable (stD _)) ⟨?_, ?_, ?_, ?_, ?_, ?_, ?_, ?_, ?_, ?_, ?_, ?_, ?_, ?_, ?_, ?_, ?_, ?_, ?_, ?_, ?_, ?_, ?_, ?_, ?_, ?_, ?_, ?_, ?_, ?_, ?_, ?_, ?_, ?_, ?_, ?_, trivial⟩ ?_
            ·exact oI rfl fun h => yl_fieldAddr fd48_0 rfl (h.old 6 _ rfl rfl) kI
            ·exact oI rfl fun h => yl_load1 ty9 rfl (h.dt 0 52 rfl rfl rfl) (((Box.ex hB156 h.ex).cell 0).trans rfl) kI
            ·intro L196 w197 hi198
             exact OpR.op' rfl (yl_call en26 rfl (oc (hi198.dt 1 53 rfl rfl rfl) (oc rfl oz)) (Cal.mono (c_i_areLetters ((p_0.Idxs.getD k91 d_Idx).Name) 1 (okL.getD o3.2.2 ok_d_Idx _)) fun _ _ h => h))
            ·exact oI rfl fun h => yl_not rfl (h.dt 2 54 rfl rfl rfl) kI
            ·exact oI rfl fun h => yl_move rfl (h.dt 3 55 rfl rfl rfl) kI
            ·exact oW rfl rfl rfl rfl (not_t hb159) fun h => yl_fieldAddr fd48_1 rfl (h.old 6 _ rfl rfl) kI
            ·exact oW rfl rfl rfl rfl (not_t hb159) fun h => yl_load1 ty3 rfl (h.dt 5 57 rfl rfl rfl) (((Box.ex hB156 h.ex).cell 1).trans rfl) kI
            ·exact oW rfl rfl rfl rfl (not_t hb159) fun h => yl_fieldAddr fd31_1 rfl (h.old 1 _ rfl rfl) kI
            ·exact oW rfl rfl rfl rfl (not_t hb159) fun h => yl_load1 ty22 rfl (h.dt 7 59 rfl rfl rfl) (((Box.ex q179 h.ex).cell 1).trans rfl) kI
            ·exact oW rfl rfl rfl rfl (not_t hb159) fun h => yl_len un22 rfl (h.dt 8 60 rfl rfl rfl) kI
            ·exact oW rfl rfl rfl rfl (not_t hb159) fun h => yl_sub rfl (h.dt 9 61 rfl rfl rfl) rfl kI
            ·intro L252 w253 hi254
             exact OpR.want rfl rfl (hi254.dt 4 56 rfl rfl rfl) (not_t hb159) (yl_call en27 rfl (oc (hi254.dt 6 58 rfl rfl rfl) (oc rfl (oc (hi254.dt 10 62 rfl rfl rfl) oz))) (Cal.mono (c_i_within ((p_0.Idxs.getD k91 d_Idx).Col) 1 (IntKind.wrap .i64 ((p_0.Cols.length : Int) - 1))) fun _ _ h => h))
            ·exact oW rfl rfl rfl rfl (not_t hb159) fun h => yl_not rfl (h.dt 11 63 rfl rfl rfl) kI
            ·exact oI rfl fun h => yl_pick_f rfl (h.dt 4 56 rfl rfl rfl) (not_t hb159) (h.dt 12 64 rfl rfl rfl) kI
            ·exact oI rfl fun h => yl_move rfl (h.dt 13 65 rfl rfl rfl) kI
            ·exact oW rfl rfl rfl rfl (not_t hb164) fun h => yl_fieldAddr fd48_2 rfl (h.old 6 _ rfl rfl) kI
            ·exact oW rfl rfl rfl rfl (not_t hb164) fun h => yl_load1 ty3 rfl (h.dt 15 67 rfl rfl rfl) (((Box.ex hB156 h.ex).cell 2).trans rfl) kI
            ·intro L292 w293 hi294
             exact OpR.want rfl rfl (hi294.dt 14 66 rfl rfl rfl) (not_t hb164) (yl_call en29 rfl (oc (hi294.dt 16 68 rfl rfl rfl) oz) (Cal.mono (c_i_isStage ((p_0.Idxs.getD k91 d_Idx).Stage)) fun _ _ h => h))
            ·exact oW rfl rfl rfl rfl (not_t hb164) fun h => yl_not rfl (h.dt 17 69 rfl rfl rfl) kI
            ·exact oI rfl fun h => yl_pick_f rfl (h.dt 14 66 rfl rfl rfl) (not_t hb164) (h.dt 18 70 rfl rfl rfl) kI
            ·exact oI rfl fun h => yl_move rfl (h.dt 19 71 rfl rfl rfl) kI
            ·exact oW rfl rfl rfl rfl (not_t hb170) fun h => yl_move rfl (h.old 5 _ rfl rfl) kI
            ·exact oW rfl rfl rfl rfl (not_t hb170) fun h => yl_gtr rfl (h.dt 21 73 rfl rfl rfl) rfl kI
            ·exact oW rfl rfl rfl rfl (not_t hb170) fun h => yl_move rfl (h.dt 22 74 rfl rfl rfl) kI
            ·exact oW rfl rfl rfl rfl hb176 fun h => yl_fieldAddr fd48_0 rfl (h.old 6 _ rfl rfl) kI
            ·exact oW rfl rfl rfl rfl hb176 fun h => yl_load1 ty9 rfl (h.dt 24 76 rfl rfl rfl) (((Box.ex hB156 h.ex).cell 0).trans rfl) kI
            ·exact oW rfl rfl rfl rfl hb176 fun h => yl_fieldAddr fd31_2 rfl (h.old 1 _ rfl rfl) kI
            ·exact oW rfl rfl rfl rfl hb176 fun h => yl_load1 ty29 rfl (h.dt 26 78 rfl rfl rfl) (((Box.ex q179 h.ex).cell 2).trans rfl) kI
            ·exact oW rfl rfl rfl rfl hb176 fun h => yl_move rfl (h.old 5 _ rfl rfl) kI
            ·exact oW rfl rfl rfl rfl hb176 fun h => yl_sub rfl (h.dt 28 80 rfl rfl rfl) rfl kI
            ·intro L374 w375 hi376
             have hE377 := hi376.ex
             have hE377z := Ex.size hE377
             exact OpR.want rfl rfl (hi376.dt 23 75 rfl rfl rfl) hb176 (Yl.sameI (yl_indexAddr un29 ty48 rfl (hi376.dt 27 79 rfl rfl rfl) (hi376.dt 29 81 rfl rfl rfl) eA184 (by first | omega | assumption | (simp only [wI] at *; omega)) (by first | omega | assumption | (simp only [wI] at *; omega)) kI))
            ·exact oW rfl rfl rfl rfl hb176 fun h => yl_fieldAddr fd48_0 rfl (h.dt 30 82 rfl rfl rfl) kI
            ·exact oW rfl rfl rfl rfl hb176 fun h => yl_load1 ty9 rfl (h.dt 31 83 rfl rfl rfl) ((Cells.ex eC184 h.ex) 0 _ rfl) kI
            ·exact oW rfl rfl rfl rfl hb176 fun h => yl_sleq (a := ((p_0.Idxs.getD k91 d_Idx).Name)) (b := ((p_0.Idxs.getD ((IntKind.wrap .i64 ((k91 : Int) - 1)).toNat) d_Idx).Name)) rfl (h.dt 25 77 rfl rfl rfl) (h.dt 32 84 rfl rfl rfl) kI
            ·exact oW rfl rfl rfl rfl (not_t hb170) fun h => yl_pick_t rfl (h.dt 23 75 rfl rfl rfl) hb176 (h.dt 33 85 rfl rfl rfl) kI
            ·exact oI rfl fun h => yl_pick_f rfl (h.dt 20 72 rfl rfl rfl) (not_t hb170) (h.dt 34 86 rfl rfl rfl) kI
            ·intro fl417 fh418 L414 w415 hp416
             have hE419 := hp416.ex
             have hE419z := Ex.size hE419
             refine dn (CW.sub (Sub.cons (d := 1) (hp416.old 1 _ rfl rfl) (Sub.cons (d := 45) (hp416.old 45 _ rfl rfl) (Sub.cons (d := 46) (hp416.old 46 _ rfl rfl) (Sub.cons (d := 47) (hp416.old 47 _ rfl rfl) (Sub.cons (d := 57) (hp416.nt 5 57 rfl rfl rfl) (Sub.cons (d := 58) (hp416.nt 6 58 rfl rfl rfl) (Sub.cons (d := 59) (hp416.nt 7 59 rfl rfl rfl) (Sub.cons (d := 60) (hp416.nt 8 60 rfl rfl rfl) (Sub.cons (d := 61) (hp416.nt 9 61 rfl rfl rfl) (Sub.cons (d := 62) (hp416.nt 10 62 rfl rfl rfl) (Sub.cons (d := 63) (hp416.nt 11 63 rfl rfl rfl) (Sub.cons (d := 64) (hp416.nt 12 64 rfl rfl rfl) (Sub.cons (d := 67) (hp416.nt 15 67 rfl rfl rfl) (Sub.cons (d := 68) (hp416.nt 16 68 rfl rfl rfl) (Sub.cons (d := 69) (hp416.nt 17 69 rfl rfl rfl) (Sub.cons (d := 70) (hp416.nt 18 70 rfl rfl rfl) (Sub.cons (d := 73) (hp416.nt 21 73 rfl rfl rfl) (Sub.cons (d := 74) (hp416.nt 22 74 rfl rfl rfl) (Sub.cons (d := 75) (hp416.nt 23 75 rfl rfl rfl) (Sub.cons (d := 76) (hp416.nt 24 76 rfl rfl rfl) (Sub.cons (d := 77) (hp416.nt 25 77 rfl rfl rfl) (Sub.cons (d := 78) (hp416.nt 26 78 rfl rfl rfl) (Sub.cons (d := 79) (hp416.nt 27 79 rfl rfl rfl) (Sub.cons (d := 80) (hp416.nt 28 80 rfl rfl rfl) (Sub.cons (d := 81) (hp416.nt 29 81 rfl rfl rfl) (Sub.cons (d := 82) (hp416.nt 30 82 rfl rfl rfl) (Sub.cons (d := 83) (hp416.nt 31 83 rfl rfl rfl) (Sub.cons (d := 84) (hp416.nt 32 84 rfl rfl rfl) (Sub.cons (d := 85) (hp416.nt 33 85 rfl rfl rfl) (Sub.cons (d := 86) (hp416.nt 34 86 rfl rfl rfl) (Sub.cons (d := 87) (hp416.nt 35 87 rfl rfl rfl) (Sub.nil _)))))))))))))))))))))))))))))))) ?_)
             refine bcase (sLe ((p_0.Idxs.getD k91 d_Idx).Name) ((p_0.Idxs.getD ((IntKind.wrap .i64 ((k91 : Int) - 1)).toNat) d_Idx).Name)) (fun hb451 => ?_) (fun hb451 => ?_)
             ·refine CW.cond_t rfl hb451 (CW.seq (CW.region (sd rfl (yl_assign rfl rfl (dn (CW.ret (br (tr ?_))))))))
              refine tr ?_
              have hB453 : B_i_GoodTable_1 p_0 k91 () = .ret false := by simp only [B_i_GoodTable_1, hb16, hb21, hb23, hb159, hb164, hb170, hb176, hb451, hL90, cL]
              have hL452 : loopM (B_i_GoodTable_1 p_0) (p_0.Idxs.length - 0) 0 () = .ret false := hI136.symm.trans (loopM.ret hlt147 hB453)
              refine br (tr (rr rfl (.cons rfl .nil) ?_))
              have hM454 : (i_GoodTable p_0) = (false) := by simp only [i_GoodTable, hb16, hb21, hb23, hb159, hb164, hb170, hb176, hb451, hL90, hL452, cL]
              rw [hM454]
              exact ⟨rfl, (Ex.trans (Below.only (Ex.trans hf145 hE154) hO157 (by omega)) hE419)⟩
             ·refine CW.cond_f rfl hb451 (CW.skip (bn (tn (CW.region (sd rfl (yl_inc rfl rfl rfl (by omega) (sd rfl (yl_move rfl rfl (dn ?_)))))))))
              have hB458 : B_i_GoodTable_1 p_0 k91 () = .cont () := by simp only [B_i_GoodTable_1, hb16, hb21, hb23, hb159, hb164, hb170, hb176, hb451, hL90, cL]
              exact ⟨p_0.Idxs.length - (k91 + 1), by omega, k91 + 1, rfl, hlt147, (by omega), rfl, rfl, rfl, rfl, (Box.ex q179 hE419), (RdS.ex good_Str (RdS.only good_Str (RdS.ex good_Str hf143 hE154) hO157 (by simp only [Iv]; omega)) hE419), (RdS.ex good_Idx q183 hE419), (Ex.trans (Below.only (Ex.trans hf145 hE154) hO157 (by omega)) hE419), (loopM.cont hlt147 hB458).symm.trans hI136⟩
           ·have hb176p := dec_f hb176
            have q469 := Box.only (Box.ex hf142 hE154) hO157 (by omega)
            refine CW.drawsI 36 (vgetI ([.pointer (some ⟨b149, 0 + 0, none⟩), .string (bs ((p_0.Idxs.getD k91 d_Idx).Name)), .bool ((i_areLetters ((p_0.Idxs.getD k91 d_Idx).Name) 1)), .bool (!(i_areLetters ((p_0.Idxs.getD k91 d_Idx).Name) 1)), .bool (!(i_areLetters ((p_0.Idxs.getD k91 d_Idx).Name) 1)), .pointer (some ⟨b149, 0 + 1, none⟩), .int .i64 ((p_0.Idxs.getD k91 d_Idx).Col), .pointer (some ⟨b7, 0 + 1, none⟩), .slice A1 p_0.Cols.length c1, .int .i64 ((p_0.Cols.length : Int)), .int .i64 (IntKind.wrap .i64 ((p_0.Cols.length : Int) - 1)), .bool ((i_within ((p_0.Idxs.getD k91 d_Idx).Col) 1 (IntKind.wrap .i64 ((p_0.Cols.length : Int) - 1)))), .bool (!(i_within ((p_0.Idxs.getD k91 d_Idx).Col) 1 (IntKind.wrap .i64 ((p_0.Cols.length : Int) - 1)))), .bool (!(i_within ((p_0.Idxs.getD k91 d_Idx).Col) 1 (IntKind.wrap .i64 ((p_0.Cols.length : Int) - 1)))), .bool (!(i_within ((p_0.Idxs.getD k91 d_Idx).Col) 1 (IntKind.wrap .i64 ((p_0.Cols.length : Int) - 1)))), .pointer (some ⟨b149, 0 + 2, none⟩), .int .i64 ((p_0.Idxs.getD k91 d_Idx).Stage), .bool ((i_isStage ((p_0.Idxs.getD k91 d_Idx).Stage))), .bool (!(i_isStage ((p_0.Idxs.getD k91 d_Idx).Stage))), .bool (!(i_isStage ((p_0.Idxs.getD k91 d_Idx).Stage))), .bool (!(i_isStage ((p_0.Idxs.getD k91 d_Idx).Stage))), .int .i64 ((k91 : Int)), .bool (decide (0 < (k91 : Int))), .bool (decide (0 < (k91 : Int))), undef, undef, undef, undef, undef, undef, undef, undef, undef, undef, .bool (false), .bool (false)].map DetI)) Tryd.follows rfl rfl rfl rfl rfl rfl (vgetI_stable (stD _)) ⟨?_, ?_, ?_, ?_, ?_, ?_, ?_, ?_, ?_, ?_, ?_, ?_, ?_, ?_, ?_, ?_, ?_, ?_, ?_, ?_, ?_, ?_, ?_, ?_, ?_, ?_, ?_, ?_, ?_, ?_, ?_, ?_, ?_, ?_, ?_, ?_, trivial⟩ ?_
            ·exact oI rfl fun h => yl_fieldAddr fd48_0 rfl (h.old 6 _ rfl rfl) kI
            ·exact oI rfl fun h => yl_load1 ty9 rfl (h.dt 0 52 rfl rfl rfl) (((Box.ex hB156 h.ex).cell 0).trans rfl) kI
            ·intro L483 w484 hi485
             exact OpR.op' rfl (yl_call en26 rfl (oc (hi485.dt 1 53 rfl rfl rfl) (oc rfl oz)) (Cal.mono (c_i_areLetters ((p_0.Idxs.getD k91 d_Idx).Name) 1 (okL.getD o3.2.2 ok_d_Idx _)) fun _ _ h => h))
            ·exact oI rfl fun h => yl_not rfl (h.dt 2 54 rfl rfl rfl) kI
            ·exact oI rfl fun h => yl_move rfl (h.dt 3 55 rfl rfl rfl) kI
            ·exact oW rfl rfl rfl rfl (not_t hb159) fun h => yl_fieldAddr fd48_1 rfl (h.old 6 _ rfl rfl) kI
            ·exact oW rfl rfl rfl rfl (not_t hb159) fun h => yl_load1 ty3 rfl (h.dt 5 57 rfl rfl rfl) (((Box.ex hB156 h.ex).cell 1).trans rfl) kI
            ·exact oW rfl rfl rfl rfl (not_t hb159) fun h => yl_fieldAddr fd31_1 rfl (h.old 1 _ rfl rfl) kI
            ·exact oW rfl rfl rfl rfl (not_t hb159) fun h => yl_load1 ty22 rfl (h.dt 7 59 rfl rfl rfl) (((Box.ex q469 h.ex).cell 1).trans rfl) kI
            ·exact oW rfl rfl rfl rfl (not_t hb159) fun h => yl_len un22 rfl (h.dt 8 60 rfl rfl rfl) kI
            ·exact oW rfl rfl rfl rfl (not_t hb159) fun h => yl_sub rfl (h.dt 9 61 rfl rfl rfl) rfl kI
            ·intro L539 w540 hi541
             exact OpR.want rfl rfl (hi541.dt 4 56 rfl rfl rfl) (not_t hb159) (yl_call en27 rfl (oc (hi541.dt 6 58 rfl rfl rfl) (oc rfl (oc (hi541.dt 10 62 rfl rfl rfl) oz))) (Cal.mono (c_i_within ((p_0.Idxs.getD k91 d_Idx).Col) 1 (IntKind.wrap .i64 ((p_0.Cols.length : Int) - 1))) fun _ _ h => h))
            ·exact oW rfl rfl rfl rfl (not_t hb159) fun h => yl_not rfl (h.dt 11 63 rfl rfl rfl) kI
            ·exact oI rfl fun h => yl_pick_f rfl (h.dt 4 56 rfl rfl rfl) (not_t hb159) (h.dt 12 64 rfl rfl rfl) kI
            ·exact oI rfl fun h => yl_move rfl (h.dt 13 65 rfl rfl rfl) kI
            ·exact oW rfl rfl rfl rfl (not_t hb164) fun h => yl_fieldAddr fd48_2 rfl (h.old 6 _ rfl rfl) kI
            ·exact oW rfl rfl rfl rfl (not_t hb164) fun h => yl_load1 ty3 rfl (h.dt 15 67 rfl rfl rfl) (((Box.ex hB156 h.ex).cell 2).trans rfl) kI
            ·intro L579 w580 hi581
             exact OpR.want rfl rfl (hi581.dt 14 66 rfl rfl rfl) (not_t hb164) (yl_call en29 rfl (oc (hi581.dt 16 68 rfl rfl rfl) oz) (Cal.mono (c_i_isStage ((p_0.Idxs.getD k91 d_Idx).Stage)) fun _ _ h => h))
            ·exact oW rfl rfl rfl rfl (not_t hb164) fun h => yl_not rfl (h.dt 17 69 rfl rfl rfl) kI
            ·exact oI rfl fun h => yl_pick_f rfl (h.dt 14 66 rfl rfl rfl) (not_t hb164) (h.dt 18 70 rfl rfl rfl) kI
            ·exact oI rfl fun h => yl_move rfl (h.dt 19 71 rfl rfl rfl) kI
            ·exact oW rfl rfl rfl rfl (not_t hb170) fun h => yl_move rfl (h.old 5 _ rfl rfl) kI
            ·exact oW rfl rfl rfl rfl (not_t hb170) fun h => yl_gtr rfl (h.dt 21 73 rfl rfl rfl) rfl kI
            ·exact oW rfl rfl rfl rfl (not_t hb170) fun h => yl_move rfl (h.dt 22 74 rfl rfl rfl) kI
            ·exact oS rfl rfl rfl rfl rfl hb176
            ·exact oS rfl rfl rfl rfl rfl hb176
            ·exact oS rfl rfl rfl rfl rfl hb176
            ·exact oS rfl rfl rfl rfl rfl hb176
            ·exact oS rfl rfl rfl rfl rfl hb176
            ·exact oS rfl rfl rfl rfl rfl hb176
            ·exact oS rfl rfl rfl rfl rfl hb176
            ·exact oS rfl rfl rfl rfl rfl hb176
            ·exact oS rfl rfl rfl rfl rfl hb176
            ·exact oS rfl rfl rfl rfl rfl hb176
            ·exact oW rfl rfl rfl rfl (not_t hb170) fun h => yl_pick_f rfl (h.dt 23 75 rfl rfl rfl) hb176 rfl kI
            ·exact oI rfl fun h => yl_pick_f rfl (h.dt 20 72 rfl rfl rfl) (not_t hb170) (h.dt 34 86 rfl rfl rfl) kI
            ·intro fl689 fh690 L686 w687 hp688
             have hE691 := hp688.ex
             have hE691z := Ex.size hE691
             refine dn (CW.sub (Sub.cons (d := 1) (hp688.old 1 _ rfl rfl) (Sub.cons (d := 45) (hp688.old 45 _ rfl rfl) (Sub.cons (d := 46) (hp688.old 46 _ rfl rfl) (Sub.cons (d := 47) (hp688.old 47 _ rfl rfl) (Sub.cons (d := 57) (hp688.nt 5 57 rfl rfl rfl) (Sub.cons (d := 58) (hp688.nt 6 58 rfl rfl rfl) (Sub.cons (d := 59) (hp688.nt 7 59 rfl rfl rfl) (Sub.cons (d := 60) (hp688.nt 8 60 rfl rfl rfl) (Sub.cons (d := 61) (hp688.nt 9 61 rfl rfl rfl) (Sub.cons (d := 62) (hp688.nt 10 62 rfl rfl rfl) (Sub.cons (d := 63) (hp688.nt 11 63 rfl rfl rfl) (Sub.cons (d := 64) (hp688.nt 12 64 rfl rfl rfl) (Sub.cons (d := 67) (hp688.nt 15 67 rfl rfl rfl) (Sub.cons (d := 68) (hp688.nt 16 68 rfl rfl rfl) (Sub.cons (d := 69) (hp688.nt 17 69 rfl rfl rfl) (Sub.cons (d := 70) (hp688.nt 18 70 rfl rfl rfl) (Sub.cons (d := 73) (hp688.nt 21 73 rfl rfl rfl) (Sub.cons (d := 74) (hp688.nt 22 74 rfl rfl rfl) (Sub.cons (d := 75) (hp688.nt 23 75 rfl rfl rfl) (Sub.cons (d := 76) (hp688.nt 24 76 rfl rfl rfl) (Sub.cons (d := 77) (hp688.nt 25 77 rfl rfl rfl) (Sub.cons (d := 78) (hp688.nt 26 78 rfl rfl rfl) (Sub.cons (d := 79) (hp688.nt 27 79 rfl rfl rfl) (Sub.cons (d := 80) (hp688.nt 28 80 rfl rfl rfl) (Sub.cons (d := 81) (hp688.nt 29 81 rfl rfl rfl) (Sub.cons (d := 82) (hp688.nt 30 82 rfl rfl rfl) (Sub.cons (d := 83) (hp688.nt 31 83 rfl rfl rfl) (Sub.cons (d := 84) (hp688.nt 32 84 rfl rfl rfl) (Sub.cons (d := 85) (hp688.nt 33 85 rfl rfl rfl) (Sub.cons (d := 86) (hp688.nt 34 86 rfl rfl rfl) (Sub.cons (d := 87) (hp688.nt 35 87 rfl rfl rfl) (Sub.nil _)))))))))))))))))))))))))))))))) ?_)
             refine CW.cond_f rfl rfl (CW.skip (bn (tn (CW.region (sd rfl (yl_inc rfl rfl rfl (by omega) (sd rfl (yl_move rfl rfl (dn ?_)))))))))
             have hB723 : B_i_GoodTable_1 p_0 k91 () = .cont () := by simp only [B_i_GoodTable_1, hb16, hb21, hb23, hb159, hb164, hb170, hb176, hL90, cL]
             exact ⟨p_0.Idxs.length - (k91 + 1), by omega, k91 + 1, rfl, hlt147, (by omega), rfl, rfl, rfl, rfl, (Box.ex q469 hE691), (RdS.ex good_Str (RdS.only good_Str (RdS.ex good_Str hf143 hE154) hO157 (by simp only [Iv]; omega)) hE691), (RdS.ex good_Idx (RdS.only good_Idx (RdS.ex good_Idx hf144 hE154) hO157 (by simp only [Iv]; omega)) hE691), (Ex.trans (Below.only (Ex.trans hf145 hE154) hO157 (by omega)) hE691), (loopM.cont hlt147 hB723).symm.trans hI136⟩
          ·refine CW.drawsI 36 (vgetI ([.pointer (some ⟨b149, 0 + 0, none⟩), .string (bs ((p_0.Idxs.getD k91 d_Idx).Name)), .bool ((i_areLetters ((p_0.Idxs.getD k91 d_Idx).Name) 1)), .bool (!(i_areLetters ((p_0.Idxs.getD k91 d_Idx).Name) 1)), .bool (!(i_areLetters ((p_0.Idxs.getD k91 d_Idx).Name) 1)), .pointer (some ⟨b149, 0 + 1, none⟩), .int .i64 ((p_0.Idxs.getD k91 d_Idx).Col), .pointer (some ⟨b7, 0 + 1, none⟩), .slice A1 p_0.Cols.length c1, .int .i64 ((p_0.Cols.length : Int)), .int .i64 (IntKind.wrap .i64 ((p_0.Cols.length : Int) - 1)), .bool ((i_within ((p_0.Idxs.getD k91 d_Idx).Col) 1 (IntKind.wrap .i64 ((p_0.Cols.length : Int) - 1)))), .bool (!(i_within ((p_0.Idxs.getD k91 d_Idx).Col) 1 (IntKind.wrap .i64 ((p_0.Cols.length : Int) - 1)))), .bool (!(i_within ((p_0.Idxs.getD k91 d_Idx).Col) 1 (IntKind.wrap .i64 ((p_0.Cols.length : Int) - 1)))), .bool (!(i_within ((p_0.Idxs.getD k91 d_Idx).Col) 1 (IntKind.wrap .i64 ((p_0.Cols.length : Int) - 1)))), .pointer (some ⟨b149, 0 + 2, none⟩), .int .i64 ((p_0.Idxs.getD k91 d_Idx).Stage), .bool ((i_isStage ((p_0.Idxs.getD k91 d_Idx).Stage))), .bool (!(i_isStage ((p_0.Idxs.getD k91 d_Idx).Stage))), .bool (!(i_isStage ((p_0.Idxs.getD k91 d_Idx).Stage))), .bool (!(i_isStage ((p_0.Idxs.getD k91 d_Idx).Stage))), undef, undef, undef, undef, undef, undef, undef, undef, undef, undef, undef, undef, undef, undef, .bool (true)].map DetI)) Tryd.follows rfl rfl rfl rfl rfl rfl (vgetI_stable (stD _)) ⟨?_, ?_, ?_, ?_, ?_, ?_, ?_, ?_, ?_, ?_, ?_, ?_, ?_, ?_, ?_, ?_, ?_, ?_, ?_, ?_, ?_, ?_, ?_, ?_, ?_, ?_, ?_, ?_, ?_, ?_, ?_, ?_, ?_, ?_, ?_, ?_, trivial⟩ ?_
           ·exact oI rfl fun h => yl_fieldAddr fd48_0 rfl (h.old 6 _ rfl rfl) kI
           ·exact oI rfl fun h => yl_load1 ty9 rfl (h.dt 0 52 rfl rfl rfl) (((Box.ex hB156 h.ex).cell 0).trans rfl) kI
           ·intro L750 w751 hi752
            exact OpR.op' rfl (yl_call en26 rfl (oc (hi752.dt 1 53 rfl rfl rfl) (oc rfl oz)) (Cal.mono (c_i_areLetters ((p_0.Idxs.getD k91 d_Idx).Name) 1 (okL.getD o3.2.2 ok_d_Idx _)) fun _ _ h => h))
           ·exact oI rfl fun h => yl_not rfl (h.dt 2 54 rfl rfl rfl) kI
           ·exact oI rfl fun h => yl_move rfl (h.dt 3 55 rfl rfl rfl) kI
           ·exact oW rfl rfl rfl rfl (not_t hb159) fun h => yl_fieldAddr fd48_1 rfl (h.old 6 _ rfl rfl) kI
           ·exact oW rfl rfl rfl rfl (not_t hb159) fun h => yl_load1 ty3 rfl (h.dt 5 57 rfl rfl rfl) (((Box.ex hB156 h.ex).cell 1).trans rfl) kI
           ·exact oW rfl rfl rfl rfl (not_t hb159) fun h => yl_fieldAddr fd31_1 rfl (h.old 1 _ rfl rfl) kI
           ·intro L787 w788 hi789
            have hE790 := hi789.ex
            have hE790z := Ex.size hE790
            exact OpR.want rfl rfl (hi789.dt 4 56 rfl rfl rfl) (not_t hb159) (Yl.sameI (yl_load1 ty22 rfl (hi789.dt 7 59 rfl rfl rfl) (((Box.ex (Box.only (Box.ex hf142 hE154) hO157 (by omega)) hE790).cell 1).trans rfl) kI))
           ·exact oW rfl rfl rfl rfl (not_t hb159) fun h => yl_len un22 rfl (h.dt 8 60 rfl rfl rfl) kI
           ·exact oW rfl rfl rfl rfl (not_t hb159) fun h => yl_sub rfl (h.dt 9 61 rfl rfl rfl) rfl kI
           ·intro L806 w807 hi808
            exact OpR.want rfl rfl (hi808.dt 4 56 rfl rfl rfl) (not_t hb159) (yl_call en27 rfl (oc (hi808.dt 6 58 rfl rfl rfl) (oc rfl (oc (hi808.dt 10 62 rfl rfl rfl) oz))) (Cal.mono (c_i_within ((p_0.Idxs.getD k91 d_Idx).Col) 1 (IntKind.wrap .i64 ((p_0.Cols.length : Int) - 1))) fun _ _ h => h))
           ·exact oW rfl rfl rfl rfl (not_t hb159) fun h => yl_not rfl (h.dt 11 63 rfl rfl rfl) kI
           ·exact oI rfl fun h => yl_pick_f rfl (h.dt 4 56 rfl rfl rfl) (not_t hb159) (h.dt 12 64 rfl rfl rfl) kI
           ·exact oI rfl fun h => yl_move rfl (h.dt 13 65 rfl rfl rfl) kI
           ·exact oW rfl rfl rfl rfl (not_t hb164) fun h => yl_fieldAddr fd48_2 rfl (h.old 6 _ rfl rfl) kI
           ·exact oW rfl rfl rfl rfl (not_t hb164) fun h => yl_load1 ty3 rfl (h.dt 15 67 rfl rfl rfl) (((Box.ex hB156 h.ex).cell 2).trans rfl) kI
           ·intro L846 w847 hi848
            exact OpR.want rfl rfl (hi848.dt 14 66 rfl rfl rfl) (not_t hb164) (yl_call en29 rfl (oc (hi848.dt 16 68 rfl rfl rfl) oz) (Cal.mono (c_i_isStage ((p_0.Idxs.getD k91 d_Idx).Stage)) fun _ _ h => h))
           ·exact oW rfl rfl rfl rfl (not_t hb164) fun h => yl_not rfl (h.dt 17 69 rfl rfl rfl) kI
           ·exact oI rfl fun h => yl_pick_f rfl (h.dt 14 66 rfl rfl rfl) (not_t hb164) (h.dt 18 70 rfl rfl rfl) kI
           ·exact oI rfl fun h => yl_move rfl (h.dt 19 71 rfl rfl rfl) kI
           ·exact oS rfl rfl rfl rfl rfl (not_f hb170)
           ·exact oS rfl rfl rfl rfl rfl (not_f hb170)
           ·exact oS rfl rfl rfl rfl rfl (not_f hb170)
           ·exact oU rfl rfl rfl rfl rfl
           ·exact oU rfl rfl rfl rfl rfl
           ·exact oU rfl rfl rfl rfl rfl
           ·exact oU rfl rfl rfl rfl rfl
           ·exact oU rfl rfl rfl rfl rfl
           ·exact oU rfl rfl rfl rfl rfl
           ·exact oU rfl rfl rfl rfl rfl
           ·exact oU rfl rfl rfl rfl rfl
           ·exact oU rfl rfl rfl rfl rfl
           ·exact oU rfl rfl rfl rfl rfl
           ·exact oS rfl rfl rfl rfl rfl (not_f hb170)
           ·exact oI rfl fun h => yl_pick_t rfl (h.dt 20 72 rfl rfl rfl) (not_f hb170) rfl kI
           ·intro fl951 fh952 L948 w949 hp950
            have hE953 := hp950.ex
            have hE953z := Ex.size hE953
            refine dn (CW.sub (Sub.cons (d := 1) (hp950.old 1 _ rfl rfl) (Sub.cons (d := 45) (hp950.old 45 _ rfl rfl) (Sub.cons (d := 46) (hp950.old 46 _ rfl rfl) (Sub.cons (d := 47) (hp950.old 47 _ rfl rfl) (Sub.cons (d := 57) (hp950.nt 5 57 rfl rfl rfl) (Sub.cons (d := 58) (hp950.nt 6 58 rfl rfl rfl) (Sub.cons (d := 59) (hp950.nt 7 59 rfl rfl rfl) (Sub.cons (d := 60) (hp950.nt 8 60 rfl rfl rfl) (Sub.cons (d := 61) (hp950.nt 9 61 rfl rfl rfl) (Sub.cons (d := 62) (hp950.nt 10 62 rfl rfl rfl) (Sub.cons (d := 63) (hp950.nt 11 63 rfl rfl rfl) (Sub.cons (d := 64) (hp950.nt 12 64 rfl rfl rfl) (Sub.cons (d := 67) (hp950.nt 15 67 rfl rfl rfl) (Sub.cons (d := 68) (hp950.nt 16 68 rfl rfl rfl) (Sub.cons (d := 69) (hp950.nt 17 69 rfl rfl rfl) (Sub.cons (d := 70) (hp950.nt 18 70 rfl rfl rfl) (Sub.cons (d := 73) (hp950.nt 21 73 rfl rfl rfl) (Sub.cons (d := 74) (hp950.nt 22 74 rfl rfl rfl) (Sub.cons (d := 75) (hp950.nt 23 75 rfl rfl rfl) (Sub.cons (d := 76) (hp950.nt 24 76 rfl rfl rfl) (Sub.cons (d := 77) (hp950.nt 25 77 rfl rfl rfl) (Sub.cons (d := 78) (hp950.nt 26 78 rfl rfl rfl) (Sub.cons (d := 79) (hp950.nt 27 79 rfl rfl rfl) (Sub.cons (d := 80) (hp950.nt 28 80 rfl rfl rfl) (Sub.cons (d := 81) (hp950.nt 29 81 rfl rfl rfl) (Sub.cons (d := 82) (hp950.nt 30 82 rfl rfl rfl) (Sub.cons (d := 83) (hp950.nt 31 83 rfl rfl rfl) (Sub.cons (d := 84) (hp950.nt 32 84 rfl rfl rfl) (Sub.cons (d := 85) (hp950.nt 33 85 rfl rfl rfl) (Sub.cons (d := 86) (hp950.nt 34 86 rfl rfl rfl) (Sub.cons (d := 87) (hp950.nt 35 87 rfl rfl rfl) (Sub.nil _)))))))))))))))))))))))))))))))) ?_)
            refine CW.cond_t rfl rfl (CW.seq (CW.region (sd rfl (yl_assign rfl rfl (dn (CW.ret (br (tr ?_))))))))
            refine tr ?_
            have hB986 : B_i_GoodTable_1 p_0 k91 () = .ret false := by simp only [B_i_GoodTable_1, hb16, hb21, hb23, hb159, hb164, hb170, hL90, cL]
            have hL985 : loopM (B_i_GoodTable_1 p_0) (p_0.Idxs.length - 0) 0 () = .ret false := hI136.symm.trans (loopM.ret hlt147 hB986)
            refine br (tr (rr rfl (.cons rfl .nil) ?_))
            have hM987 : (i_GoodTable p_0) = (false) := by simp only [i_GoodTable, hb16, hb21, hb23, hb159, hb164, hb170, hL90, hL985, cL]
            rw [hM987]
            exact ⟨rfl, (Ex.trans (Below.only (Ex.trans hf145 hE154) hO157 (by omega)) hE953)⟩
         ·refine CW.drawsI 36 (vgetI ([.pointer (some ⟨b149, 0 + 0, none⟩), .string (bs ((p_0.Idxs.getD k91 d_Idx).Name)), .bool ((i_areLetters ((p_0.Idxs.getD k91 d_Idx).Name) 1)), .bool (!(i_areLetters ((p_0.Idxs.getD k91 d_Idx).Name) 1)), .bool (!(i_areLetters ((p_0.Idxs.getD k91 d_Idx).Name) 1)), .pointer (some ⟨b149, 0 + 1, none⟩), .int .i64 ((p_0.Idxs.getD k91 d_Idx).Col), .pointer (some ⟨b7, 0 + 1, none⟩), .slice A1 p_0.Cols.length c1, .int .i64 ((p_0.Cols.length : Int)), .int .i64 (IntKind.wrap .i64 ((p_0.Cols.length : Int) - 1)), .bool ((i_within ((p_0.Idxs.getD k91 d_Idx).Col) 1 (IntKind.wrap .i64 ((p_0.Cols.length : Int) - 1)))), .bool (!(i_within ((p_0.Idxs.getD k91 d_Idx).Col) 1 (IntKind.wrap .i64 ((p_0.Cols.length : Int) - 1)))), .bool (!(i_within ((p_0.Idxs.getD k91 d_Idx).Col) 1 (IntKind.wrap .i64 ((p_0.Cols.length : Int) - 1)))), .bool (!(i_within ((p_0.Idxs.getD k91 d_Idx).Col) 1 (IntKind.wrap .i64 ((p_0.Cols.length : Int) - 1)))), undef, undef, undef, undef, .bool (true), .bool (true), undef, undef, undef, undef, undef, undef, undef, undef, undef, undef, undef, undef, undef, undef, .bool (true)].map DetI)) Tryd.follows rfl rfl rfl rfl rfl rfl (vgetI_stable (stD _)) ⟨?_, ?_, ?_, ?_, ?_, ?_, ?_, ?_, ?_, ?_, ?_, ?_, ?_, ?_, ?_, ?_, ?_, ?_, ?_, ?_, ?_, ?_, ?_, ?_, ?_, ?_, ?_, ?_, ?_, ?_, ?_, ?_, ?_, ?_, ?_, ?_, trivial⟩ ?_
          ·exact oI rfl fun h => yl_fieldAddr fd48_0 rfl (h.old 6 _ rfl rfl) kI
          ·exact oI rfl fun h => yl_load1 ty9 rfl (h.dt 0 52 rfl rfl rfl) (((Box.ex hB156 h.ex).cell 0).trans rfl) kI
          ·intro L1006 w1007 hi1008
           exact OpR.op' rfl (yl_call en26 rfl (oc (hi1008.dt 1 53 rfl rfl rfl) (oc rfl oz)) (Cal.mono (c_i_areLetters ((p_0.Idxs.getD k91 d_Idx).Name) 1 (okL.getD o3.2.2 ok_d_Idx _)) fun _ _ h => h))
          ·exact oI rfl fun h => yl_not rfl (h.dt 2 54 rfl rfl rfl) kI
          ·exact oI rfl fun h => yl_move rfl (h.dt 3 55 rfl rfl rfl) kI
          ·exact oW rfl rfl rfl rfl (not_t hb159) fun h => yl_fieldAddr fd48_1 rfl (h.old 6 _ rfl rfl) kI
          ·exact oW rfl rfl rfl rfl (not_t hb159) fun h => yl_load1 ty3 rfl (h.dt 5 57 rfl rfl rfl) (((Box.ex hB156 h.ex).cell 1).trans rfl) kI
          ·exact oW rfl rfl rfl rfl (not_t hb159) fun h => yl_fieldAddr fd31_1 rfl (h.old 1 _ rfl rfl) kI
          ·intro L1043 w1044 hi1045
           have hE1046 := hi1045.ex
           have hE1046z := Ex.size hE1046
           exact OpR.want rfl rfl (hi1045.dt 4 56 rfl rfl rfl) (not_t hb159) (Yl.sameI (yl_load1 ty22 rfl (hi1045.dt 7 59 rfl rfl rfl) (((Box.ex (Box.only (Box.ex hf142 hE154) hO157 (by omega)) hE1046).cell 1).trans rfl) kI))
          ·exact oW rfl rfl rfl rfl (not_t hb159) fun h => yl_len un22 rfl (h.dt 8 60 rfl rfl rfl) kI
          ·exact oW rfl rfl rfl rfl (not_t hb159) fun h => yl_sub rfl (h.dt 9 61 rfl rfl rfl) rfl kI
          ·intro L1062 w1063 hi1064
           exact OpR.want rfl rfl (hi1064.dt 4 56 rfl rfl rfl) (not_t hb159) (yl_call en27 rfl (oc (hi1064.dt 6 58 rfl rfl rfl) (oc rfl (oc (hi1064.dt 10 62 rfl rfl rfl) oz))) (Cal.mono (c_i_within ((p_0.Idxs.getD k91 d_Idx).Col) 1 (IntKind.wrap .i64 ((p_0.Cols.length : Int) - 1))) fun _ _ h => h))
          ·exact oW rfl rfl rfl rfl (not_t hb159) fun h => yl_not rfl (h.dt 11 63 rfl rfl rfl) kI
          ·exact oI rfl fun h => yl_pick_f rfl (h.dt 4 56 rfl rfl rfl) (not_t hb159) (h.dt 12 64 rfl rfl rfl) kI
          ·exact oI rfl fun h => yl_move rfl (h.dt 13 65 rfl rfl rfl) kI
          ·exact oS rfl rfl rfl rfl rfl (not_f hb164)
          ·exact oS rfl rfl rfl rfl rfl (not_f hb164)
          ·exact oS rfl rfl rfl rfl rfl (not_f hb164)
          ·exact oS rfl rfl rfl rfl rfl (not_f hb164)
          ·exact oI rfl fun h => yl_pick_t rfl (h.dt 14 66 rfl rfl rfl) (not_f hb164) rfl kI
          ·exact oI rfl fun h => yl_move rfl (h.dt 19 71 rfl rfl rfl) kI
          ·exact oS rfl rfl rfl rfl rfl rfl
          ·exact oS rfl rfl rfl rfl rfl rfl
          ·exact oS rfl rfl rfl rfl rfl rfl
          ·exact oU rfl rfl rfl rfl rfl
          ·exact oU rfl rfl rfl rfl rfl
          ·exact oU rfl rfl rfl rfl rfl
          ·exact oU rfl rfl rfl rfl rfl
          ·exact oU rfl rfl rfl rfl rfl
          ·exact oU rfl rfl rfl rfl rfl
          ·exact oU rfl rfl rfl rfl rfl
          ·exact oU rfl rfl rfl rfl rfl
          ·exact oU rfl rfl rfl rfl rfl
          ·exact oU rfl rfl rfl rfl rfl
          ·exact oS rfl rfl rfl rfl rfl rfl
          ·exact oI rfl fun h => yl_pick_t rfl (h.dt 20 72 rfl rfl rfl) rfl rfl kI
          ·intro fl1199 fh1200 L1196 w1197 hp1198
           have hE1201 := hp1198.ex
           have hE1201z := Ex.size hE1201
           refine dn (CW.sub (Sub.cons (d := 1) (hp1198.old 1 _ rfl rfl) (Sub.cons (d := 45) (hp1198.old 45 _ rfl rfl) (Sub.cons (d := 46) (hp1198.old 46 _ rfl rfl) (Sub.cons (d := 47) (hp1198.old 47 _ rfl rfl) (Sub.cons (d := 57) (hp1198.nt 5 57 rfl rfl rfl) (Sub.cons (d := 58) (hp1198.nt 6 58 rfl rfl rfl) (Sub.cons (d := 59) (hp1198.nt 7 59 rfl rfl rfl) (Sub.cons (d := 60) (hp1198.nt 8 60 rfl rfl rfl) (Sub.cons (d := 61) (hp1198.nt 9 61 rfl rfl rfl) (Sub.cons (d := 62) (hp1198.nt 10 62 rfl rfl rfl) (Sub.cons (d := 63) (hp1198.nt 11 63 rfl rfl rfl) (Sub.cons (d := 64) (hp1198.nt 12 64 rfl rfl rfl) (Sub.cons (d := 67) (hp1198.nt 15 67 rfl rfl rfl) (Sub.cons (d := 68) (hp1198.nt 16 68 rfl rfl rfl) (Sub.cons (d := 69) (hp1198.nt 17 69 rfl rfl rfl) (Sub.cons (d := 70) (hp1198.nt 18 70 rfl rfl rfl) (Sub.cons (d := 73) (hp1198.nt 21 73 rfl rfl rfl) (Sub.cons (d := 74) (hp1198.nt 22 74 rfl rfl rfl) (Sub.cons (d := 75) (hp1198.nt 23 75 rfl rfl rfl) (Sub.cons (d := 76) (hp1198.nt 24 76 rfl rfl rfl) (Sub.cons (d := 77) (hp1198.nt 25 77 rfl rfl rfl) (Sub.cons (d := 78) (hp1198.nt 26 78 rfl rfl rfl) (Sub.cons (d := 79) (hp1198.nt 27 79 rfl rfl rfl) (Sub.cons (d := 80) (hp1198.nt 28 80 rfl rfl rfl) (Sub.cons (d := 81) (hp1198.nt 29 81 rfl rfl rfl) (Sub.cons (d := 82) (hp1198.nt 30 82 rfl rfl rfl) (Sub.cons (d := 83) (hp1198.nt 31 83 rfl rfl rfl) (Sub.cons (d := 84) (hp1198.nt 32 84 rfl rfl rfl) (Sub.cons (d := 85) (hp1198.nt 33 85 rfl rfl rfl) (Sub.cons (d := 86) (hp1198.nt 34 86 rfl rfl rfl) (Sub.cons (d := 87) (hp1198.nt 35 87 rfl rfl rfl) (Sub.nil _)))))))))))))))))))))))))))))))) ?_)
           refine CW.cond_t rfl rfl (CW.seq (CW.region (sd rfl (yl_assign rfl rfl (dn (CW.ret (br (tr ?_))))))))
           refine tr ?_
           have hB1234 : B_i_GoodTable_1 p_0 k91 () = .ret false := by simp only [B_i_GoodTable_1, hb16, hb21, hb23, hb159, hb164, hL90, cL]
           have hL1233 : loopM (B_i_GoodTable_1 p_0) (p_0.Idxs.length - 0) 0 () = .ret false := hI136.symm.trans (loopM.ret hlt147 hB1234)
           refine br (tr (rr rfl (.cons rfl .nil) ?_))
           have hM1235 : (i_GoodTable p_0) = (false) := by simp only [i_GoodTable, hb16, hb21, hb23, hb159, hb164, hL90, hL1233, cL]
           rw [hM1235]
           exact ⟨rfl, (Ex.trans (Below.only (Ex.trans hf145 hE154) hO157 (by omega)) hE1201)⟩
        ·refine CW.drawsI 36 (vgetI ([.pointer (some ⟨b149, 0 + 0, none⟩), .string (bs ((p_0.Idxs.getD k91 d_Idx).Name)), .bool ((i_areLetters ((p_0.Idxs.getD k91 d_Idx).Name) 1)), .bool (!(i_areLetters ((p_0.Idxs.getD k91 d_Idx).Name) 1)), .bool (!(i_areLetters ((p_0.Idxs.getD k91 d_Idx).Name) 1)), undef, undef, undef, undef, undef, undef, undef, undef, .bool (true), .bool (true), undef, undef, undef, undef, .bool (true), .bool (true), undef, undef, undef, undef, undef, undef, undef, undef, undef, undef, undef, undef, undef, undef, .bool (true)].map DetI)) Tryd.follows rfl rfl rfl rfl rfl rfl (vgetI_stable (stD _)) ⟨?_, ?_, ?_, ?_, ?_, ?_, ?_, ?_, ?_, ?_, ?_, ?_, ?_, ?_, ?_, ?_, ?_, ?_, ?_, ?_, ?_, ?_, ?_, ?_, ?_, ?_, ?_, ?_, ?_, ?_, ?_, ?_, ?_, ?_, ?_, ?_, trivial⟩ ?_
         ·exact oI rfl fun h => yl_fieldAddr fd48_0 rfl (h.old 6 _ rfl rfl) kI
         ·exact oI rfl fun h => yl_load1 ty9 rfl (h.dt 0 52 rfl rfl rfl) (((Box.ex hB156 h.ex).cell 0).trans rfl) kI
         ·intro L1251 w1252 hi1253
          exact OpR.op' rfl (yl_call en26 rfl (oc (hi1253.dt 1 53 rfl rfl rfl) (oc rfl oz)) (Cal.mono (c_i_areLetters ((p_0.Idxs.getD k91 d_Idx).Name) 1 (okL.getD o3.2.2 ok_d_Idx _)) fun _ _ h => h))
         ·exact oI rfl fun h => yl_not rfl (h.dt 2 54 rfl rfl rfl) kI
         ·exact oI rfl fun h => yl_move rfl (h.dt 3 55 rfl rfl rfl) kI
         ·exact oS rfl rfl rfl rfl rfl (not_f hb159)
         ·exact oS rfl rfl rfl rfl rfl (not_f hb159)
         ·exact oS rfl rfl rfl rfl rfl (not_f hb159)
         ·exact oS rfl rfl rfl rfl rfl (not_f hb159)
         ·exact oS rfl rfl rfl rfl rfl (not_f hb159)
         ·exact oS rfl rfl rfl rfl rfl (not_f hb159)
         ·exact oS rfl rfl rfl rfl rfl (not_f hb159)
         ·exact oS rfl rfl rfl rfl rfl (not_f hb159)
         ·exact oI rfl fun h => yl_pick_t rfl (h.dt 4 56 rfl rfl rfl) (not_f hb159) rfl kI
         ·exact oI rfl fun h => yl_move rfl (h.dt 13 65 rfl rfl rfl) kI
         ·exact oS rfl rfl rfl rfl rfl rfl
         ·exact oS rfl rfl rfl rfl rfl rfl
         ·exact oS rfl rfl rfl rfl rfl rfl
         ·exact oS rfl rfl rfl rfl rfl rfl
         ·exact oI rfl fun h => yl_pick_t rfl (h.dt 14 66 rfl rfl rfl) rfl rfl kI
         ·exact oI rfl fun h => yl_move rfl (h.dt 19 71 rfl rfl rfl) kI
         ·exact oS rfl rfl rfl rfl rfl rfl
         ·exact oS rfl rfl rfl rfl rfl rfl
         ·exact oS rfl rfl rfl rfl rfl rfl
         ·exact oU rfl rfl rfl rfl rfl
         ·exact oU rfl rfl rfl rfl rfl
         ·exact oU rfl rfl rfl rfl rfl
         ·exact oU rfl rfl rfl rfl rfl
         ·exact oU rfl rfl rfl rfl rfl
         ·exact oU rfl rfl rfl rfl rfl
         ·exact oU rfl rfl rfl rfl rfl
         ·exact oU rfl rfl rfl rfl rfl
         ·exact oU rfl rfl rfl rfl rfl
         ·exact oU rfl rfl rfl rfl rfl
         ·exact oS rfl rfl rfl rfl rfl rfl
         ·exact oI rfl fun h => yl_pick_t rfl (h.dt 20 72 rfl rfl rfl) rfl rfl kI
         ·intro fl1430 fh1431 L1427 w1428 hp1429
          have hE1432 := hp1429.ex
          have hE1432z := Ex.size hE1432
          refine dn (CW.sub (Sub.cons (d := 1) (hp1429.old 1 _ rfl rfl) (Sub.cons (d := 45) (hp1429.old 45 _ rfl rfl) (Sub.cons (d := 46) (hp1429.old 46 _ rfl rfl) (Sub.cons (d := 47) (hp1429.old 47 _ rfl rfl) (Sub.cons (d := 57) (hp1429.nt 5 57 rfl rfl rfl) (Sub.cons (d := 58) (hp1429.nt 6 58 rfl rfl rfl) (Sub.cons (d := 59) (hp1429.nt 7 59 rfl rfl rfl) (Sub.cons (d := 60) (hp1429.nt 8 60 rfl rfl rfl) (Sub.cons (d := 61) (hp1429.nt 9 61 rfl rfl rfl) (Sub.cons (d := 62) (hp1429.nt 10 62 rfl rfl rfl) (Sub.cons (d := 63) (hp1429.nt 11 63 rfl rfl rfl) (Sub.cons (d := 64) (hp1429.nt 12 64 rfl rfl rfl) (Sub.cons (d := 67) (hp1429.nt 15 67 rfl rfl rfl) (Sub.cons (d := 68) (hp1429.nt 16 68 rfl rfl rfl) (Sub.cons (d := 69) (hp1429.nt 17 69 rfl rfl rfl) (Sub.cons (d := 70) (hp1429.nt 18 70 rfl rfl rfl) (Sub.cons (d := 73) (hp1429.nt 21 73 rfl rfl rfl) (Sub.cons (d := 74) (hp1429.nt 22 74 rfl rfl rfl) (Sub.cons (d := 75) (hp1429.nt 23 75 rfl rfl rfl) (Sub.cons (d := 76) (hp1429.nt 24 76 rfl rfl rfl) (Sub.cons (d := 77) (hp1429.nt 25 77 rfl rfl rfl) (Sub.cons (d := 78) (hp1429.nt 26 78 rfl rfl rfl) (Sub.cons (d := 79) (hp1429.nt 27 79 rfl rfl rfl) (Sub.cons (d := 80) (hp1429.nt 28 80 rfl rfl rfl) (Sub.cons (d := 81) (hp1429.nt 29 81 rfl rfl rfl) (Sub.cons (d := 82) (hp1429.nt 30 82 rfl rfl rfl) (Sub.cons (d := 83) (hp1429.nt 31 83 rfl rfl rfl) (Sub.cons (d := 84) (hp1429.nt 32 84 rfl rfl rfl) (Sub.cons (d := 85) (hp1429.nt 33 85 rfl rfl rfl) (Sub.cons (d := 86) (hp1429.nt 34 86 rfl rfl rfl) (Sub.cons (d := 87) (hp1429.nt 35 87 rfl rfl rfl) (Sub.nil _)))))))))))))))))))))))))))))))) ?_)
          refine CW.cond_t rfl rfl (CW.seq (CW.region (sd rfl (yl_assign rfl rfl (dn (CW.ret (br (tr ?_))))))))
          refine tr ?_
          have hB1465 : B_i_GoodTable_1 p_0 k91 () = .ret false := by simp only [B_i_GoodTable_1, hb16, hb21, hb23, hb159, hL90, cL]
          have hL1464 : loopM (B_i_GoodTable_1 p_0) (p_0.Idxs.length - 0) 0 () = .ret false := hI136.symm.trans (loopM.ret hlt147 hB1465)
          refine br (tr (rr rfl (.cons rfl .nil) ?_))
          have hM1466 : (i_GoodTable p_0) = (false) := by simp only [i_GoodTable, hb16, hb21, hb23, hb159, hL90, hL1464, cL]
          rw [hM1466]
          exact ⟨rfl, (Ex.trans (Below.only (Ex.trans hf145 hE154) hO157 (by omega)) hE1432)⟩
       ·refine CW.seq (CW.region (sd rfl (yl_lss rfl rfl rfl (dn (CW.seq (CW.cond_f rfl (lt_f hlt147) (CW.exit (tx ?_))))))))
        refine tx ?_
        have hL1470 : loopM (B_i_GoodTable_1 p_0) (p_0.Idxs.length - 0) 0 () = .done () := hI136.symm.trans (loopM.stop hlt147)
        refine bx (tn (CW.seq (CW.region (sd rfl (yl_assign rfl rfl (dn (CW.ret (rr rfl (.cons rfl .nil) ?_))))))))
        have hM1471 : (i_GoodTable p_0) = (true) := by simp only [i_GoodTable, hb16, hb21, hb23, hL90, hL1470, cL]
        rw [hM1471]
        exact ⟨rfl, hf145⟩
  ·refine sz rfl rfl (not_f hb21) (sz rfl rfl (not_f hb21) (sz rfl rfl (not_f hb21) (sz rfl rfl (not_f hb21) (sd rfl (yl_pick_t rfl rfl (not_f hb21) rfl (dn (CW.cond_t rfl rfl (CW.seq ?_))))))))
   refine CW.region (sd rfl (yl_assign rfl rfl (dn (CW.ret (tr (rr rfl (.cons rfl .nil) ?_))))))
   have hM1472 : (i_GoodTable p_0) = (false) := by simp only [i_GoodTable, hb16, hb21, cL]
   rw [hM1472]
   exact ⟨rfl, (Ex.trans (Ex.trans (Ex.trans (Ex.refl w) hE12) hE15) hE20)⟩
 ·refine sz rfl rfl (not_f hb16) (sz rfl rfl (not_f hb16) (sz rfl rfl (not_f hb16) (sz rfl rfl (not_f hb16) (sz rfl rfl (not_f hb16) (sd rfl (yl_pick_t rfl rfl (not_f hb16) rfl (sd rfl (yl_move rfl rfl (sz rfl rfl rfl (sz rfl rfl rfl ?_))))))))))
  refine sz rfl rfl rfl (sz rfl rfl rfl (sd rfl (yl_pick_t rfl rfl rfl rfl (dn (CW.cond_t rfl rfl (CW.seq (CW.region (sd rfl (yl_assign rfl rfl ?_)))))))))
  refine dn (CW.ret (tr (rr rfl (.cons rfl .nil) ?_)))
  have hM1476 : (i_GoodTable p_0) = (false) := by simp only [i_GoodTable, hb16, cL]
  rw [hM1476]
  exact ⟨rfl, (Ex.trans (Ex.trans (Ex.refl w) hE12) hE15)⟩
theorem c_i_tableText {A1 : Option Addr} {c1 : Nat} {A2 : Option Addr} {c2 : Nat} {w : World} (p_t : DTable) (h1 : RdS w (Iv 0 w.heap.size) (RF e_Str) 1 A1 p_t.Cols.length c1 p_t.Cols) (h2 : RdS w (Iv 0 w.heap.size) (RF e_Idx) 3 A2 p_t.Idxs.length c2 p_t.Idxs) (o3 : ok_Table p_t) (pre0 : s_GoodTable p_t = true) : Cal Tryd.prog 16 #[.agg #[.string (bs (p_t.Name)), .slice A1 p_t.Cols.length c1, .slice A2 p_t.Idxs.length c2]] w fun v w' => v = .string (bs ((i_tableText p_t))) ∧ Ex w w' := by
 have hol4 : p_t.Name.length ≤ 1073741824 := o3.1
 have hol5 := o3.2.1.1
 have hol6 := o3.2.2.1
 have hgt := f_s_GoodTable pre0
 have hgn := gt_name pre0
 have hjc := join_cols pre0
 refine Cal.of func16 rfl ntmps16 rfl (CW.seq (CW.region (sd rfl (yl_box rfl rfl rfl ?_))))
 intro b7 w8 hs9 hz10 hB11 hE12
 refine sd rfl (yl_assign rfl rfl (dn (CW.seq ?_)))
 have hol13 : p_t.Name.length ≤ 1073741824 := o3.1
 have q14 := RdS.ex good_Str h1 hE12
 have hol17 : p_t.Name.length ≤ 1073741824 := o3.1
 have hol18 : p_t.Name.length ≤ 1073741824 := o3.1
 refine CW.drawsI 9 (vgetI [DetI (.pointer (some ⟨b7, 0 + 0, none⟩)), DetI (.string (bs (p_t.Name))), DetI (.string (bs (p_t.Name ++ ([40] : Str)))), DetI (.pointer (some ⟨b7, 0 + 1, none⟩)), DetI (.slice A1 p_t.Cols.length c1), fun lo hi v wq => v = .string (bs ((g_strings_Join p_t.Cols ([44] : Str)))) ∧ okS (g_strings_Join p_t.Cols ([44] : Str)), DetI (.string (bs ((p_t.Name ++ ([40] : Str)) ++ (g_strings_Join p_t.Cols ([44] : Str))))), DetI (.string (bs (((p_t.Name ++ ([40] : Str)) ++ (g_strings_Join p_t.Cols ([44] : Str))) ++ ([41] : Str)))), DetI (.string (bs (((p_t.Name ++ ([40] : Str)) ++ (g_strings_Join p_t.Cols ([44] : Str))) ++ ([41] : Str))))]) Tryd.follows rfl rfl rfl rfl rfl rfl (vgetI_stable ⟨StableI.det _, StableI.det _, StableI.det _, StableI.det _, StableI.det _, (fun _ _ _ _ _ ⟨hv, ho16⟩ e => ⟨hv, ho16⟩), StableI.det _, StableI.det _, StableI.det _, trivial⟩) ⟨?_, ?_, ?_, ?_, ?_, ?_, ?_, ?_, ?_, trivial⟩ ?_
 ·exact oI rfl fun h => yl_fieldAddr fd31_0 rfl (h.old 1 _ rfl rfl) kI
 ·exact oI rfl fun h => yl_load1 ty9 rfl (h.dt 0 6 rfl rfl rfl) (((Box.ex hB11 h.ex).cell 0).trans rfl) kI
 ·intro L30 w31 hi32
  have hE33 := hi32.ex
  have hE33z := Ex.size hE33
  have hol35 : p_t.Name.length ≤ 1073741824 := o3.1
  exact os rfl ((yl_sadd (a := p_t.Name) (b := ([40] : Str)) rfl (hi32.dt 1 7 rfl rfl rfl) rfl (by first | omega | (simp only [List.length_append, List.length_cons, List.length_nil, List.length_take, List.length_drop, toS_length]; omega)) kI))
 ·exact oI rfl fun h => yl_fieldAddr fd31_1 rfl (h.old 1 _ rfl rfl) kI
 ·exact oI rfl fun h => yl_load1 ty22 rfl (h.dt 3 9 rfl rfl rfl) (((Box.ex hB11 h.ex).cell 1).trans rfl) kI
 ·intro L47 w48 hi49
  have hE50 := hi49.ex
  refine OpR.op' rfl (yl_call en30 rfl (oc (hi49.dt 4 10 rfl rfl rfl) (oc rfl oz)) (Cal.mono (c_g_strings_Join p_t.Cols ([44] : Str) (RdS.up (RdS.ex good_Str q14 hE50) good_Str) o3.2.1 (okS.lit rfl) (join_cols pre0)) ?_))
  rintro v55 w53 ⟨rfl, ho54, hE56⟩
  exact ⟨⟨rfl, ho54⟩, hE56⟩
 ·intro L57 w58 hi59
  have hE60 := hi59.ex
  have hE60z := Ex.size hE60
  obtain ⟨lo63, hh64, _, hx62, hr65, hr66, hr67, rfl, h68⟩ := hi59.dep 5 11 rfl rfl
  have hol69 : p_t.Name.length ≤ 1073741824 := o3.1
  have hol70 : (g_strings_Join p_t.Cols ([44] : Str)).length ≤ 1073741824 := h68
  exact os rfl ((yl_sadd (a := (p_t.Name ++ ([40] : Str))) (b := (g_strings_Join p_t.Cols ([44] : Str))) rfl (hi59.dt 2 8 rfl rfl rfl) hx62 (by first | omega | (simp only [List.length_append, List.length_cons, List.length_nil, List.length_take, List.length_drop, toS_length]; omega)) kI))
 ·intro L71 w72 hi73
  have hE74 := hi73.ex
  have hE74z := Ex.size hE74
  have hol76 : p_t.Name.length ≤ 1073741824 := o3.1
  exact os rfl ((yl_sadd (a := ((p_t.Name ++ ([40] : Str)) ++ (g_strings_Join p_t.Cols ([44] : Str)))) (b := ([41] : Str)) rfl (hi73.dt 6 12 rfl rfl rfl) rfl (by first | omega | (simp only [List.length_append, List.length_cons, List.length_nil, List.length_take, List.length_drop, toS_length]; omega)) kI))
 ·exact oI rfl fun h => yl_assign rfl (h.dt 7 13 rfl rfl rfl) kI
 ·intro fl85 fh86 L82 w83 hp84
  have hE87 := hp84.ex
  have hE87z := Ex.size hE87
  refine dn (CW.sub (Sub.cons (d := 1) (hp84.old 1 _ rfl rfl) (Sub.cons (d := 3) (hp84.nt 8 3 rfl rfl rfl) (Sub.nil _))) (CW.seq (CW.seq (CW.region (sd rfl (yl_fieldAddr fd31_2 rfl rfl ?_))))))
  have q90 := Box.ex hB11 hE87
  refine sd rfl (yl_load1 ty29 rfl rfl ((q90.cell 2).trans rfl) (sd rfl (yl_len un29 rfl rfl (sd rfl (yl_move rfl rfl (dn (CW.block (CW.loop (fun m141 L142 w143 => ∃ (k91 : Nat) (x140 : Str), m141 = p_t.Idxs.length - k91 ∧ k91 ≤ p_t.Idxs.length ∧ w83.heap.size ≤ w143.heap.size ∧ lkp L142 1 = some (.pointer (some ⟨b7, 0, none⟩)) ∧ lkp L142 3 = some (.string (bs (x140))) ∧ lkp L142 15 = some (.slice A2 p_t.Idxs.length c2) ∧ lkp L142 16 = some (.int .i64 ((p_t.Idxs.length : Int))) ∧ lkp L142 17 = some (.int .i64 ((k91 : Int))) ∧ Box w143 b7 31 [.string (bs (p_t.Name)), .slice A1 p_t.Cols.length c1, .slice A2 p_t.Idxs.length c2] ∧ RdS w143 (Iv 0 w.heap.size) (RF e_Str) 1 A1 p_t.Cols.length c1 p_t.Cols ∧ RdS w143 (Iv 0 w.heap.size) (RF e_Idx) 3 A2 p_t.Idxs.length c2 p_t.Idxs ∧ Ex w w143 ∧ x140.length ≤ p_t.Name.length + 1 + (g_strings_Join p_t.Cols ([44] : Str)).length + 1 + 8589934592 * (k91 - 0) ∧ loopM (B_i_tableText_0 p_t) (p_t.Idxs.length - k91) k91 (x140) = loopM (B_i_tableText_0 p_t) (p_t.Idxs.length - 0) 0 (((p_t.Name ++ ([40] : Str)) ++ (g_strings_Join p_t.Cols ([44] : Str))) ++ ([41] : Str))) (p_t.Idxs.length - 0) ?_ ?_))))))))
  ·exact ⟨0, ((p_t.Name ++ ([40] : Str)) ++ (g_strings_Join p_t.Cols ([44] : Str))) ++ ([41] : Str), rfl, (by omega), Nat.le_refl _, rfl, rfl, rfl, rfl, rfl, q90, (RdS.ex good_Str q14 hE87), (RdS.ex good_Idx (RdS.ex good_Idx h2 hE12) hE87), (Ex.trans (Ex.trans (Ex.refl w) hE12) hE87), (by first | (simp; done) | (first | omega | (simp only [List.length_append, List.length_cons, List.length_nil, List.length_set, toS_length]; omega))), rfl⟩
  ·rintro m149 L150 w151 ⟨k91, x140, rfl, hk152, hsz154, hl155, hl156, hl157, hl158, hl159, hf160, hf161, hf162, hf163, hln164, hI153⟩
   refine CW.sub (Sub.cons hl155 (Sub.cons hl156 (Sub.cons hl157 (Sub.cons hl158 (Sub.cons hl159 (Sub.nil _)))))) ?_
   have hf160z := Box.lt hf160
   have hf163z := Ex.size hf163
   have hbg165 := RdS.big hf162
   rcases Nat.lt_or_ge k91 p_t.Idxs.length with hlt166 | hlt166
   ·have hgi := gt_idx pre0 hlt166
    refine CW.seq (CW.region (sd rfl (yl_lss rfl rfl rfl (dn (CW.seq (CW.cond_t rfl (lt_t hlt166) (CW.skip (tn ?_))))))))
    refine CW.seq (CW.block (CW.seq (CW.region ?_)))
    obtain ⟨eb167, eo167, _, eA167, _, ebl167, _, eR167, eC167⟩ := RdS.aD hf162 d_Idx (i := k91)
    obtain rfl := eR167
    have eC167 : Cells w151 eb167 (eo167 + k91 * 3) [.string (bs ((p_t.Idxs.getD k91 d_Idx).Name)), .int .i64 ((p_t.Idxs.getD k91 d_Idx).Col), .int .i64 ((p_t.Idxs.getD k91 d_Idx).Stage)] := eC167
    refine sd rfl (yl_ixN un29 ty48 rfl rfl rfl eA167 (sd rfl (yl_loadN ty48 rfl rfl eC167 rfl (sd rfl (yl_alloc ty48 (cs := [.string (bs (([] : Str))), .int .i64 (0), .int .i64 (0)]) rfl rfl ?_)))))
    intro b168 w169 hs170 hz171 hB172 hE173
    refine SeqR.u rfl rfl (yl_store (vs := [.string (bs ((p_t.Idxs.getD k91 d_Idx).Name)), .int .i64 ((p_t.Idxs.getD k91 d_Idx).Col), .int .i64 ((p_t.Idxs.getD k91 d_Idx).Stage)]) ty48 rfl rfl rfl rfl rfl rfl hB172 (Nat.le_of_ble_eq_true rfl) ?_)
    intro w174 hB175 hO176
    have hB175 : Box w174 b168 48 [.string (bs ((p_t.Idxs.getD k91 d_Idx).Name)), .int .i64 ((p_t.Idxs.getD k91 d_Idx).Col), .int .i64 ((p_t.Idxs.getD k91 d_Idx).Stage)] := hB175
    have hO176z := hO176.size
    refine dn ?_
    have hol177 : ((p_t.Idxs.getD k91 d_Idx).Name).length ≤ 1073741824 := (okL.getD o3.2.2 ok_d_Idx _)
    have hol178 : ((p_t.Idxs.getD k91 d_Idx).Name).length ≤ 1073741824 := (okL.getD o3.2.2 ok_d_Idx _)
    have q180 := Box.only (Box.ex hf160 hE173) hO176 (by omega)
    have q182 := RdS.only good_Str (RdS.ex good_Str hf161 hE173) hO176 (by simp only [Iv]; omega)
    obtain ⟨eb183, eo183, _, eA183, _, ebl183, _, eR183, eC183⟩ := RdS.atD q182 d_Str (i := ((p_t.Idxs.getD k91 d_Idx).Col).toNat) (by first | omega | assumption | (simp only [wI] at *; omega))
    obtain rfl := eR183
    have eC183 : Cells w174 eb183 (eo183 + (((p_t.Idxs.getD k91 d_Idx).Col).toNat) * 1) [.string (bs ((p_t.Cols.getD (((p_t.Idxs.getD k91 d_Idx).Col).toNat) d_Str)))] := eC183
    have hol184 : ((p_t.Idxs.getD k91 d_Idx).Name).length ≤ 1073741824 := (okL.getD o3.2.2 ok_d_Idx _)
    have hol185 : (p_t.Cols.getD (((p_t.Idxs.getD k91 d_Idx).Col).toNat) d_Str).length ≤ 1073741824 := (okL.getD o3.2.1 ok_d_Str _)
    have hol186 : ((p_t.Idxs.getD k91 d_Idx).Name).length ≤ 1073741824 := (okL.getD o3.2.2 ok_d_Idx _)
    have hol187 : (p_t.Cols.getD (((p_t.Idxs.getD k91 d_Idx).Col).toNat) d_Str).length ≤ 1073741824 := (okL.getD o3.2.1 ok_d_Str _)
    have hol190 : ((p_t.Idxs.getD k91 d_Idx).Name).length ≤ 1073741824 := (okL.getD o3.2.2 ok_d_Idx _)
    have hol191 : (p_t.Cols.getD (((p_t.Idxs.getD k91 d_Idx).Col).toNat) d_Str).length ≤ 1073741824 := (okL.getD o3.2.1 ok_d_Str _)
    have hol192 : ((p_t.Idxs.getD k91 d_Idx).Name).length ≤ 1073741824 := (okL.getD o3.2.2 ok_d_Idx _)
    have hol193 : (p_t.Cols.getD (((p_t.Idxs.getD k91 d_Idx).Col).toNat) d_Str).length ≤ 1073741824 := (okL.getD o3.2.1 ok_d_Str _)
    have hrf194 := rf_Itoa ((p_t.Idxs.getD k91 d_Idx).Stage)
    refine CW.drawsI 19 (vgetI [DetI (.string (bs (x140))), DetI (.pointer (some ⟨b168, 0 + 0, none⟩)), DetI (.string (bs ((p_t.Idxs.getD k91 d_Idx).Name))), DetI (.string (bs (([32] : Str) ++ ((p_t.Idxs.getD k91 d_Idx).Name)))), DetI (.string (bs ((([32] : Str) ++ ((p_t.Idxs.getD k91 d_Idx).Name)) ++ ([47] : Str)))), DetI (.pointer (some ⟨b7, 0 + 1, none⟩)), DetI (.slice A1 p_t.Cols.length c1), DetI (.pointer (some ⟨b168, 0 + 1, none⟩)), DetI (.int .i64 ((p_t.Idxs.getD k91 d_Idx).Col)), DetI (.pointer (some ⟨eb183, eo183 + (((p_t.Idxs.getD k91 d_Idx).Col).toNat) * 1, none⟩)), DetI (.string (bs ((p_t.Cols.getD (((p_t.Idxs.getD k91 d_Idx).Col).toNat) d_Str)))), DetI (.string (bs (((([32] : Str) ++ ((p_t.Idxs.getD k91 d_Idx).Name)) ++ ([47] : Str)) ++ (p_t.Cols.getD (((p_t.Idxs.getD k91 d_Idx).Col).toNat) d_Str)))), DetI (.string (bs ((((([32] : Str) ++ ((p_t.Idxs.getD k91 d_Idx).Name)) ++ ([47] : Str)) ++ (p_t.Cols.getD (((p_t.Idxs.getD k91 d_Idx).Col).toNat) d_Str)) ++ ([47] : Str)))), DetI (.pointer (some ⟨b168, 0 + 2, none⟩)), DetI (.int .i64 ((p_t.Idxs.getD k91 d_Idx).Stage)), fun lo hi v wq => v = .string (bs ((g_strconv_Itoa ((p_t.Idxs.getD k91 d_Idx).Stage)))) ∧ okS (g_strconv_Itoa ((p_t.Idxs.getD k91 d_Idx).Stage)), DetI (.string (bs (((((([32] : Str) ++ ((p_t.Idxs.getD k91 d_Idx).Name)) ++ ([47] : Str)) ++ (p_t.Cols.getD (((p_t.Idxs.getD k91 d_Idx).Col).toNat) d_Str)) ++ ([47] : Str)) ++ (g_strconv_Itoa ((p_t.Idxs.getD k91 d_Idx).Stage))))), DetI (.string (bs (x140 ++ (((((([32] : Str) ++ ((p_t.Idxs.getD k91 d_Idx).Name)) ++ ([47] : Str)) ++ (p_t.Cols.getD (((p_t.Idxs.getD k91 d_Idx).Col).toNat) d_Str)) ++ ([47] : Str)) ++ (g_strconv_Itoa ((p_t.Idxs.getD k91 d_Idx).Stage)))))), DetI (.string (bs (x140 ++ (((((([32] : Str) ++ ((p_t.Idxs.getD k91 d_Idx).Name)) ++ ([47] : Str)) ++ (p_t.Cols.getD (((p_t.Idxs.getD k91 d_Idx).Col).toNat) d_Str)) ++ ([47] : Str)) ++ (g_strconv_Itoa ((p_t.Idxs.getD k91 d_Idx).Stage))))))]) Tryd.follows rfl rfl rfl rfl rfl rfl (vgetI_stable ⟨StableI.det _, StableI.det _, StableI.det _, StableI.det _, StableI.det _, StableI.det _, StableI.det _, StableI.det _, StableI.det _, StableI.det _, StableI.det _, StableI.det _, StableI.det _, StableI.det _, StableI.det _, (fun _ _ _ _ _ ⟨hv, ho189⟩ e => ⟨hv, ho189⟩), StableI.det _, StableI.det _, StableI.det _, trivial⟩) ⟨?_, ?_, ?_, ?_, ?_, ?_, ?_, ?_, ?_, ?_, ?_, ?_, ?_, ?_, ?_, ?_, ?_, ?_, ?_, trivial⟩ ?_
    ·exact oI rfl fun h => yl_move rfl (h.old 3 _ rfl rfl) kI
    ·exact oI rfl fun h => yl_fieldAddr fd48_0 rfl (h.old 5 _ rfl rfl) kI
    ·exact oI rfl fun h => yl_load1 ty9 rfl (h.dt 1 22 rfl rfl rfl) (((Box.ex hB175 h.ex).cell 0).trans rfl) kI
    ·intro L211 w212 hi213
     have hE214 := hi213.ex
     have hE214z := Ex.size hE214
     have hol216 : ((p_t.Idxs.getD k91 d_Idx).Name).length ≤ 1073741824 := (okL.getD o3.2.2 ok_d_Idx _)
     exact os rfl ((yl_sadd (a := ([32] : Str)) (b := ((p_t.Idxs.getD k91 d_Idx).Name)) rfl rfl (hi213.dt 2 23 rfl rfl rfl) (by first | omega | (simp only [List.length_append, List.length_cons, List.length_nil, List.length_take, List.length_drop, toS_length]; omega)) kI))
    ·intro L217 w218 hi219
     have hE220 := hi219.ex
     have hE220z := Ex.size hE220
     have hol222 : ((p_t.Idxs.getD k91 d_Idx).Name).length ≤ 1073741824 := (okL.getD o3.2.2 ok_d_Idx _)
     exact os rfl ((yl_sadd (a := (([32] : Str) ++ ((p_t.Idxs.getD k91 d_Idx).Name))) (b := ([47] : Str)) rfl (hi219.dt 3 24 rfl rfl rfl) rfl (by first | omega | (simp only [List.length_append, List.length_cons, List.length_nil, List.length_take, List.length_drop, toS_length]; omega)) kI))
    ·exact oI rfl fun h => yl_fieldAddr fd31_1 rfl (h.old 1 _ rfl rfl) kI
    ·exact oI rfl fun h => yl_load1 ty22 rfl (h.dt 5 26 rfl rfl rfl) (((Box.ex q180 h.ex).cell 1).trans rfl) kI
    ·exact oI rfl fun h => yl_fieldAddr fd48_1 rfl (h.old 5 _ rfl rfl) kI
    ·exact oI rfl fun h => yl_load1 ty3 rfl (h.dt 7 28 rfl rfl rfl) (((Box.ex hB175 h.ex).cell 1).trans rfl) kI
    ·intro L245 w246 hi247
     have hE248 := hi247.ex
     have hE248z := Ex.size hE248
     exact os rfl ((yl_indexAddr un22 ty9 rfl (hi247.dt 6 27 rfl rfl rfl) (hi247.dt 8 29 rfl rfl rfl) eA183 (by first | omega | assumption | (simp only [wI] at *; omega)) (by first | omega | assumption | (simp only [wI] at *; omega)) kI))
    ·exact oI rfl fun h => yl_load1 ty9 rfl (h.dt 9 30 rfl rfl rfl) ((Cells.ex eC183 h.ex) 0 _ rfl) kI
    ·intro L257 w258 hi259
     have hE260 := hi259.ex
     have hE260z := Ex.size hE260
     have hol263 : ((p_t.Idxs.getD k91 d_Idx).Name).length ≤ 1073741824 := (okL.getD o3.2.2 ok_d_Idx _)
     have hol264 : (p_t.Cols.getD (((p_t.Idxs.getD k91 d_Idx).Col).toNat) d_Str).length ≤ 1073741824 := (okL.getD o3.2.1 ok_d_Str _)
     exact os rfl ((yl_sadd (a := ((([32] : Str) ++ ((p_t.Idxs.getD k91 d_Idx).Name)) ++ ([47] : Str))) (b := (p_t.Cols.getD (((p_t.Idxs.getD k91 d_Idx).Col).toNat) d_Str)) rfl (hi259.dt 4 25 rfl rfl rfl) (hi259.dt 10 31 rfl rfl rfl) (by first | omega | (simp only [List.length_append, List.length_cons, List.length_nil, List.length_take, List.length_drop, toS_length]; omega)) kI))
    ·intro L265 w266 hi267
     have hE268 := hi267.ex
     have hE268z := Ex.size hE268
     have hol270 : ((p_t.Idxs.getD k91 d_Idx).Name).length ≤ 1073741824 := (okL.getD o3.2.2 ok_d_Idx _)
     have hol271 : (p_t.Cols.getD (((p_t.Idxs.getD k91 d_Idx).Col).toNat) d_Str).length ≤ 1073741824 := (okL.getD o3.2.1 ok_d_Str _)
     exact os rfl ((yl_sadd (a := (((([32] : Str) ++ ((p_t.Idxs.getD k91 d_Idx).Name)) ++ ([47] : Str)) ++ (p_t.Cols.getD (((p_t.Idxs.getD k91 d_Idx).Col).toNat) d_Str))) (b := ([47] : Str)) rfl (hi267.dt 11 32 rfl rfl rfl) rfl (by first | omega | (simp only [List.length_append, List.length_cons, List.length_nil, List.length_take, List.length_drop, toS_length]; omega)) kI))
    ·exact oI rfl fun h => yl_fieldAddr fd48_2 rfl (h.old 5 _ rfl rfl) kI
    ·exact oI rfl fun h => yl_load1 ty3 rfl (h.dt 13 34 rfl rfl rfl) (((Box.ex hB175 h.ex).cell 2).trans rfl) kI
    ·intro L283 w284 hi285
     have hE286 := hi285.ex
     have hE286z := Ex.size hE286
     refine OpR.op' rfl (yl_call en31 rfl (oc (hi285.dt 14 35 rfl rfl rfl) oz) (Cal.mono (c_g_strconv_Itoa ((p_t.Idxs.getD k91 d_Idx).Stage) (by first | omega | assumption | (simp only [wI] at *; omega))) ?_))
     rintro v290 w288 ⟨rfl, ho289, hE291⟩
     exact ⟨⟨rfl, ho289⟩, hE291⟩
    ·intro L292 w293 hi294
     have hE295 := hi294.ex
     have hE295z := Ex.size hE295
     obtain ⟨lo298, hh299, _, hx297, hr300, hr301, hr302, rfl, h303⟩ := hi294.dep 15 36 rfl rfl
     have hol304 : ((p_t.Idxs.getD k91 d_Idx).Name).length ≤ 1073741824 := (okL.getD o3.2.2 ok_d_Idx _)
     have hol305 : (p_t.Cols.getD (((p_t.Idxs.getD k91 d_Idx).Col).toNat) d_Str).length ≤ 1073741824 := (okL.getD o3.2.1 ok_d_Str _)
     have hol306 : (g_strconv_Itoa ((p_t.Idxs.getD k91 d_Idx).Stage)).length ≤ 1073741824 := h303
     exact os rfl ((yl_sadd (a := ((((([32] : Str) ++ ((p_t.Idxs.getD k91 d_Idx).Name)) ++ ([47] : Str)) ++ (p_t.Cols.getD (((p_t.Idxs.getD k91 d_Idx).Col).toNat) d_Str)) ++ ([47] : Str))) (b := (g_strconv_Itoa ((p_t.Idxs.getD k91 d_Idx).Stage))) rfl (hi294.dt 12 33 rfl rfl rfl) hx297 (by first | omega | (simp only [List.length_append, List.length_cons, List.length_nil, List.length_take, List.length_drop, toS_length]; omega)) kI))
    ·intro L307 w308 hi309
     have hE310 := hi309.ex
     have hE310z := Ex.size hE310
     have hol313 : ((p_t.Idxs.getD k91 d_Idx).Name).length ≤ 1073741824 := (okL.getD o3.2.2 ok_d_Idx _)
     have hol314 : (p_t.Cols.getD (((p_t.Idxs.getD k91 d_Idx).Col).toNat) d_Str).length ≤ 1073741824 := (okL.getD o3.2.1 ok_d_Str _)
     exact os rfl ((yl_sadd (a := x140) (b := (((((([32] : Str) ++ ((p_t.Idxs.getD k91 d_Idx).Name)) ++ ([47] : Str)) ++ (p_t.Cols.getD (((p_t.Idxs.getD k91 d_Idx).Col).toNat) d_Str)) ++ ([47] : Str)) ++ (g_strconv_Itoa ((p_t.Idxs.getD k91 d_Idx).Stage)))) rfl (hi309.dt 0 21 rfl rfl rfl) (hi309.dt 16 37 rfl rfl rfl) (by first | omega | (simp only [List.length_append, List.length_cons, List.length_nil, List.length_take, List.length_drop, toS_length]; omega)) kI))
    ·exact oI rfl fun h => yl_assign rfl (h.dt 17 38 rfl rfl rfl) kI
    ·intro fl323 fh324 L320 w321 hp322
     have hE325 := hp322.ex
     have hE325z := Ex.size hE325
     refine SeqR.done (bn (tn (CW.sub (Sub.cons (d := 1) (hp322.old 1 _ rfl rfl) (Sub.cons (d := 3) (hp322.nt 18 3 rfl rfl rfl) (Sub.cons (d := 15) (hp322.old 15 _ rfl rfl) (Sub.cons (d := 16) (hp322.old 16 _ rfl rfl) (Sub.cons (d := 17) (hp322.old 17 _ rfl rfl) (Sub.nil _)))))) (CW.region (sd rfl (yl_inc rfl rfl rfl (by omega) (sd rfl (yl_move rfl rfl (dn ?_)))))))))
     have hB331 : B_i_tableText_0 p_t k91 (x140) = .cont (x140 ++ (((((([32] : Str) ++ ((p_t.Idxs.getD k91 d_Idx).Name)) ++ ([47] : Str)) ++ (p_t.Cols.getD (((p_t.Idxs.getD k91 d_Idx).Col).toNat) d_Str)) ++ ([47] : Str)) ++ (g_strconv_Itoa ((p_t.Idxs.getD k91 d_Idx).Stage)))) := by simp only [B_i_tableText_0, cL]
     exact ⟨p_t.Idxs.length - (k91 + 1), by omega, k91 + 1, x140 ++ (((((([32] : Str) ++ ((p_t.Idxs.getD k91 d_Idx).Name)) ++ ([47] : Str)) ++ (p_t.Cols.getD (((p_t.Idxs.getD k91 d_Idx).Col).toNat) d_Str)) ++ ([47] : Str)) ++ (g_strconv_Itoa ((p_t.Idxs.getD k91 d_Idx).Stage))), rfl, hlt166, (by omega), rfl, rfl, rfl, rfl, rfl, (Box.ex q180 hE325), (RdS.ex good_Str q182 hE325), (RdS.ex good_Idx (RdS.only good_Idx (RdS.ex good_Idx hf162 hE173) hO176 (by simp only [Iv]; omega)) hE325), (Ex.trans (Below.only (Ex.trans hf163 hE173) hO176 (by omega)) hE325), (by first | omega | (simp only [List.length_append, List.length_cons, List.length_nil, List.length_set, toS_length]; omega)), (loopM.cont hlt166 hB331).symm.trans hI153⟩
   ·refine CW.seq (CW.region (sd rfl (yl_lss rfl rfl rfl (dn (CW.seq (CW.cond_f rfl (lt_f hlt166) (CW.exit (tx ?_))))))))
    refine tx ?_
    have hL340 : loopM (B_i_tableText_0 p_t) (p_t.Idxs.length - 0) 0 (((p_t.Name ++ ([40] : Str)) ++ (g_strings_Join p_t.Cols ([44] : Str))) ++ ([41] : Str)) = .done (x140) := hI153.symm.trans (loopM.stop hlt166)
    refine bx (tn (CW.seq (CW.region (sd rfl (yl_move rfl rfl (sd rfl (yl_assign rfl rfl (dn (CW.ret ?_)))))))))
    refine rr rfl (.cons rfl .nil) ?_
    have hM341 : (i_tableText p_t) = (x140) := by simp only [i_tableText, hL340, cL]
    rw [hM341]
    exact ⟨rfl, hf163⟩
theorem c_i_TableText {A1 : Option Addr} {c1 : Nat} {A2 : Option Addr} {c2 : Nat} {w : World} (p_t : DTable) (h1 : RdS w (Iv 0 w.heap.size) (RF e_Str) 1 A1 p_t.Cols.length c1 p_t.Cols) (h2 : RdS w (Iv 0 w.heap.size) (RF e_Idx) 3 A2 p_t.Idxs.length c2 p_t.Idxs) (o3 : ok_Table p_t) : Cal Tryd.prog 7 #[.agg #[.string (bs (p_t.Name)), .slice A1 p_t.Cols.length c1, .slice A2 p_t.Idxs.length c2]] w fun v w' => v = .tuple #[.string (bs ((i_TableText p_t).1)), .bool ((i_TableText p_t).2)] ∧ Ex w w' := by
 refine Cal.of func7 rfl ntmps7 rfl (CW.seq (CW.region (sd rfl (yl_box rfl rfl rfl ?_))))
 intro b7 w8 hs9 hz10 hB11 hE12
 refine sd rfl (yl_assign rfl rfl (sd rfl (yl_assign rfl rfl (dn (CW.seq (CW.seq (CW.region (sd rfl (yl_loadN ty31 rfl rfl (hB11.cells (n := 3) rfl) rfl ?_)))))))))
 have q13 := RdS.ex good_Str h1 hE12
 have q14 := RdS.ex good_Idx h2 hE12
 refine sd rfl (yl_call en15 rfl (oc rfl oz) (Cal.mono (c_i_GoodTable p_t (RdS.up q13 good_Str) (RdS.up q14 good_Idx) o3) ?_))
 rintro v16 w15 ⟨rfl, hE17⟩
 refine sd rfl (yl_not rfl rfl (dn (bcase (i_GoodTable p_t) (fun hb18 => ?_) (fun hb18 => ?_))))
 ·have hb18p := f_i_GoodTable hb18
  refine CW.cond_f rfl (not_t hb18) (CW.skip (tn (CW.seq (CW.region (sd rfl (yl_loadN ty31 rfl rfl ((Box.ex hB11 hE17).cells (n := 3) rfl) rfl (sd rfl (yl_call en16 rfl (oc rfl oz) (Cal.mono (c_i_tableText p_t (RdS.up (RdS.ex good_Str q13 hE17) good_Str) (RdS.up (RdS.ex good_Idx q14 hE17) good_Idx) o3 (GoodTable_eq _ ▸ hb18)) ?_)))))))))
  rintro v23 w22 ⟨rfl, hE24⟩
  refine sd rfl (yl_assign rfl rfl (sd rfl (yl_assign rfl rfl (dn (CW.ret (rr rfl (.cons rfl (.cons rfl .nil)) ?_))))))
  have hM25 : (i_TableText p_t) = (((i_tableText p_t), true)) := by simp only [i_TableText, hb18, cL]
  rw [hM25]
  exact ⟨rfl, (Ex.trans (Ex.trans (Ex.trans (Ex.refl w) hE12) hE17) hE24)⟩
 ·refine CW.cond_t rfl (not_f hb18) (CW.seq (CW.region (sd rfl (yl_assign rfl rfl (sd rfl (yl_assign rfl rfl (dn (CW.ret (tr ?_)))))))))
  refine rr rfl (.cons rfl (.cons rfl .nil)) ?_
  have hM29 : (i_TableText p_t) = ((([] : Str), false)) := by simp only [i_TableText, hb18, cL]
  rw [hM29]
  exact ⟨rfl, (Ex.trans (Ex.trans (Ex.refl w) hE12) hE17)⟩
theorem c_l_eqStringS {A1 : Option Addr} {c1 : Nat} {A2 : Option Addr} {c2 : Nat} {w : World} (p_a : List Str) (p_b : List Str) (h1 : RdS w (Iv 0 w.heap.size) (RF e_Str) 1 A1 p_a.length c1 p_a) (h2 : RdS w (Iv 0 w.heap.size) (RF e_Str) 1 A2 p_b.length c2 p_b) : Cal Tryd.prog 17 #[.slice A1 p_a.length c1, .slice A2 p_b.length c2] w fun v w' => v = .bool ((l_eqStringS p_a p_b)) ∧ Ex w w' := by
 refine Cal.of func17 rfl ntmps17 rfl (CW.seq (CW.region (sd rfl (yl_assign rfl rfl (dn (CW.seq (CW.seq (CW.region ?_))))))))
 refine sd rfl (yl_move rfl rfl (sd rfl (yl_len un22 rfl rfl (sd rfl (yl_move rfl rfl (sd rfl (yl_len un22 rfl rfl (sd rfl (yl_neq rfl rfl rfl (dn (bcase (decide ((p_a.length : Int) = (p_b.length : Int))) (fun hb3 => ?_) (fun hb3 => ?_))))))))))))
 ·have hb3p := dec_t hb3
  refine CW.cond_f rfl (not_t hb3) (CW.skip (tn (CW.seq (CW.seq (CW.region (sd rfl (yl_assign rfl rfl (dn ?_))))))))
  refine CW.block (CW.loop (fun m5 L6 w7 => ∃ (k4 : Nat), m5 = p_a.length - k4 ∧ k4 ≤ p_a.length ∧ w.heap.size ≤ w7.heap.size ∧ lkp L6 0 = some (.slice A1 p_a.length c1) ∧ lkp L6 1 = some (.slice A2 p_b.length c2) ∧ lkp L6 5 = some (.int .i64 ((k4 : Int))) ∧ RdS w7 (Iv 0 w.heap.size) (RF e_Str) 1 A1 p_a.length c1 p_a ∧ RdS w7 (Iv 0 w.heap.size) (RF e_Str) 1 A2 p_b.length c2 p_b ∧ Ex w w7 ∧ loopM (B_l_eqStringS_0 p_a p_b) (p_a.length - k4) k4 () = loopM (B_l_eqStringS_0 p_a p_b) (p_a.length - 0) 0 ()) (p_a.length - 0) ?_ ?_)
  ·exact ⟨0, rfl, (by omega), Nat.le_refl _, rfl, rfl, rfl, h1, h2, (Ex.refl w), rfl⟩
  ·rintro m8 L9 w10 ⟨k4, rfl, hk11, hsz13, hl14, hl15, hl16, hf17, hf18, hf19, hI12⟩
   refine CW.sub (Sub.cons hl14 (Sub.cons hl15 (Sub.cons hl16 (Sub.nil _)))) ?_
   have hf19z := Ex.size hf19
   have hbg20 := RdS.big hf17
   rcases Nat.lt_or_ge k4 p_a.length with hlt21 | hlt21
   ·refine CW.seq (CW.seq (CW.region (sd rfl (yl_move rfl rfl (sd rfl (yl_move rfl rfl (sd rfl (yl_len un22 rfl rfl (sd rfl (yl_lss rfl rfl rfl (dn ?_)))))))))))
    refine CW.cond_t rfl (lt_t hlt21) (CW.skip (tn (CW.seq (CW.block (CW.seq ?_)))))
    obtain ⟨eb22, eo22, _, eA22, _, ebl22, _, eR22, eC22⟩ := RdS.aD hf17 d_Str (i := k4)
    obtain rfl := eR22
    have eC22 : Cells w10 eb22 (eo22 + k4 * 1) [.string (bs ((p_a.getD k4 d_Str)))] := eC22
    obtain ⟨eb23, eo23, _, eA23, _, ebl23, _, eR23, eC23⟩ := RdS.aD hf18 d_Str (i := k4)
    obtain rfl := eR23
    have eC23 : Cells w10 eb23 (eo23 + k4 * 1) [.string (bs ((p_b.getD k4 d_Str)))] := eC23
    refine CW.drawsI 9 (vgetI ([.slice A1 p_a.length c1, .int .i64 ((k4 : Int)), .pointer (some ⟨eb22, eo22 + k4 * 1, none⟩), .string (bs ((p_a.getD k4 d_Str))), .slice A2 p_b.length c2, .int .i64 ((k4 : Int)), .pointer (some ⟨eb23, eo23 + k4 * 1, none⟩), .string (bs ((p_b.getD k4 d_Str))), .bool (!((p_a.getD k4 d_Str) == (p_b.getD k4 d_Str)))].map DetI)) Tryd.follows rfl rfl rfl rfl rfl rfl (vgetI_stable (stD _)) ⟨?_, ?_, ?_, ?_, ?_, ?_, ?_, ?_, ?_, trivial⟩ ?_
    ·exact oI rfl fun h => yl_move rfl (h.old 0 _ rfl rfl) kI
    ·exact oI rfl fun h => yl_move rfl (h.old 5 _ rfl rfl) kI
    ·intro L34 w35 hi36
     have hE37 := hi36.ex
     have hE37z := Ex.size hE37
     exact os rfl ((yl_ixN un22 ty9 rfl (hi36.dt 0 17 rfl rfl rfl) (hi36.dt 1 18 rfl rfl rfl) eA22 kI))
    ·exact oI rfl fun h => yl_load1 ty9 rfl (h.dt 2 19 rfl rfl rfl) ((Cells.ex eC22 h.ex) 0 _ rfl) kI
    ·exact oI rfl fun h => yl_move rfl (h.old 1 _ rfl rfl) kI
    ·exact oI rfl fun h => yl_move rfl (h.old 5 _ rfl rfl) kI
    ·intro L56 w57 hi58
     have hE59 := hi58.ex
     have hE59z := Ex.size hE59
     exact os rfl ((yl_ixN un22 ty9 rfl (hi58.dt 4 21 rfl rfl rfl) (hi58.dt 5 22 rfl rfl rfl) eA23 kI))
    ·exact oI rfl fun h => yl_load1 ty9 rfl (h.dt 6 23 rfl rfl rfl) ((Cells.ex eC23 h.ex) 0 _ rfl) kI
    ·exact oI rfl fun h => yl_sneq (a := (p_a.getD k4 d_Str)) (b := (p_b.getD k4 d_Str)) rfl (h.dt 3 20 rfl rfl rfl) (h.dt 7 24 rfl rfl rfl) kI
    ·intro fl77 fh78 L74 w75 hp76
     have hE79 := hp76.ex
     have hE79z := Ex.size hE79
     refine dn (CW.sub (Sub.cons (d := 0) (hp76.old 0 _ rfl rfl) (Sub.cons (d := 1) (hp76.old 1 _ rfl rfl) (Sub.cons (d := 5) (hp76.old 5 _ rfl rfl) (Sub.cons (d := 25) (hp76.nt 8 25 rfl rfl rfl) (Sub.nil _))))) (bcase ((p_a.getD k4 d_Str) == (p_b.getD k4 d_Str)) (fun hb84 => ?_) (fun hb84 => ?_)))
     ·refine CW.cond_f rfl (not_t hb84) (CW.skip (bn (tn (CW.region (sd rfl (yl_move rfl rfl (sd rfl (yl_inc rfl rfl rfl (by omega) (sd rfl (yl_assign rfl rfl (SeqR.done ?_)))))))))))
      refine tn ?_
      have hB85 : B_l_eqStringS_0 p_a p_b k4 () = .cont () := by simp only [B_l_eqStringS_0, hb3, hb84, cL]
      exact ⟨p_a.length - (k4 + 1), by omega, k4 + 1, rfl, hlt21, (by omega), rfl, rfl, rfl, (RdS.ex good_Str hf17 hE79), (RdS.ex good_Str hf18 hE79), (Ex.trans hf19 hE79), (loopM.cont hlt21 hB85).symm.trans hI12⟩
     ·refine CW.cond_t rfl (not_f hb84) (CW.seq (CW.region (sd rfl (yl_assign rfl rfl (dn (CW.ret (br (tr ?_))))))))
      refine tr ?_
      have hB90 : B_l_eqStringS_0 p_a p_b k4 () = .ret false := by simp only [B_l_eqStringS_0, hb3, hb84, cL]
      have hL89 : loopM (B_l_eqStringS_0 p_a p_b) (p_a.length - 0) 0 () = .ret false := hI12.symm.trans (loopM.ret hlt21 hB90)
      refine br (tr (rr rfl (.cons rfl .nil) ?_))
      have hM91 : (l_eqStringS p_a p_b) = (false) := by simp only [l_eqStringS, hb3, hb84, hL89, cL]
      rw [hM91]
      exact ⟨rfl, (Ex.trans hf19 hE79)⟩
   ·refine CW.seq (CW.seq (CW.region (sd rfl (yl_move rfl rfl (sd rfl (yl_move rfl rfl (sd rfl (yl_len un22 rfl rfl (sd rfl (yl_lss rfl rfl rfl (dn ?_)))))))))))
    refine CW.cond_f rfl (lt_f hlt21) (CW.exit (tx (tx ?_)))
    have hL93 : loopM (B_l_eqStringS_0 p_a p_b) (p_a.length - 0) 0 () = .done () := hI12.symm.trans (loopM.stop hlt21)
    refine bx (tn (CW.seq (CW.region (sd rfl (yl_assign rfl rfl (dn (CW.ret (rr rfl (.cons rfl .nil) ?_))))))))
    have hM94 : (l_eqStringS p_a p_b) = (true) := by simp only [l_eqStringS, hb3, hL93, cL]
    rw [hM94]
    exact ⟨rfl, hf19⟩
 ·have hb3p := dec_f hb3
  refine CW.cond_t rfl (not_f hb3) (CW.seq (CW.region (sd rfl (yl_assign rfl rfl (dn (CW.ret (tr (rr rfl (.cons rfl .nil) ?_))))))))
  have hM95 : (l_eqStringS p_a p_b) = (false) := by simp only [l_eqStringS, hb3, cL]
  rw [hM95]
  exact ⟨rfl, (Ex.refl w)⟩
theorem c_l_eqIdx {w : World} (p_a : DIdx) (p_b : DIdx) : Cal Tryd.prog 32 #[.agg #[.string (bs (p_a.Name)), .int .i64 (p_a.Col), .int .i64 (p_a.Stage)], .agg #[.string (bs (p_b.Name)), .int .i64 (p_b.Col), .int .i64 (p_b.Stage)]] w fun v w' => v = .bool ((l_eqIdx p_a p_b)) ∧ Ex w w' := by
 refine Cal.of func32 rfl ntmps32 rfl (CW.seq (CW.region (sd rfl (yl_box rfl rfl rfl ?_))))
 intro b1 w2 hs3 hz4 hB5 hE6
 refine sd rfl (yl_box rfl rfl rfl ?_)
 intro b7 w8 hs9 hz10 hB11 hE12
 refine sd rfl (yl_assign rfl rfl (dn (CW.seq (CW.seq (CW.region (sd rfl (yl_fieldAddr fd48_0 rfl rfl ?_)))))))
 have q13 := Box.ex hB5 hE12
 refine sd rfl (yl_load1 ty9 rfl rfl ((q13.cell 0).trans rfl) (sd rfl (yl_fieldAddr fd48_0 rfl rfl (sd rfl (yl_load1 ty9 rfl rfl ((hB11.cell 0).trans rfl) (sd rfl (yl_sneq (a := p_a.Name) (b := p_b.Name) rfl rfl rfl (dn (bcase (p_a.Name == p_b.Name) (fun hb14 => ?_) (fun hb14 => ?_))))))))))
 ·refine CW.cond_f rfl (not_t hb14) (CW.skip (tn (CW.seq (CW.seq (CW.region (sd rfl (yl_fieldAddr fd48_1 rfl rfl (sd rfl (yl_load1 ty3 rfl rfl ((q13.cell 1).trans rfl) (sd rfl (yl_fieldAddr fd48_1 rfl rfl ?_)))))))))))
  refine sd rfl (yl_load1 ty3 rfl rfl ((hB11.cell 1).trans rfl) (sd rfl (yl_neq rfl rfl rfl (dn (bcase (decide (p_a.Col = p_b.Col)) (fun hb15 => ?_) (fun hb15 => ?_))))))
  ·have hb15p := dec_t hb15
   refine CW.cond_f rfl (not_t hb15) (CW.skip (tn (CW.seq (CW.seq (CW.region (sd rfl (yl_fieldAddr fd48_2 rfl rfl (sd rfl (yl_load1 ty3 rfl rfl ((q13.cell 2).trans rfl) (sd rfl (yl_fieldAddr fd48_2 rfl rfl ?_)))))))))))
   refine sd rfl (yl_load1 ty3 rfl rfl ((hB11.cell 2).trans rfl) (sd rfl (yl_neq rfl rfl rfl (dn (bcase (decide (p_a.Stage = p_b.Stage)) (fun hb16 => ?_) (fun hb16 => ?_))))))
   ·have hb16p := dec_t hb16
    refine CW.cond_f rfl (not_t hb16) (CW.skip (tn (CW.seq (CW.region (sd rfl (yl_assign rfl rfl (dn (CW.ret ?_))))))))
    refine rr rfl (.cons rfl .nil) ?_
    have hM17 : (l_eqIdx p_a p_b) = (true) := by simp only [l_eqIdx, hb14, hb15, hb16, cL]
    rw [hM17]
    exact ⟨rfl, (Ex.trans (Ex.trans (Ex.refl w) hE6) hE12)⟩
   ·have hb16p := dec_f hb16
    refine CW.cond_t rfl (not_f hb16) (CW.seq (CW.region (sd rfl (yl_assign rfl rfl (dn (CW.ret (tr (rr rfl (.cons rfl .nil) ?_))))))))
    have hM20 : (l_eqIdx p_a p_b) = (false) := by simp only [l_eqIdx, hb14, hb15, hb16, cL]
    rw [hM20]
    exact ⟨rfl, (Ex.trans (Ex.trans (Ex.refl w) hE6) hE12)⟩
  ·have hb15p := dec_f hb15
   refine CW.cond_t rfl (not_f hb15) (CW.seq (CW.region (sd rfl (yl_assign rfl rfl (dn (CW.ret (tr (rr rfl (.cons rfl .nil) ?_))))))))
   have hM23 : (l_eqIdx p_a p_b) = (false) := by simp only [l_eqIdx, hb14, hb15, cL]
   rw [hM23]
   exact ⟨rfl, (Ex.trans (Ex.trans (Ex.refl w) hE6) hE12)⟩
 ·refine CW.cond_t rfl (not_f hb14) (CW.seq (CW.region (sd rfl (yl_assign rfl rfl (dn (CW.ret (tr (rr rfl (.cons rfl .nil) ?_))))))))
  have hM26 : (l_eqIdx p_a p_b) = (false) := by simp only [l_eqIdx, hb14, cL]
  rw [hM26]
  exact ⟨rfl, (Ex.trans (Ex.trans (Ex.refl w) hE6) hE12)⟩
theorem c_l_eqIdxS {A1 : Option Addr} {c1 : Nat} {A2 : Option Addr} {c2 : Nat} {w : World} (p_a : List DIdx) (p_b : List DIdx) (h1 : RdS w (Iv 0 w.heap.size) (RF e_Idx) 3 A1 p_a.length c1 p_a) (h2 : RdS w (Iv 0 w.heap.size) (RF e_Idx) 3 A2 p_b.length c2 p_b) : Cal Tryd.prog 18 #[.slice A1 p_a.length c1, .slice A2 p_b.length c2] w fun v w' => v = .bool ((l_eqIdxS p_a p_b)) ∧ Ex w w' := by
 refine Cal.of func18 rfl ntmps18 rfl (CW.seq (CW.region (sd rfl (yl_assign rfl rfl (dn (CW.seq (CW.seq (CW.region ?_))))))))
 refine sd rfl (yl_move rfl rfl (sd rfl (yl_len un29 rfl rfl (sd rfl (yl_move rfl rfl (sd rfl (yl_len un29 rfl rfl (sd rfl (yl_neq rfl rfl rfl (dn (bcase (decide ((p_a.length : Int) = (p_b.length : Int))) (fun hb3 => ?_) (fun hb3 => ?_))))))))))))
 ·have hb3p := dec_t hb3
  refine CW.cond_f rfl (not_t hb3) (CW.skip (tn (CW.seq (CW.seq (CW.region (sd rfl (yl_assign rfl rfl (dn ?_))))))))
  refine CW.block (CW.loop (fun m5 L6 w7 => ∃ (k4 : Nat), m5 = p_a.length - k4 ∧ k4 ≤ p_a.length ∧ w.heap.size ≤ w7.heap.size ∧ lkp L6 0 = some (.slice A1 p_a.length c1) ∧ lkp L6 1 = some (.slice A2 p_b.length c2) ∧ lkp L6 5 = some (.int .i64 ((k4 : Int))) ∧ RdS w7 (Iv 0 w.heap.size) (RF e_Idx) 3 A1 p_a.length c1 p_a ∧ RdS w7 (Iv 0 w.heap.size) (RF e_Idx) 3 A2 p_b.length c2 p_b ∧ Ex w w7 ∧ loopM (B_l_eqIdxS_0 p_a p_b) (p_a.length - k4) k4 () = loopM (B_l_eqIdxS_0 p_a p_b) (p_a.length - 0) 0 ()) (p_a.length - 0) ?_ ?_)
  ·exact ⟨0, rfl, (by omega), Nat.le_refl _, rfl, rfl, rfl, h1, h2, (Ex.refl w), rfl⟩
  ·rintro m8 L9 w10 ⟨k4, rfl, hk11, hsz13, hl14, hl15, hl16, hf17, hf18, hf19, hI12⟩
   refine CW.sub (Sub.cons hl14 (Sub.cons hl15 (Sub.cons hl16 (Sub.nil _)))) ?_
   have hf19z := Ex.size hf19
   have hbg20 := RdS.big hf17
   rcases Nat.lt_or_ge k4 p_a.length with hlt21 | hlt21
   ·refine CW.seq (CW.seq (CW.region (sd rfl (yl_move rfl rfl (sd rfl (yl_move rfl rfl (sd rfl (yl_len un29 rfl rfl (sd rfl (yl_lss rfl rfl rfl (dn ?_)))))))))))
    refine CW.cond_t rfl (lt_t hlt21) (CW.skip (tn (CW.seq (CW.block (CW.seq ?_)))))
    obtain ⟨eb22, eo22, _, eA22, _, ebl22, _, eR22, eC22⟩ := RdS.aD hf17 d_Idx (i := k4)
    obtain rfl := eR22
    have eC22 : Cells w10 eb22 (eo22 + k4 * 3) [.string (bs ((p_a.getD k4 d_Idx).Name)), .int .i64 ((p_a.getD k4 d_Idx).Col), .int .i64 ((p_a.getD k4 d_Idx).Stage)] := eC22
    obtain ⟨eb23, eo23, _, eA23, _, ebl23, _, eR23, eC23⟩ := RdS.aD hf18 d_Idx (i := k4)
    obtain rfl := eR23
    have eC23 : Cells w10 eb23 (eo23 + k4 * 3) [.string (bs ((p_b.getD k4 d_Idx).Name)), .int .i64 ((p_b.getD k4 d_Idx).Col), .int .i64 ((p_b.getD k4 d_Idx).Stage)] := eC23
    refine CW.drawsI 10 (vgetI ([.slice A1 p_a.length c1, .int .i64 ((k4 : Int)), .pointer (some ⟨eb22, eo22 + k4 * 3, none⟩), .agg #[.string (bs ((p_a.getD k4 d_Idx).Name)), .int .i64 ((p_a.getD k4 d_Idx).Col), .int .i64 ((p_a.getD k4 d_Idx).Stage)], .slice A2 p_b.length c2, .int .i64 ((k4 : Int)), .pointer (some ⟨eb23, eo23 + k4 * 3, none⟩), .agg #[.string (bs ((p_b.getD k4 d_Idx).Name)), .int .i64 ((p_b.getD k4 d_Idx).Col), .int .i64 ((p_b.getD k4 d_Idx).Stage)], .bool ((l_eqIdx (p_a.getD k4 d_Idx) (p_b.getD k4 d_Idx))), .bool (!(l_eqIdx (p_a.getD k4 d_Idx) (p_b.getD k4 d_Idx)))].map DetI)) Tryd.follows rfl rfl rfl rfl rfl rfl (vgetI_stable (stD _)) ⟨?_, ?_, ?_, ?_, ?_, ?_, ?_, ?_, ?_, ?_, trivial⟩ ?_
    ·exact oI rfl fun h => yl_move rfl (h.old 0 _ rfl rfl) kI
    ·exact oI rfl fun h => yl_move rfl (h.old 5 _ rfl rfl) kI
    ·intro L35 w36 hi37
     have hE38 := hi37.ex
     have hE38z := Ex.size hE38
     exact os rfl ((yl_ixN un29 ty48 rfl (hi37.dt 0 17 rfl rfl rfl) (hi37.dt 1 18 rfl rfl rfl) eA22 kI))
    ·exact oI rfl fun h => yl_loadN ty48 rfl (h.dt 2 19 rfl rfl rfl) (Cells.ex eC22 h.ex) rfl kI
    ·exact oI rfl fun h => yl_move rfl (h.old 1 _ rfl rfl) kI
    ·exact oI rfl fun h => yl_move rfl (h.old 5 _ rfl rfl) kI
    ·intro L57 w58 hi59
     have hE60 := hi59.ex
     have hE60z := Ex.size hE60
     exact os rfl ((yl_ixN un29 ty48 rfl (hi59.dt 4 21 rfl rfl rfl) (hi59.dt 5 22 rfl rfl rfl) eA23 kI))
    ·exact oI rfl fun h => yl_loadN ty48 rfl (h.dt 6 23 rfl rfl rfl) (Cells.ex eC23 h.ex) rfl kI
    ·intro L69 w70 hi71
     exact OpR.op' rfl (yl_call en32 rfl (oc (hi71.dt 3 20 rfl rfl rfl) (oc (hi71.dt 7 24 rfl rfl rfl) oz)) (Cal.mono (c_l_eqIdx (p_a.getD k4 d_Idx) (p_b.getD k4 d_Idx)) fun _ _ h => h))
    ·exact oI rfl fun h => yl_not rfl (h.dt 8 25 rfl rfl rfl) kI
    ·intro fl86 fh87 L83 w84 hp85
     have hE88 := hp85.ex
     have hE88z := Ex.size hE88
     refine dn (CW.sub (Sub.cons (d := 0) (hp85.old 0 _ rfl rfl) (Sub.cons (d := 1) (hp85.old 1 _ rfl rfl) (Sub.cons (d := 5) (hp85.old 5 _ rfl rfl) (Sub.cons (d := 26) (hp85.nt 9 26 rfl rfl rfl) (Sub.nil _))))) (bcase (l_eqIdx (p_a.getD k4 d_Idx) (p_b.getD k4 d_Idx)) (fun hb93 => ?_) (fun hb93 => ?_)))
     ·refine CW.cond_f rfl (not_t hb93) (CW.skip (bn (tn (CW.region (sd rfl (yl_move rfl rfl (sd rfl (yl_inc rfl rfl rfl (by omega) (sd rfl (yl_assign rfl rfl (SeqR.done ?_)))))))))))
      refine tn ?_
      have hB94 : B_l_eqIdxS_0 p_a p_b k4 () = .cont () := by simp only [B_l_eqIdxS_0, hb3, hb93, cL]
      exact ⟨p_a.length - (k4 + 1), by omega, k4 + 1, rfl, hlt21, (by omega), rfl, rfl, rfl, (RdS.ex good_Idx hf17 hE88), (RdS.ex good_Idx hf18 hE88), (Ex.trans hf19 hE88), (loopM.cont hlt21 hB94).symm.trans hI12⟩
     ·refine CW.cond_t rfl (not_f hb93) (CW.seq (CW.region (sd rfl (yl_assign rfl rfl (dn (CW.ret (br (tr ?_))))))))
      refine tr ?_
      have hB99 : B_l_eqIdxS_0 p_a p_b k4 () = .ret false := by simp only [B_l_eqIdxS_0, hb3, hb93, cL]
      have hL98 : loopM (B_l_eqIdxS_0 p_a p_b) (p_a.length - 0) 0 () = .ret false := hI12.symm.trans (loopM.ret hlt21 hB99)
      refine br (tr (rr rfl (.cons rfl .nil) ?_))
      have hM100 : (l_eqIdxS p_a p_b) = (false) := by simp only [l_eqIdxS, hb3, hb93, hL98, cL]
      rw [hM100]
      exact ⟨rfl, (Ex.trans hf19 hE88)⟩
   ·refine CW.seq (CW.seq (CW.region (sd rfl (yl_move rfl rfl (sd rfl (yl_move rfl rfl (sd rfl (yl_len un29 rfl rfl (sd rfl (yl_lss rfl rfl rfl (dn ?_)))))))))))
    refine CW.cond_f rfl (lt_f hlt21) (CW.exit (tx (tx ?_)))
    have hL102 : loopM (B_l_eqIdxS_0 p_a p_b) (p_a.length - 0) 0 () = .done () := hI12.symm.trans (loopM.stop hlt21)
    refine bx (tn (CW.seq (CW.region (sd rfl (yl_assign rfl rfl (dn (CW.ret (rr rfl (.cons rfl .nil) ?_))))))))
    have hM103 : (l_eqIdxS p_a p_b) = (true) := by simp only [l_eqIdxS, hb3, hL102, cL]
    rw [hM103]
    exact ⟨rfl, hf19⟩
 ·have hb3p := dec_f hb3
  refine CW.cond_t rfl (not_f hb3) (CW.seq (CW.region (sd rfl (yl_assign rfl rfl (dn (CW.ret (tr (rr rfl (.cons rfl .nil) ?_))))))))
  have hM104 : (l_eqIdxS p_a p_b) = (false) := by simp only [l_eqIdxS, hb3, cL]
  rw [hM104]
  exact ⟨rfl, (Ex.refl w)⟩
theorem c_l_eqTable {A1 : Option Addr} {c1 : Nat} {A2 : Option Addr} {c2 : Nat} {A3 : Option Addr} {c3 : Nat} {A4 : Option Addr} {c4 : Nat} {w : World} (p_a : DTable) (p_b : DTable) (h1 : RdS w (Iv 0 w.heap.size) (RF e_Str) 1 A1 p_a.Cols.length c1 p_a.Cols) (h2 : RdS w (Iv 0 w.heap.size) (RF e_Idx) 3 A2 p_a.Idxs.length c2 p_a.Idxs) (h3 : RdS w (Iv 0 w.heap.size) (RF e_Str) 1 A3 p_b.Cols.length c3 p_b.Cols) (h4 : RdS w (Iv 0 w.heap.size) (RF e_Idx) 3 A4 p_b.Idxs.length c4 p_b.Idxs) : Cal Tryd.prog 8 #[.agg #[.string (bs (p_a.Name)), .slice A1 p_a.Cols.length c1, .slice A2 p_a.Idxs.length c2], .agg #[.string (bs (p_b.Name)), .slice A3 p_b.Cols.length c3, .slice A4 p_b.Idxs.length c4]] w fun v w' => v = .bool ((l_eqTable p_a p_b)) ∧ Ex w w' := by
 refine Cal.of func8 rfl ntmps8 rfl (CW.seq (CW.region (sd rfl (yl_box rfl rfl rfl ?_))))
 intro b5 w6 hs7 hz8 hB9 hE10
 refine sd rfl (yl_box rfl rfl rfl ?_)
 intro b11 w12 hs13 hz14 hB15 hE16
 refine sd rfl (yl_assign rfl rfl (dn (CW.seq (CW.seq (CW.region (sd rfl (yl_fieldAddr fd31_0 rfl rfl ?_)))))))
 have q17 := Box.ex hB9 hE16
 refine sd rfl (yl_load1 ty9 rfl rfl ((q17.cell 0).trans rfl) (sd rfl (yl_fieldAddr fd31_0 rfl rfl (sd rfl (yl_load1 ty9 rfl rfl ((hB15.cell 0).trans rfl) (sd rfl (yl_sneq (a := p_a.Name) (b := p_b.Name) rfl rfl rfl (dn (bcase (p_a.Name == p_b.Name) (fun hb18 => ?_) (fun hb18 => ?_))))))))))
 ·refine CW.cond_f rfl (not_t hb18) (CW.skip (tn (CW.seq (CW.seq (CW.region (sd rfl (yl_fieldAddr fd31_1 rfl rfl (sd rfl (yl_load1 ty22 rfl rfl ((q17.cell 1).trans rfl) (sd rfl (yl_fieldAddr fd31_1 rfl rfl ?_)))))))))))
  refine sd rfl (yl_load1 ty22 rfl rfl ((hB15.cell 1).trans rfl) (sd rfl (yl_call en17 rfl (oc rfl (oc rfl oz)) (Cal.mono (c_l_eqStringS p_a.Cols p_b.Cols (RdS.up (RdS.ex good_Str (RdS.ex good_Str h1 hE10) hE16) good_Str) (RdS.up (RdS.ex good_Str (RdS.ex good_Str h3 hE10) hE16) good_Str)) ?_))))
  rintro v24 w23 ⟨rfl, hE25⟩
  refine sd rfl (yl_not rfl rfl (dn (bcase (l_eqStringS p_a.Cols p_b.Cols) (fun hb26 => ?_) (fun hb26 => ?_))))
  ·refine CW.cond_f rfl (not_t hb26) (CW.skip (tn (CW.seq (CW.seq (CW.region (sd rfl (yl_fieldAddr fd31_2 rfl rfl (sd rfl (yl_load1 ty29 rfl rfl (((Box.ex q17 hE25).cell 2).trans rfl) (sd rfl (yl_fieldAddr fd31_2 rfl rfl ?_)))))))))))
   refine sd rfl (yl_load1 ty29 rfl rfl (((Box.ex hB15 hE25).cell 2).trans rfl) (sd rfl (yl_call en18 rfl (oc rfl (oc rfl oz)) (Cal.mono (c_l_eqIdxS p_a.Idxs p_b.Idxs (RdS.up (RdS.ex good_Idx (RdS.ex good_Idx (RdS.ex good_Idx h2 hE10) hE16) hE25) good_Idx) (RdS.up (RdS.ex good_Idx (RdS.ex good_Idx (RdS.ex good_Idx h4 hE10) hE16) hE25) good_Idx)) ?_))))
   rintro v36 w35 ⟨rfl, hE37⟩
   refine sd rfl (yl_not rfl rfl (dn (bcase (l_eqIdxS p_a.Idxs p_b.Idxs) (fun hb38 => ?_) (fun hb38 => ?_))))
   ·refine CW.cond_f rfl (not_t hb38) (CW.skip (tn (CW.seq (CW.region (sd rfl (yl_assign rfl rfl (dn (CW.ret ?_))))))))
    refine rr rfl (.cons rfl .nil) ?_
    have hM39 : (l_eqTable p_a p_b) = (true) := by simp only [l_eqTable, hb18, hb26, hb38, cL]
    rw [hM39]
    exact ⟨rfl, (Ex.trans (Ex.trans (Ex.trans (Ex.trans (Ex.refl w) hE10) hE16) hE25) hE37)⟩
   ·refine CW.cond_t rfl (not_f hb38) (CW.seq (CW.region (sd rfl (yl_assign rfl rfl (dn (CW.ret (tr (rr rfl (.cons rfl .nil) ?_))))))))
    have hM44 : (l_eqTable p_a p_b) = (false) := by simp only [l_eqTable, hb18, hb26, hb38, cL]
    rw [hM44]
    exact ⟨rfl, (Ex.trans (Ex.trans (Ex.trans (Ex.trans (Ex.refl w) hE10) hE16) hE25) hE37)⟩
  ·refine CW.cond_t rfl (not_f hb26) (CW.seq (CW.region (sd rfl (yl_assign rfl rfl (dn (CW.ret (tr (rr rfl (.cons rfl .nil) ?_))))))))
   have hM49 : (l_eqTable p_a p_b) = (false) := by simp only [l_eqTable, hb18, hb26, cL]
   rw [hM49]
   exact ⟨rfl, (Ex.trans (Ex.trans (Ex.trans (Ex.refl w) hE10) hE16) hE25)⟩
 ·refine CW.cond_t rfl (not_f hb18) (CW.seq (CW.region (sd rfl (yl_assign rfl rfl (dn (CW.ret (tr (rr rfl (.cons rfl .nil) ?_))))))))
  have hM53 : (l_eqTable p_a p_b) = (false) := by simp only [l_eqTable, hb18, cL]
  rw [hM53]
  exact ⟨rfl, (Ex.trans (Ex.trans (Ex.refl w) hE10) hE16)⟩
theorem c_l_FnExactTableText {A1 : Option Addr} {c1 : Nat} {A2 : Option Addr} {c2 : Nat} {w : World} (p_aT : DTable) (h1 : RdS w (Iv 0 w.heap.size) (RF e_Str) 1 A1 p_aT.Cols.length c1 p_aT.Cols) (h2 : RdS w (Iv 0 w.heap.size) (RF e_Idx) 3 A2 p_aT.Idxs.length c2 p_aT.Idxs) (pre0 : wf_Table p_aT) : Cal Tryd.prog 3 #[.agg #[.string (bs (p_aT.Name)), .slice A1 p_aT.Cols.length c1, .slice A2 p_aT.Idxs.length c2]] w fun v w' => v = .bool ((l_FnExactTableText p_aT)) ∧ Ex w w' := by
 refine Cal.of func3 rfl ntmps3 rfl (CW.seq (CW.region (sd rfl (yl_box rfl rfl rfl ?_))))
 intro b3 w4 hs5 hz6 hB7 hE8
 refine sd rfl (yl_assign rfl rfl (dn (CW.seq (CW.region (sd rfl (yl_assign rfl rfl (dn (CW.seq ?_))))))))
 refine CW.region (sd rfl (yl_loadN ty25 rfl rfl (hB7.cells (n := 3) rfl) rfl (sd rfl (yl_move rfl rfl ?_))))
 have q9 := RdS.ex good_Str h1 hE8
 have q10 := RdS.ex good_Idx h2 hE8
 refine sd rfl (yl_call en4 rfl (oc rfl (oc rfl oz)) (Cal.mono (c_l_szTable p_aT 1048576 (RdS.up q9 good_Str) (RdS.up q10 good_Idx)) ?_))
 rintro v12 w11 ⟨rfl, hE13⟩
 have hE13z := Ex.size hE13
 refine sd rfl (yl_assign rfl rfl (dn (CW.seq (CW.seq (CW.region (sd rfl (yl_move rfl rfl (sd rfl (yl_lss rfl rfl rfl (SeqR.done ?_))))))))))
 refine tn (bcase (decide ((l_szTable p_aT 1048576) < 0)) (fun hb14 => ?_) (fun hb14 => ?_))
 ·have hb14p := dec_t hb14
  refine CW.cond_t rfl hb14 (CW.seq (CW.region (sd rfl (yl_assign rfl rfl (dn (CW.ret (tr (rr rfl (.cons rfl .nil) ?_))))))))
  have hM15 : (l_FnExactTableText p_aT) = (true) := by simp only [l_FnExactTableText, hb14, cL]
  rw [hM15]
  exact ⟨rfl, (Ex.trans (Ex.trans (Ex.refl w) hE8) hE13)⟩
 ·have hb14p := dec_f hb14
  refine CW.cond_f rfl hb14 (CW.skip (tn (CW.seq (CW.region ?_))))
  have q18 := Box.ex hB7 hE13
  refine sd rfl (yl_loadN ty25 rfl rfl (q18.cells (n := 3) rfl) rfl ?_)
  have q19 := RdS.ex good_Str q9 hE13
  have q20 := RdS.ex good_Idx q10 hE13
  refine sd rfl (yl_call en6 rfl (oc rfl oz) (Cal.mono (c_l_toTable p_aT (RdS.up q19 good_Str) (RdS.up q20 good_Idx) ((szok_Table pre0 (by decide) (dec_f hb14)).1)) ?_))
  rintro v24 w21 ⟨A22, c22, lo22, hi22, A23, c23, lo23, hi23, rfl, h22, h23, hrn26, hrn27, hrn28, hE25⟩
  have hE25z := Ex.size hE25
  refine sd rfl (yl_call en5 rfl (oc rfl oz) (Cal.mono (c_s_TableText p_aT (RdS.up (OwnL.rd good_Str h22) good_Str) (RdS.up (OwnL.rd good_Idx h23) good_Idx) ((szok_Table pre0 (by decide) (dec_f hb14)).1)) ?_))
  rintro v32 w31 ⟨rfl, hE33⟩
  have hE33z := Ex.size hE33
  refine sd rfl (yl_move rfl rfl (sd rfl (yl_extract rfl rfl rfl (sd rfl (yl_extract rfl rfl rfl (sd rfl (yl_assign rfl rfl (sd rfl (yl_assign rfl rfl (dn (CW.seq (CW.region ?_))))))))))))
  have q35 := Box.ex (Box.ex q18 hE25) hE33
  refine sd rfl (yl_loadN ty25 rfl rfl (q35.cells (n := 3) rfl) rfl ?_)
  have q37 := RdS.ex good_Str (RdS.ex good_Str q19 hE25) hE33
  have q39 := RdS.ex good_Idx (RdS.ex good_Idx q20 hE25) hE33
  refine sd rfl (yl_call en6 rfl (oc rfl oz) (Cal.mono (c_l_toTable p_aT (RdS.up q37 good_Str) (RdS.up q39 good_Idx) ((szok_Table pre0 (by decide) (dec_f hb14)).1)) ?_))
  rintro v43 w40 ⟨A41, c41, lo41, hi41, A42, c42, lo42, hi42, rfl, h41, h42, hrn45, hrn46, hrn47, hE44⟩
  have hE44z := Ex.size hE44
  refine sd rfl (yl_alloc ty31 (cs := [.string (bs (([] : Str))), .slice none 0 0, .slice none 0 0]) rfl rfl ?_)
  intro b48 w49 hs50 hz51 hB52 hE53
  refine SeqR.u rfl rfl (yl_store (vs := [.string (bs (p_aT.Name)), .slice A41 p_aT.Cols.length c41, .slice A42 p_aT.Idxs.length c42]) ty31 rfl rfl rfl rfl rfl rfl hB52 (Nat.le_of_ble_eq_true rfl) ?_)
  intro w54 hB55 hO56
  have hB55 : Box w54 b48 31 [.string (bs (p_aT.Name)), .slice A41 p_aT.Cols.length c41, .slice A42 p_aT.Idxs.length c42] := hB55
  have hO56z := hO56.size
  refine dn (CW.seq (CW.region (sd rfl (yl_loadN ty31 rfl rfl (hB55.cells (n := 3) rfl) rfl ?_))))
  have q59 := OwnL.only good_Str (OwnL.ex good_Str h41 hE53) hO56 (by omega)
  have q62 := OwnL.only good_Idx (OwnL.ex good_Idx h42 hE53) hO56 (by omega)
  refine sd rfl (yl_call en7 rfl (oc rfl oz) (Cal.mono (c_i_TableText p_aT (RdS.up (OwnL.rd good_Str q59) good_Str) (RdS.up (OwnL.rd good_Idx q62) good_Idx) ((szok_Table pre0 (by decide) (dec_f hb14)).1)) ?_))
  rintro v64 w63 ⟨rfl, hE65⟩
  have hE65z := Ex.size hE65
  refine sd rfl (yl_move rfl rfl (sd rfl (yl_extract rfl rfl rfl (sd rfl (yl_extract rfl rfl rfl (sd rfl (yl_assign rfl rfl (sd rfl (yl_assign rfl rfl (dn (CW.seq (CW.seq ?_))))))))))))
  refine CW.region (sd rfl (yl_move rfl rfl (sd rfl (yl_move rfl rfl (sd rfl (yl_sneq (a := ((i_TableText p_aT).1)) (b := ((s_TableText p_aT).1)) rfl rfl rfl (sd rfl (yl_move rfl rfl (bcase (((i_TableText p_aT).1) == ((s_TableText p_aT).1)) (fun hb66 => ?_) (fun hb66 => ?_))))))))))
  ·refine sy rfl rfl (not_t hb66) (yl_move rfl rfl (sy rfl rfl (not_t hb66) (yl_move rfl rfl (sy rfl rfl (not_t hb66) (yl_bneq un4 rfl rfl rfl (sd rfl (yl_pick_f rfl rfl (not_t hb66) rfl (dn (bcase (((i_TableText p_aT).2) == ((s_TableText p_aT).2)) (fun hb67 => ?_) (fun hb67 => ?_))))))))))
   ·refine CW.cond_f rfl (not_t hb67) (CW.skip (tn (CW.seq (CW.seq (CW.drawsI 5 (vgetI [DetI (.agg #[.string (bs (p_aT.Name)), .slice A41 p_aT.Cols.length c41, .slice A42 p_aT.Idxs.length c42]), DetI (.agg #[.string (bs (p_aT.Name)), .slice A1 p_aT.Cols.length c1, .slice A2 p_aT.Idxs.length c2]), fun lo hi v wq => ∃ A82 c82 lo82 hi82 A83 c83 lo83 hi83, v = .agg #[.string (bs (p_aT.Name)), .slice A82 p_aT.Cols.length c82, .slice A83 p_aT.Idxs.length c83] ∧ OwnL wq lo82 hi82 9 1 (RF e_Str) A82 p_aT.Cols.length c82 p_aT.Cols ∧ OwnL wq lo83 hi83 48 3 (RF e_Idx) A83 p_aT.Idxs.length c83 p_aT.Idxs ∧ (lo ≤ lo82 ∧ lo82 ≤ hi82 ∧ hi82 ≤ hi) ∧ (lo ≤ lo83 ∧ lo83 ≤ hi83 ∧ hi83 ≤ hi) ∧ (hi82 ≤ lo83 ∨ hi83 ≤ lo82), DetI (.bool ((l_eqTable p_aT p_aT))), DetI (.bool (!(l_eqTable p_aT p_aT)))]) Tryd.follows rfl rfl rfl rfl rfl rfl (vgetI_stable ⟨StableI.det _, StableI.det _, (fun _ _ _ _ _ ⟨A82, c82, lo82, hi82, A83, c83, lo83, hi83, hv, h82, h83, hr0, hr1, hr2⟩ e => ⟨A82, c82, lo82, hi82, A83, c83, lo83, hi83, hv, OwnL.ex good_Str h82 e, OwnL.ex good_Idx h83 e, hr0, hr1, hr2⟩), StableI.det _, StableI.det _, trivial⟩) ⟨?_, ?_, ?_, ?_, ?_, trivial⟩ ?_)))))
    ·exact oI rfl fun h => yl_loadN ty31 rfl (h.old 6 _ rfl rfl) ((Box.ex (Box.ex hB55 hE65) h.ex).cells (n := 3) rfl) rfl kI
    ·intro L95 w96 hi97
     have hE98 := hi97.ex
     have hE98z := Ex.size hE98
     exact os rfl ((yl_loadN ty25 rfl (hi97.old 1 _ rfl rfl) ((Box.ex (Box.ex (Box.only (Box.ex (Box.ex q35 hE44) hE53) hO56 (by omega)) hE65) hE98).cells (n := 3) rfl) rfl kI))
    ·intro L101 w102 hi103
     have hE104 := hi103.ex
     have hE104z := Ex.size hE104
     refine OpR.op' rfl (yl_call en6 rfl (oc (hi103.dt 1 36 rfl rfl rfl) oz) (Cal.mono (c_l_toTable p_aT (RdS.up (RdS.ex good_Str (RdS.ex good_Str (RdS.only good_Str (RdS.ex good_Str (RdS.ex good_Str q37 hE44) hE53) hO56 (by simp only [Iv]; omega)) hE65) hE104) good_Str) (RdS.up (RdS.ex good_Idx (RdS.ex good_Idx (RdS.only good_Idx (RdS.ex good_Idx (RdS.ex good_Idx q39 hE44) hE53) hO56 (by simp only [Iv]; omega)) hE65) hE104) good_Idx) ((szok_Table pre0 (by decide) (dec_f hb14)).1)) ?_))
     rintro v111 w108 ⟨A109, c109, lo109, hi109, A110, c110, lo110, hi110, rfl, h109, h110, hrn113, hrn114, hrn115, hE112⟩
     exact ⟨⟨A109, c109, lo109, hi109, A110, c110, lo110, hi110, rfl, h109, h110, hrn113, hrn114, hrn115⟩, hE112⟩
    ·intro L116 w117 hi118
     have hE119 := hi118.ex
     obtain ⟨lo122, hh123, _, hx121, hr124, hr125, hr126, A82_127, c82_128, lo82_129, hi82_130, A83_131, c83_132, lo83_133, hi83_134, rfl, h135, h136, hrn137, hrn138, hrn139⟩ := hi118.dep 2 37 rfl rfl
     exact OpR.op' rfl (yl_call en8 rfl (oc (hi118.dt 0 35 rfl rfl rfl) (oc hx121 oz)) (Cal.mono (c_l_eqTable p_aT p_aT (RdS.up (OwnL.rd good_Str (OwnL.ex good_Str (OwnL.ex good_Str q59 hE65) hE119)) good_Str) (RdS.up (OwnL.rd good_Idx (OwnL.ex good_Idx (OwnL.ex good_Idx q62 hE65) hE119)) good_Idx) (RdS.up (OwnL.rd good_Str h135) good_Str) (RdS.up (OwnL.rd good_Idx h136) good_Idx)) fun _ _ h => h))
    ·exact oI rfl fun h => yl_not rfl (h.dt 3 38 rfl rfl rfl) kI
    ·intro fl157 fh158 L154 w155 hp156
     have hE159 := hp156.ex
     have hE159z := Ex.size hE159
     have hr161 := hp156.rng 2 rfl
     obtain ⟨_, hx160, A82_162, c82_163, lo82_164, hi82_165, A83_166, c83_167, lo83_168, hi83_169, rfl, h170, h171, hrn172, hrn173, hrn174⟩ := hp156.new 2 37 rfl rfl
     refine dn (CW.sub (Sub.cons (d := 39) (hp156.nt 4 39 rfl rfl rfl) (Sub.nil _)) (bcase (l_eqTable p_aT p_aT) (fun hb176 => ?_) (fun hb176 => ?_)))
     ·refine CW.cond_f rfl (not_t hb176) (CW.skip (tn (CW.seq (CW.region (sd rfl (yl_assign rfl rfl (dn (CW.ret ?_))))))))
      refine rr rfl (.cons rfl .nil) ?_
      have hM177 : (l_FnExactTableText p_aT) = (true) := by simp only [l_FnExactTableText, hb14, hb66, hb67, hb176, cL]
      rw [hM177]
      exact ⟨rfl, (Ex.trans (Ex.trans (Below.only (Ex.trans (Ex.trans (Ex.trans (Ex.trans (Ex.trans (Ex.trans (Ex.refl w) hE8) hE13) hE25) hE33) hE44) hE53) hO56 (by omega)) hE65) hE159)⟩
     ·refine CW.cond_t rfl (not_f hb176) (CW.seq (CW.region (sd rfl (yl_assign rfl rfl (dn (CW.ret (tr (rr rfl (.cons rfl .nil) ?_))))))))
      have hM187 : (l_FnExactTableText p_aT) = (false) := by simp only [l_FnExactTableText, hb14, hb66, hb67, hb176, cL]
      rw [hM187]
      exact ⟨rfl, (Ex.trans (Ex.trans (Below.only (Ex.trans (Ex.trans (Ex.trans (Ex.trans (Ex.trans (Ex.trans (Ex.refl w) hE8) hE13) hE25) hE33) hE44) hE53) hO56 (by omega)) hE65) hE159)⟩
   ·refine CW.cond_t rfl (not_f hb67) (CW.seq (CW.region (sd rfl (yl_assign rfl rfl (dn (CW.ret (tr (rr rfl (.cons rfl .nil) ?_))))))))
    have hM197 : (l_FnExactTableText p_aT) = (false) := by simp only [l_FnExactTableText, hb14, hb66, hb67, cL]
    rw [hM197]
    exact ⟨rfl, (Ex.trans (Below.only (Ex.trans (Ex.trans (Ex.trans (Ex.trans (Ex.trans (Ex.trans (Ex.refl w) hE8) hE13) hE25) hE33) hE44) hE53) hO56 (by omega)) hE65)⟩
  ·refine sz rfl rfl (not_f hb66) (sz rfl rfl (not_f hb66) (sz rfl rfl (not_f hb66) (sd rfl (yl_pick_t rfl rfl (not_f hb66) rfl (dn (CW.cond_t rfl rfl (CW.seq (CW.region ?_))))))))
   refine sd rfl (yl_assign rfl rfl (dn (CW.ret (tr (rr rfl (.cons rfl .nil) ?_)))))
   have hM206 : (l_FnExactTableText p_aT) = (false) := by simp only [l_FnExactTableText, hb14, hb66, cL]
   rw [hM206]
   exact ⟨rfl, (Ex.trans (Below.only (Ex.trans (Ex.trans (Ex.trans (Ex.trans (Ex.trans (Ex.trans (Ex.refl w) hE8) hE13) hE25) hE33) hE44) hE53) hO56 (by omega)) hE65)⟩
end Go.Proofs.YtficefnmkcejlaaDoor
