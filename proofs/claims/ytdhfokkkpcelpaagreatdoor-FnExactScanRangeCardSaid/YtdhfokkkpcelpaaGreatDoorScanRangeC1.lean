/- Scan Range: what each call returns, part 1. -/
import Derived.Test.YtdhfokkkpcelpaaGreatDoorScanRangeL
import Derived.Test.YtdhfokkkpcelpaaGreatDoorScanRangeF
import Derived.Test.YtdhfokkkpcelpaaGreatDoorScanRangeQ
import Derived.Test.YtdhfokkkpcelpaaGreatDoorScanRangeS
set_option maxRecDepth 100000
set_option maxHeartbeats 2000000
open Go.Proofs.Tryz Go.Proofs.YtdhfokkkpcelpaaGreatDoor.Tryz
set_option linter.unusedVariables false
set_option linter.unusedSimpArgs false
namespace Go.Proofs.YtdhfokkkpcelpaaGreatDoor
open Go.RowKit Go.X
theorem c_l_szStringS {A1 : Option Addr} {c1 : Nat} {w : World} (p_a : List Str) (p_left : Int) (h1 : RdS w (Iv 0 w.heap.size) (RF e_Str) 1 A1 p_a.length c1 p_a) : Cal Tryz.prog 17 #[.slice A1 p_a.length c1, .int .i64 (p_left)] w fun v w' => v = .int .i64 ((l_szStringS p_a p_left)) ∧ Ex w w' := by
 refine Cal.of func17 rfl ntmps17 rfl (CW.seq (CW.region (sd rfl (yl_assign rfl rfl (dn (CW.seq (CW.region (sd rfl (yl_move rfl rfl ?_)))))))))
 refine sd rfl (yl_move rfl rfl (sd rfl (yl_len un22 rfl rfl (sd rfl (yl_sub rfl rfl rfl (sd rfl (yl_assign rfl rfl (dn (CW.seq (CW.seq (CW.region ?_)))))))))))
 refine sd rfl (yl_move rfl rfl (sd rfl (yl_lss rfl rfl rfl (dn (bcD (q := (IntKind.wrap .i64 (p_left - (p_a.length : Int))) < 0) (fun hb2 hb2p => ?_) (fun hb2 hb2p => ?_))))))
 ·refine CW.cond_t rfl hb2 (CW.seq (CW.region (sd rfl (yl_assign rfl rfl (dn (CW.ret (tr (rr rfl (.cons rfl .nil) ?_))))))))
  rw [show (l_szStringS p_a p_left) = (-1) by simp only [l_szStringS, hb2, cL]]
  exact ⟨rfl, (Ex.refl w)⟩
 ·refine CW.cond_f rfl hb2 (CW.skip (tn (CW.seq (CW.seq (CW.region (sd rfl (yl_assign rfl rfl (dn ?_))))))))
  refine CW.block (CW.loop (fun m6 L7 w8 => ∃ (k4 : Nat) (x5 : Int), m6 = p_a.length - k4 ∧ k4 ≤ p_a.length ∧ w.heap.size ≤ w8.heap.size ∧ Sub [(0, .slice A1 p_a.length c1), (1, .int .i64 (x5)), (5, .int .i64 ((k4 : Int)))] L7 ∧ Ex w w8 ∧ loopM (B_l_szStringS_0 p_a p_left) (p_a.length - k4) k4 (x5) = loopM (B_l_szStringS_0 p_a p_left) (p_a.length - 0) 0 (IntKind.wrap .i64 (p_left - (p_a.length : Int)))) (p_a.length - 0) ?_ ?_)
  ·exact ⟨0, IntKind.wrap .i64 (p_left - (p_a.length : Int)), rfl, (by omega), Nat.le_refl _, (sR rfl), (Ex.refl w), rfl⟩
  ·rintro m9 L10 w11 ⟨k4, x5, rfl, hk12, hsz14, hl15, hf16, hI13⟩
   refine CW.sub hl15 ?_
   have hf16z := Ex.size hf16
   have q18 := RdS.ex good_Str h1 hf16
   have hbg17 := RdS.big q18
   rcases Nat.lt_or_ge k4 p_a.length with hlt19 | hlt19
   ·refine CW.seq (CW.seq (CW.region (sd rfl (yl_move rfl rfl (sd rfl (yl_move rfl rfl (sd rfl (yl_len un22 rfl rfl (sd rfl (yl_lss rfl rfl rfl (dn ?_)))))))))))
    refine CW.cond_t rfl (lt_t hlt19) (CW.skip (tn (CW.seq (CW.block (CW.seq (CW.region (sd rfl (yl_move rfl rfl (sd rfl (yl_move rfl rfl ?_))))))))))
    refine sd rfl (yl_move rfl rfl ?_)
    obtain ⟨_, _, _, eA20, _, ebl20, _, eR20, eC20⟩ := RdS.aD q18 d_Str (i := k4)
    obtain rfl := eR20
    refine sd rfl (yl_ixN un22 ty9 rfl rfl rfl eA20 (sd rfl (yl_load1 ty9 rfl rfl (eC20 0 _ rfl) (sd rfl (yl_slen un9 (a := (p_a.getD k4 d_Str)) rfl rfl (sd rfl (yl_sub rfl rfl rfl (sd rfl (yl_assign rfl rfl (dn (CW.seq (CW.region ?_))))))))))))
    refine sd rfl (yl_move rfl rfl (sd rfl (yl_lss rfl rfl rfl (dn (bcD (q := (IntKind.wrap .i64 (x5 - ((p_a.getD k4 d_Str).length : Int))) < 0) (fun hb21 hb21p => ?_) (fun hb21 hb21p => ?_))))))
    ·refine CW.cond_t rfl hb21 (CW.seq (CW.region (sd rfl (yl_assign rfl rfl (dn (CW.ret (br (tr ?_))))))))
     refine tr ?_
     have hB23 : B_l_szStringS_0 p_a p_left k4 (x5) = .ret (-1) := by simp only [B_l_szStringS_0, hb2, hb21, cL]
     have hL22 : loopM (B_l_szStringS_0 p_a p_left) (p_a.length - 0) 0 (IntKind.wrap .i64 (p_left - (p_a.length : Int))) = .ret (-1) := hI13.symm.trans (loopM.ret hlt19 hB23)
     refine br (tr (rr rfl (.cons rfl .nil) ?_))
     rw [show (l_szStringS p_a p_left) = (-1) by simp only [l_szStringS, hb2, hb21, hL22, cL]]
     exact ⟨rfl, hf16⟩
    ·refine CW.cond_f rfl hb21 (CW.skip (bn (tn (CW.region (sd rfl (yl_move rfl rfl (sd rfl (yl_inc rfl rfl rfl (by omega) (sd rfl (yl_assign rfl rfl (SeqR.done ?_)))))))))))
     refine tn ?_
     have hB25 : B_l_szStringS_0 p_a p_left k4 (x5) = .cont (IntKind.wrap .i64 (x5 - ((p_a.getD k4 d_Str).length : Int))) := by simp only [B_l_szStringS_0, hb2, hb21, cL]
     exact ⟨p_a.length - (k4 + 1), by omega, k4 + 1, IntKind.wrap .i64 (x5 - ((p_a.getD k4 d_Str).length : Int)), rfl, hlt19, (by omega), (sR rfl), hf16, (loopM.cont hlt19 hB25).symm.trans hI13⟩
   ·refine CW.seq (CW.seq (CW.region (sd rfl (yl_move rfl rfl (sd rfl (yl_move rfl rfl (sd rfl (yl_len un22 rfl rfl (sd rfl (yl_lss rfl rfl rfl (dn ?_)))))))))))
    refine CW.cond_f rfl (lt_f hlt19) (CW.exit (tx (tx ?_)))
    have hL26 : loopM (B_l_szStringS_0 p_a p_left) (p_a.length - 0) 0 (IntKind.wrap .i64 (p_left - (p_a.length : Int))) = .done (x5) := hI13.symm.trans (loopM.stop hlt19)
    refine bx (tn (CW.seq (CW.region (sd rfl (yl_move rfl rfl (sd rfl (yl_assign rfl rfl (dn (CW.ret ?_)))))))))
    refine rr rfl (.cons rfl .nil) ?_
    rw [show (l_szStringS p_a p_left) = (x5) by simp only [l_szStringS, hb2, hL26, cL]]
    exact ⟨rfl, hf16⟩
theorem c_l_szIdx {w : World} (p_a : DIdx) (p_left : Int) : Cal Tryz.prog 47 #[.agg #[.string (bs (p_a.Name)), .int .i64 (p_a.Col), .int .i64 (p_a.Stage)], .int .i64 (p_left)] w fun v w' => v = .int .i64 ((l_szIdx p_a p_left)) ∧ Ex w w' := by
 refine Cal.of func47 rfl ntmps47 rfl (CW.seq (CW.region (sd rfl (yl_box rfl rfl rfl ?_))))
 intro b1 w2 hs3 hz4 hB5 hE6
 refine sd rfl (yl_assign rfl rfl (dn (CW.seq (CW.region (sd rfl (yl_move rfl rfl (sd rfl (yl_fieldAddr fd76_0 rfl rfl (sd rfl (yl_load1 ty9 rfl rfl ((hB5.cell 0).trans rfl) (sd rfl (yl_slen un9 (a := p_a.Name) rfl rfl ?_))))))))))))
 refine sd rfl (yl_sub rfl rfl rfl (sd rfl (yl_assign rfl rfl (dn (CW.seq (CW.seq (CW.region (sd rfl (yl_move rfl rfl (sd rfl (yl_lss rfl rfl rfl ?_)))))))))))
 refine dn (bcD (q := (IntKind.wrap .i64 (p_left - (p_a.Name.length : Int))) < 0) (fun hb7 hb7p => ?_) (fun hb7 hb7p => ?_))
 ·refine CW.cond_t rfl hb7 (CW.seq (CW.region (sd rfl (yl_assign rfl rfl (dn (CW.ret (tr (rr rfl (.cons rfl .nil) ?_))))))))
  rw [show (l_szIdx p_a p_left) = (-1) by simp only [l_szIdx, hb7, cL]]
  exact ⟨rfl, (Ex.trans (Ex.refl w) hE6)⟩
 ·refine CW.cond_f rfl hb7 (CW.skip (tn (CW.seq (CW.region (sd rfl (yl_move rfl rfl (sd rfl (yl_assign rfl rfl (dn ?_)))))))))
  refine CW.ret (rr rfl (.cons rfl .nil) ?_)
  rw [show (l_szIdx p_a p_left) = (IntKind.wrap .i64 (p_left - (p_a.Name.length : Int))) by simp only [l_szIdx, hb7, cL]]
  exact ⟨rfl, (Ex.trans (Ex.refl w) hE6)⟩
theorem c_l_szIdxS {A1 : Option Addr} {c1 : Nat} {w : World} (p_a : List DIdx) (p_left : Int) (h1 : RdS w (Iv 0 w.heap.size) (RF e_Idx) 3 A1 p_a.length c1 p_a) : Cal Tryz.prog 18 #[.slice A1 p_a.length c1, .int .i64 (p_left)] w fun v w' => v = .int .i64 ((l_szIdxS p_a p_left)) ∧ Ex w w' := by
 refine Cal.of func18 rfl ntmps18 rfl (CW.seq (CW.region (sd rfl (yl_assign rfl rfl (dn (CW.seq (CW.region (sd rfl (yl_move rfl rfl ?_)))))))))
 refine sd rfl (yl_move rfl rfl (sd rfl (yl_len un23 rfl rfl (sd rfl (yl_sub rfl rfl rfl (sd rfl (yl_assign rfl rfl (dn (CW.seq (CW.seq (CW.region ?_)))))))))))
 refine sd rfl (yl_move rfl rfl (sd rfl (yl_lss rfl rfl rfl (dn (bcD (q := (IntKind.wrap .i64 (p_left - (p_a.length : Int))) < 0) (fun hb2 hb2p => ?_) (fun hb2 hb2p => ?_))))))
 ·refine CW.cond_t rfl hb2 (CW.seq (CW.region (sd rfl (yl_assign rfl rfl (dn (CW.ret (tr (rr rfl (.cons rfl .nil) ?_))))))))
  rw [show (l_szIdxS p_a p_left) = (-1) by simp only [l_szIdxS, hb2, cL]]
  exact ⟨rfl, (Ex.refl w)⟩
 ·refine CW.cond_f rfl hb2 (CW.skip (tn (CW.seq (CW.seq (CW.region (sd rfl (yl_assign rfl rfl (dn ?_))))))))
  refine CW.block (CW.loop (fun m6 L7 w8 => ∃ (k4 : Nat) (x5 : Int), m6 = p_a.length - k4 ∧ k4 ≤ p_a.length ∧ w.heap.size ≤ w8.heap.size ∧ Sub [(0, .slice A1 p_a.length c1), (1, .int .i64 (x5)), (5, .int .i64 ((k4 : Int)))] L7 ∧ Ex w w8 ∧ loopM (B_l_szIdxS_0 p_a p_left) (p_a.length - k4) k4 (x5) = loopM (B_l_szIdxS_0 p_a p_left) (p_a.length - 0) 0 (IntKind.wrap .i64 (p_left - (p_a.length : Int)))) (p_a.length - 0) ?_ ?_)
  ·exact ⟨0, IntKind.wrap .i64 (p_left - (p_a.length : Int)), rfl, (by omega), Nat.le_refl _, (sR rfl), (Ex.refl w), rfl⟩
  ·rintro m9 L10 w11 ⟨k4, x5, rfl, hk12, hsz14, hl15, hf16, hI13⟩
   refine CW.sub hl15 ?_
   have hf16z := Ex.size hf16
   have q18 := RdS.ex good_Idx h1 hf16
   have hbg17 := RdS.big q18
   rcases Nat.lt_or_ge k4 p_a.length with hlt19 | hlt19
   ·refine CW.seq (CW.seq (CW.region (sd rfl (yl_move rfl rfl (sd rfl (yl_move rfl rfl (sd rfl (yl_len un23 rfl rfl (sd rfl (yl_lss rfl rfl rfl (dn ?_)))))))))))
    refine CW.cond_t rfl (lt_t hlt19) (CW.skip (tn (CW.seq (CW.block (CW.seq (CW.region (sd rfl (yl_move rfl rfl (sd rfl (yl_move rfl rfl ?_))))))))))
    obtain ⟨_, _, _, eA20, _, ebl20, _, eR20, eC20⟩ := RdS.aD q18 d_Idx (i := k4)
    obtain rfl := eR20
    refine sd rfl (yl_ixN un23 ty76 rfl rfl rfl eA20 (sd rfl (yl_loadN ty76 rfl rfl eC20 rfl (sd rfl (yl_move rfl rfl (sd rfl (yl_call en47 rfl (oc rfl (oc rfl oz)) (Cal.mono (c_l_szIdx (p_a.getD k4 d_Idx) x5) ?_))))))))
    rintro v22 w21 ⟨rfl, hE23⟩
    have hE23z := Ex.size hE23
    refine sd rfl (yl_assign rfl rfl (dn (CW.seq (CW.region (sd rfl (yl_move rfl rfl (sd rfl (yl_lss rfl rfl rfl (dn ?_)))))))))
    refine bcD (q := (l_szIdx (p_a.getD k4 d_Idx) x5) < 0) (fun hb24 hb24p => ?_) (fun hb24 hb24p => ?_)
    ·refine CW.cond_t rfl hb24 (CW.seq (CW.region (sd rfl (yl_assign rfl rfl (dn (CW.ret (br (tr ?_))))))))
     refine tr ?_
     have hB26 : B_l_szIdxS_0 p_a p_left k4 (x5) = .ret (-1) := by simp only [B_l_szIdxS_0, hb2, hb24, cL]
     have hL25 : loopM (B_l_szIdxS_0 p_a p_left) (p_a.length - 0) 0 (IntKind.wrap .i64 (p_left - (p_a.length : Int))) = .ret (-1) := hI13.symm.trans (loopM.ret hlt19 hB26)
     refine br (tr (rr rfl (.cons rfl .nil) ?_))
     rw [show (l_szIdxS p_a p_left) = (-1) by simp only [l_szIdxS, hb2, hb24, hL25, cL]]
     exact ⟨rfl, (Ex.trans hf16 hE23)⟩
    ·refine CW.cond_f rfl hb24 (CW.skip (bn (tn (CW.region (sd rfl (yl_move rfl rfl (sd rfl (yl_inc rfl rfl rfl (by omega) (sd rfl (yl_assign rfl rfl (SeqR.done ?_)))))))))))
     refine tn ?_
     have hB29 : B_l_szIdxS_0 p_a p_left k4 (x5) = .cont ((l_szIdx (p_a.getD k4 d_Idx) x5)) := by simp only [B_l_szIdxS_0, hb2, hb24, cL]
     exact ⟨p_a.length - (k4 + 1), by omega, k4 + 1, (l_szIdx (p_a.getD k4 d_Idx) x5), rfl, hlt19, (by omega), (sR rfl), (Ex.trans hf16 hE23), (loopM.cont hlt19 hB29).symm.trans hI13⟩
   ·refine CW.seq (CW.seq (CW.region (sd rfl (yl_move rfl rfl (sd rfl (yl_move rfl rfl (sd rfl (yl_len un23 rfl rfl (sd rfl (yl_lss rfl rfl rfl (dn ?_)))))))))))
    refine CW.cond_f rfl (lt_f hlt19) (CW.exit (tx (tx ?_)))
    have hL31 : loopM (B_l_szIdxS_0 p_a p_left) (p_a.length - 0) 0 (IntKind.wrap .i64 (p_left - (p_a.length : Int))) = .done (x5) := hI13.symm.trans (loopM.stop hlt19)
    refine bx (tn (CW.seq (CW.region (sd rfl (yl_move rfl rfl (sd rfl (yl_assign rfl rfl (dn (CW.ret ?_)))))))))
    refine rr rfl (.cons rfl .nil) ?_
    rw [show (l_szIdxS p_a p_left) = (x5) by simp only [l_szIdxS, hb2, hL31, cL]]
    exact ⟨rfl, hf16⟩
theorem c_l_szTable {A1 : Option Addr} {c1 : Nat} {A2 : Option Addr} {c2 : Nat} {w : World} (p_a : DTable) (p_left : Int) (h1 : RdS w (Iv 0 w.heap.size) (RF e_Str) 1 A1 p_a.Cols.length c1 p_a.Cols) (h2 : RdS w (Iv 0 w.heap.size) (RF e_Idx) 3 A2 p_a.Idxs.length c2 p_a.Idxs) : Cal Tryz.prog 4 #[.agg #[.string (bs (p_a.Name)), .slice A1 p_a.Cols.length c1, .slice A2 p_a.Idxs.length c2], .int .i64 (p_left)] w fun v w' => v = .int .i64 ((l_szTable p_a p_left)) ∧ Ex w w' := by
 refine Cal.of func4 rfl ntmps4 rfl (CW.seq (CW.region (sd rfl (yl_box rfl rfl rfl ?_))))
 intro b3 w4 hs5 hz6 hB7 hE8
 refine sd rfl (yl_assign rfl rfl (dn (CW.seq (CW.region (sd rfl (yl_move rfl rfl (sd rfl (yl_fieldAddr fd25_0 rfl rfl (sd rfl (yl_load1 ty9 rfl rfl ((hB7.cell 0).trans rfl) (sd rfl (yl_slen un9 (a := p_a.Name) rfl rfl ?_))))))))))))
 refine sd rfl (yl_sub rfl rfl rfl (sd rfl (yl_assign rfl rfl (dn (CW.seq (CW.seq (CW.region (sd rfl (yl_move rfl rfl (sd rfl (yl_lss rfl rfl rfl ?_)))))))))))
 refine dn (bcD (q := (IntKind.wrap .i64 (p_left - (p_a.Name.length : Int))) < 0) (fun hb9 hb9p => ?_) (fun hb9 hb9p => ?_))
 ·refine CW.cond_t rfl hb9 (CW.seq (CW.region (sd rfl (yl_assign rfl rfl (dn (CW.ret (tr (rr rfl (.cons rfl .nil) ?_))))))))
  rw [show (l_szTable p_a p_left) = (-1) by simp only [l_szTable, hb9, cL]]
  exact ⟨rfl, (Ex.trans (Ex.refl w) hE8)⟩
 ·refine CW.cond_f rfl hb9 (CW.skip (tn (CW.seq (CW.region (sd rfl (yl_fieldAddr fd25_1 rfl rfl (sd rfl (yl_load1 ty22 rfl rfl ((hB7.cell 1).trans rfl) (sd rfl (yl_move rfl rfl ?_))))))))))
  have q12 := Ex.trans (Ex.refl w) hE8
  refine sd rfl (yl_call en17 rfl (oc rfl (oc rfl oz)) (Cal.mono (c_l_szStringS p_a.Cols (IntKind.wrap .i64 (p_left - (p_a.Name.length : Int))) (RdS.up (RdS.ex good_Str h1 q12) good_Str)) ?_))
  rintro v15 w14 ⟨rfl, hE16⟩
  refine sd rfl (yl_assign rfl rfl (dn (CW.seq (CW.seq (CW.region (sd rfl (yl_move rfl rfl (sd rfl (yl_lss rfl rfl rfl (SeqR.done ?_))))))))))
  refine tn (bcD (q := (l_szStringS p_a.Cols (IntKind.wrap .i64 (p_left - (p_a.Name.length : Int)))) < 0) (fun hb17 hb17p => ?_) (fun hb17 hb17p => ?_))
  ·refine CW.cond_t rfl hb17 (CW.seq (CW.region (sd rfl (yl_assign rfl rfl (dn (CW.ret (tr (rr rfl (.cons rfl .nil) ?_))))))))
   rw [show (l_szTable p_a p_left) = (-1) by simp only [l_szTable, hb9, hb17, cL]]
   exact ⟨rfl, (Ex.trans q12 hE16)⟩
  ·refine CW.cond_f rfl hb17 (CW.skip (tn (CW.seq (CW.region (sd rfl (yl_fieldAddr fd25_2 rfl rfl (sd rfl (yl_load1 ty23 rfl rfl (((Box.ex hB7 hE16).cell 2).trans rfl) (sd rfl (yl_move rfl rfl ?_))))))))))
   have q21 := Ex.trans q12 hE16
   refine sd rfl (yl_call en18 rfl (oc rfl (oc rfl oz)) (Cal.mono (c_l_szIdxS p_a.Idxs (l_szStringS p_a.Cols (IntKind.wrap .i64 (p_left - (p_a.Name.length : Int)))) (RdS.up (RdS.ex good_Idx h2 q21) good_Idx)) ?_))
   rintro v24 w23 ⟨rfl, hE25⟩
   refine sd rfl (yl_assign rfl rfl (dn (CW.seq (CW.seq (CW.region (sd rfl (yl_move rfl rfl (sd rfl (yl_lss rfl rfl rfl (SeqR.done ?_))))))))))
   refine tn (bcD (q := (l_szIdxS p_a.Idxs (l_szStringS p_a.Cols (IntKind.wrap .i64 (p_left - (p_a.Name.length : Int))))) < 0) (fun hb26 hb26p => ?_) (fun hb26 hb26p => ?_))
   ·refine CW.cond_t rfl hb26 (CW.seq (CW.region (sd rfl (yl_assign rfl rfl (dn (CW.ret (tr (rr rfl (.cons rfl .nil) ?_))))))))
    rw [show (l_szTable p_a p_left) = (-1) by simp only [l_szTable, hb9, hb17, hb26, cL]]
    exact ⟨rfl, (Ex.trans q21 hE25)⟩
   ·refine CW.cond_f rfl hb26 (CW.skip (tn (CW.seq (CW.region (sd rfl (yl_move rfl rfl (sd rfl (yl_assign rfl rfl (dn ?_)))))))))
    refine CW.ret (rr rfl (.cons rfl .nil) ?_)
    rw [show (l_szTable p_a p_left) = ((l_szIdxS p_a.Idxs (l_szStringS p_a.Cols (IntKind.wrap .i64 (p_left - (p_a.Name.length : Int)))))) by simp only [l_szTable, hb9, hb17, hb26, cL]]
    exact ⟨rfl, (Ex.trans q21 hE25)⟩
theorem c_l_szWrite {w : World} (p_a : DWrite) (p_left : Int) : Cal Tryz.prog 19 #[.agg #[.string (bs (p_a.Key)), .string (bs (p_a.Val)), .bool (p_a.Gone)], .int .i64 (p_left)] w fun v w' => v = .int .i64 ((l_szWrite p_a p_left)) ∧ Ex w w' := by
 refine Cal.of func19 rfl ntmps19 rfl (CW.seq (CW.region (sd rfl (yl_box rfl rfl rfl ?_))))
 intro b1 w2 hs3 hz4 hB5 hE6
 refine sd rfl (yl_assign rfl rfl (dn (CW.seq (CW.region (sd rfl (yl_move rfl rfl (sd rfl (yl_fieldAddr fd49_0 rfl rfl (sd rfl (yl_load1 ty9 rfl rfl ((hB5.cell 0).trans rfl) (sd rfl (yl_slen un9 (a := p_a.Key) rfl rfl ?_))))))))))))
 refine sd rfl (yl_sub rfl rfl rfl (sd rfl (yl_assign rfl rfl (dn (CW.seq (CW.seq (CW.region (sd rfl (yl_move rfl rfl (sd rfl (yl_lss rfl rfl rfl ?_)))))))))))
 refine dn (bcD (q := (IntKind.wrap .i64 (p_left - (p_a.Key.length : Int))) < 0) (fun hb7 hb7p => ?_) (fun hb7 hb7p => ?_))
 ·refine CW.cond_t rfl hb7 (CW.seq (CW.region (sd rfl (yl_assign rfl rfl (dn (CW.ret (tr (rr rfl (.cons rfl .nil) ?_))))))))
  rw [show (l_szWrite p_a p_left) = (-1) by simp only [l_szWrite, hb7, cL]]
  exact ⟨rfl, (Ex.trans (Ex.refl w) hE6)⟩
 ·refine CW.cond_f rfl hb7 (CW.skip (tn (CW.seq (CW.region (sd rfl (yl_move rfl rfl (sd rfl (yl_fieldAddr fd49_1 rfl rfl (sd rfl (yl_load1 ty9 rfl rfl ((hB5.cell 1).trans rfl) (sd rfl (yl_slen un9 (a := p_a.Val) rfl rfl ?_))))))))))))
  refine sd rfl (yl_sub rfl rfl rfl (sd rfl (yl_assign rfl rfl (dn (CW.seq (CW.seq (CW.region (sd rfl (yl_move rfl rfl (sd rfl (yl_lss rfl rfl rfl ?_)))))))))))
  refine dn (bcD (q := (IntKind.wrap .i64 ((IntKind.wrap .i64 (p_left - (p_a.Key.length : Int))) - (p_a.Val.length : Int))) < 0) (fun hb10 hb10p => ?_) (fun hb10 hb10p => ?_))
  ·refine CW.cond_t rfl hb10 (CW.seq (CW.region (sd rfl (yl_assign rfl rfl (dn (CW.ret (tr (rr rfl (.cons rfl .nil) ?_))))))))
   rw [show (l_szWrite p_a p_left) = (-1) by simp only [l_szWrite, hb7, hb10, cL]]
   exact ⟨rfl, (Ex.trans (Ex.refl w) hE6)⟩
  ·refine CW.cond_f rfl hb10 (CW.skip (tn (CW.seq (CW.region (sd rfl (yl_move rfl rfl (sd rfl (yl_assign rfl rfl (dn ?_)))))))))
   refine CW.ret (rr rfl (.cons rfl .nil) ?_)
   rw [show (l_szWrite p_a p_left) = (IntKind.wrap .i64 ((IntKind.wrap .i64 (p_left - (p_a.Key.length : Int))) - (p_a.Val.length : Int))) by simp only [l_szWrite, hb7, hb10, cL]]
   exact ⟨rfl, (Ex.trans (Ex.refl w) hE6)⟩
theorem c_l_szWriteS {A1 : Option Addr} {c1 : Nat} {w : World} (p_a : List DWrite) (p_left : Int) (h1 : RdS w (Iv 0 w.heap.size) (RF e_Write) 3 A1 p_a.length c1 p_a) : Cal Tryz.prog 5 #[.slice A1 p_a.length c1, .int .i64 (p_left)] w fun v w' => v = .int .i64 ((l_szWriteS p_a p_left)) ∧ Ex w w' := by
 refine Cal.of func5 rfl ntmps5 rfl (CW.seq (CW.region (sd rfl (yl_assign rfl rfl (dn (CW.seq (CW.region (sd rfl (yl_move rfl rfl ?_)))))))))
 refine sd rfl (yl_move rfl rfl (sd rfl (yl_len un26 rfl rfl (sd rfl (yl_sub rfl rfl rfl (sd rfl (yl_assign rfl rfl (dn (CW.seq (CW.seq (CW.region ?_)))))))))))
 refine sd rfl (yl_move rfl rfl (sd rfl (yl_lss rfl rfl rfl (dn (bcD (q := (IntKind.wrap .i64 (p_left - (p_a.length : Int))) < 0) (fun hb2 hb2p => ?_) (fun hb2 hb2p => ?_))))))
 ·refine CW.cond_t rfl hb2 (CW.seq (CW.region (sd rfl (yl_assign rfl rfl (dn (CW.ret (tr (rr rfl (.cons rfl .nil) ?_))))))))
  rw [show (l_szWriteS p_a p_left) = (-1) by simp only [l_szWriteS, hb2, cL]]
  exact ⟨rfl, (Ex.refl w)⟩
 ·refine CW.cond_f rfl hb2 (CW.skip (tn (CW.seq (CW.seq (CW.region (sd rfl (yl_assign rfl rfl (dn ?_))))))))
  refine CW.block (CW.loop (fun m6 L7 w8 => ∃ (k4 : Nat) (x5 : Int), m6 = p_a.length - k4 ∧ k4 ≤ p_a.length ∧ w.heap.size ≤ w8.heap.size ∧ Sub [(0, .slice A1 p_a.length c1), (1, .int .i64 (x5)), (5, .int .i64 ((k4 : Int)))] L7 ∧ Ex w w8 ∧ loopM (B_l_szWriteS_0 p_a p_left) (p_a.length - k4) k4 (x5) = loopM (B_l_szWriteS_0 p_a p_left) (p_a.length - 0) 0 (IntKind.wrap .i64 (p_left - (p_a.length : Int)))) (p_a.length - 0) ?_ ?_)
  ·exact ⟨0, IntKind.wrap .i64 (p_left - (p_a.length : Int)), rfl, (by omega), Nat.le_refl _, (sR rfl), (Ex.refl w), rfl⟩
  ·rintro m9 L10 w11 ⟨k4, x5, rfl, hk12, hsz14, hl15, hf16, hI13⟩
   refine CW.sub hl15 ?_
   have hf16z := Ex.size hf16
   have q18 := RdS.ex good_Write h1 hf16
   have hbg17 := RdS.big q18
   rcases Nat.lt_or_ge k4 p_a.length with hlt19 | hlt19
   ·refine CW.seq (CW.seq (CW.region (sd rfl (yl_move rfl rfl (sd rfl (yl_move rfl rfl (sd rfl (yl_len un26 rfl rfl (sd rfl (yl_lss rfl rfl rfl (dn ?_)))))))))))
    refine CW.cond_t rfl (lt_t hlt19) (CW.skip (tn (CW.seq (CW.block (CW.seq (CW.region (sd rfl (yl_move rfl rfl (sd rfl (yl_move rfl rfl ?_))))))))))
    obtain ⟨_, _, _, eA20, _, ebl20, _, eR20, eC20⟩ := RdS.aD q18 d_Write (i := k4)
    obtain rfl := eR20
    refine sd rfl (yl_ixN un26 ty49 rfl rfl rfl eA20 (sd rfl (yl_loadN ty49 rfl rfl eC20 rfl (sd rfl (yl_move rfl rfl (sd rfl (yl_call en19 rfl (oc rfl (oc rfl oz)) (Cal.mono (c_l_szWrite (p_a.getD k4 d_Write) x5) ?_))))))))
    rintro v22 w21 ⟨rfl, hE23⟩
    have hE23z := Ex.size hE23
    refine sd rfl (yl_assign rfl rfl (dn (CW.seq (CW.region (sd rfl (yl_move rfl rfl (sd rfl (yl_lss rfl rfl rfl (dn ?_)))))))))
    refine bcD (q := (l_szWrite (p_a.getD k4 d_Write) x5) < 0) (fun hb24 hb24p => ?_) (fun hb24 hb24p => ?_)
    ·refine CW.cond_t rfl hb24 (CW.seq (CW.region (sd rfl (yl_assign rfl rfl (dn (CW.ret (br (tr ?_))))))))
     refine tr ?_
     have hB26 : B_l_szWriteS_0 p_a p_left k4 (x5) = .ret (-1) := by simp only [B_l_szWriteS_0, hb2, hb24, cL]
     have hL25 : loopM (B_l_szWriteS_0 p_a p_left) (p_a.length - 0) 0 (IntKind.wrap .i64 (p_left - (p_a.length : Int))) = .ret (-1) := hI13.symm.trans (loopM.ret hlt19 hB26)
     refine br (tr (rr rfl (.cons rfl .nil) ?_))
     rw [show (l_szWriteS p_a p_left) = (-1) by simp only [l_szWriteS, hb2, hb24, hL25, cL]]
     exact ⟨rfl, (Ex.trans hf16 hE23)⟩
    ·refine CW.cond_f rfl hb24 (CW.skip (bn (tn (CW.region (sd rfl (yl_move rfl rfl (sd rfl (yl_inc rfl rfl rfl (by omega) (sd rfl (yl_assign rfl rfl (SeqR.done ?_)))))))))))
     refine tn ?_
     have hB29 : B_l_szWriteS_0 p_a p_left k4 (x5) = .cont ((l_szWrite (p_a.getD k4 d_Write) x5)) := by simp only [B_l_szWriteS_0, hb2, hb24, cL]
     exact ⟨p_a.length - (k4 + 1), by omega, k4 + 1, (l_szWrite (p_a.getD k4 d_Write) x5), rfl, hlt19, (by omega), (sR rfl), (Ex.trans hf16 hE23), (loopM.cont hlt19 hB29).symm.trans hI13⟩
   ·refine CW.seq (CW.seq (CW.region (sd rfl (yl_move rfl rfl (sd rfl (yl_move rfl rfl (sd rfl (yl_len un26 rfl rfl (sd rfl (yl_lss rfl rfl rfl (dn ?_)))))))))))
    refine CW.cond_f rfl (lt_f hlt19) (CW.exit (tx (tx ?_)))
    have hL31 : loopM (B_l_szWriteS_0 p_a p_left) (p_a.length - 0) 0 (IntKind.wrap .i64 (p_left - (p_a.length : Int))) = .done (x5) := hI13.symm.trans (loopM.stop hlt19)
    refine bx (tn (CW.seq (CW.region (sd rfl (yl_move rfl rfl (sd rfl (yl_assign rfl rfl (dn (CW.ret ?_)))))))))
    refine rr rfl (.cons rfl .nil) ?_
    rw [show (l_szWriteS p_a p_left) = (x5) by simp only [l_szWriteS, hb2, hL31, cL]]
    exact ⟨rfl, hf16⟩
theorem c_s_l1In {w : World} (p_n : Int) (p_lo : Int) (p_hi : Int) : Cal Tryz.prog 22 #[.int .i64 (p_n), .int .i64 (p_lo), .int .i64 (p_hi)] w fun v w' => v = .bool ((s_l1In p_n p_lo p_hi)) ∧ Ex w w' := by
 refine Cal.of func22 rfl ntmps22 rfl (CW.seq (CW.region (sd rfl (yl_assign rfl rfl (dn (CW.seq (CW.region (sd rfl (yl_move rfl rfl ?_)))))))))
 refine sd rfl (yl_move rfl rfl (sd rfl (yl_geq rfl rfl rfl (sd rfl (yl_move rfl rfl (bcD (q := p_lo ≤ p_n) (fun hb1 hb1p => ?_) (fun hb1 hb1p => ?_)))))))
 ·refine sy rfl rfl hb1 (yl_move rfl rfl (sy rfl rfl hb1 (yl_move rfl rfl (sy rfl rfl hb1 (yl_leq rfl rfl rfl (sd rfl (yl_pick_t rfl rfl hb1 rfl (sd rfl (yl_assign rfl rfl (dn (CW.ret (rr rfl (.cons rfl .nil) ?_))))))))))))
  rw [show (s_l1In p_n p_lo p_hi) = (decide (p_n ≤ p_hi)) by simp only [s_l1In, hb1, cL]]
  exact ⟨rfl, (Ex.refl w)⟩
 ·refine sz rfl rfl hb1 (sz rfl rfl hb1 (sz rfl rfl hb1 (sd rfl (yl_pick_f rfl rfl hb1 rfl (sd rfl (yl_assign rfl rfl (dn (CW.ret (rr rfl (.cons rfl .nil) ?_)))))))))
  rw [show (s_l1In p_n p_lo p_hi) = (false) by simp only [s_l1In, hb1, cL]]
  exact ⟨rfl, (Ex.refl w)⟩
theorem c_s_l24Letters {w : World} (p_s : Str) (p_most : Int) (o1 : okS p_s) : Cal Tryz.prog 48 #[.string (bs (p_s)), .int .i64 (p_most)] w fun v w' => v = .bool ((s_l24Letters p_s p_most)) ∧ Ex w w' := by
 have hol2 : p_s.length ≤ 1073741824 := o1
 refine Cal.of func48 rfl ntmps48 rfl (CW.seq (CW.region (sd rfl (yl_assign rfl rfl (dn (CW.seq (CW.seq (CW.region ?_))))))))
 refine sd rfl (yl_assign rfl rfl (dn (CW.block (CW.loop (fun m4 L5 w6 => ∃ (k3 : Nat), m4 = p_s.length - k3 ∧ k3 ≤ p_s.length ∧ w.heap.size ≤ w6.heap.size ∧ Sub [(0, .string (bs (p_s))), (1, .int .i64 (p_most)), (5, .int .i64 ((k3 : Int)))] L5 ∧ Ex w w6 ∧ loopM (B_s_l24Letters_0 p_s p_most) (p_s.length - k3) k3 () = loopM (B_s_l24Letters_0 p_s p_most) (p_s.length - 0) 0 ()) (p_s.length - 0) ?_ ?_))))
 ·exact ⟨0, rfl, (by omega), Nat.le_refl _, (sR rfl), (Ex.refl w), rfl⟩
 ·rintro m7 L8 w9 ⟨k3, rfl, hk10, hsz12, hl13, hf14, hI11⟩
  refine CW.sub hl13 ?_
  have hf14z := Ex.size hf14
  have hbg15 : p_s.length ≤ 1073741824 := o1
  rcases Nat.lt_or_ge k3 p_s.length with hlt16 | hlt16
  ·refine CW.seq (CW.seq (CW.region (sd rfl (yl_move rfl rfl (sd rfl (yl_move rfl rfl (sd rfl (yl_slen un9 (a := p_s) rfl rfl (sd rfl (yl_lss rfl rfl rfl (dn ?_)))))))))))
   refine CW.cond_t rfl (lt_t hlt16) (CW.skip (tn (CW.seq (CW.block (CW.seq (CW.region (sd rfl (yl_move rfl rfl (sd rfl (yl_move rfl rfl ?_))))))))))
   refine sd rfl (yl_sindexN un9 (a := p_s) rfl rfl rfl (by first | omega | assumption | (simp only [wI] at *; omega)) (sd rfl (yl_lss rfl rfl rfl (sd rfl (yl_move rfl rfl (bcD (q := ((p_s.getD k3 0).toNat : Int) < 97) (fun hb17 hb17p => ?_) (fun hb17 hb17p => ?_)))))))
   ·refine sz rfl rfl hb17 (sz rfl rfl hb17 (sz rfl rfl hb17 (sz rfl rfl hb17 (sd rfl (yl_pick_t rfl rfl hb17 rfl (dn (CW.cond_t rfl rfl (CW.seq ?_))))))))
    refine CW.region (sd rfl (yl_assign rfl rfl (dn (CW.ret (br (tr (tr ?_)))))))
    have hB19 : B_s_l24Letters_0 p_s p_most k3 () = .ret false := by simp only [B_s_l24Letters_0, hb17, cL]
    have hL18 : loopM (B_s_l24Letters_0 p_s p_most) (p_s.length - 0) 0 () = .ret false := hI11.symm.trans (loopM.ret hlt16 hB19)
    refine br (tr (rr rfl (.cons rfl .nil) ?_))
    rw [show (s_l24Letters p_s p_most) = (false) by simp only [s_l24Letters, hb17, hL18, cL]]
    exact ⟨rfl, hf14⟩
   ·refine sy rfl rfl hb17 (yl_move rfl rfl (sy rfl rfl hb17 (yl_move rfl rfl (sy rfl rfl hb17 (yl_sindexN un9 (a := p_s) rfl rfl rfl (by first | omega | assumption | (simp only [wI] at *; omega)) (sy rfl rfl hb17 (yl_gtr rfl rfl rfl (sd rfl (yl_pick_f rfl rfl hb17 rfl (dn (bcD (q := 122 < ((p_s.getD k3 0).toNat : Int)) (fun hb21 hb21p => ?_) (fun hb21 hb21p => ?_))))))))))))
    ·refine CW.cond_t rfl hb21 (CW.seq (CW.region (sd rfl (yl_assign rfl rfl (dn (CW.ret (br (tr ?_))))))))
     refine tr ?_
     have hB23 : B_s_l24Letters_0 p_s p_most k3 () = .ret false := by simp only [B_s_l24Letters_0, hb17, hb21, cL]
     have hL22 : loopM (B_s_l24Letters_0 p_s p_most) (p_s.length - 0) 0 () = .ret false := hI11.symm.trans (loopM.ret hlt16 hB23)
     refine br (tr (rr rfl (.cons rfl .nil) ?_))
     rw [show (s_l24Letters p_s p_most) = (false) by simp only [s_l24Letters, hb17, hb21, hL22, cL]]
     exact ⟨rfl, hf14⟩
    ·refine CW.cond_f rfl hb21 (CW.skip (bn (tn (CW.region (sd rfl (yl_move rfl rfl (sd rfl (yl_inc rfl rfl rfl (by omega) (sd rfl (yl_assign rfl rfl (SeqR.done ?_)))))))))))
     refine tn ?_
     have hB25 : B_s_l24Letters_0 p_s p_most k3 () = .cont () := by simp only [B_s_l24Letters_0, hb17, hb21, cL]
     exact ⟨p_s.length - (k3 + 1), by omega, k3 + 1, rfl, hlt16, (by omega), (sR rfl), hf14, (loopM.cont hlt16 hB25).symm.trans hI11⟩
  ·refine CW.seq (CW.seq (CW.region (sd rfl (yl_move rfl rfl (sd rfl (yl_move rfl rfl (sd rfl (yl_slen un9 (a := p_s) rfl rfl (sd rfl (yl_lss rfl rfl rfl (dn ?_)))))))))))
   refine CW.cond_f rfl (lt_f hlt16) (CW.exit (tx (tx ?_)))
   have hL26 : loopM (B_s_l24Letters_0 p_s p_most) (p_s.length - 0) 0 () = .done () := hI11.symm.trans (loopM.stop hlt16)
   refine bx (tn (CW.seq (CW.region (sd rfl (yl_move rfl rfl (sd rfl (yl_slen un9 (a := p_s) rfl rfl (sd rfl (yl_geq rfl rfl rfl (sd rfl (yl_move rfl rfl (bcD (q := 1 ≤ (p_s.length : Int)) (fun hb27 hb27p => ?_) (fun hb27 hb27p => ?_)))))))))))))
   ·refine sy rfl rfl hb27 (yl_move rfl rfl (sy rfl rfl hb27 (yl_slen un9 (a := p_s) rfl rfl (sy rfl rfl hb27 (yl_move rfl rfl (sy rfl rfl hb27 (yl_leq rfl rfl rfl (sd rfl (yl_pick_t rfl rfl hb27 rfl (sd rfl (yl_assign rfl rfl (dn (CW.ret ?_)))))))))))))
    refine rr rfl (.cons rfl .nil) ?_
    rw [show (s_l24Letters p_s p_most) = (decide ((p_s.length : Int) ≤ p_most)) by simp only [s_l24Letters, hb27, hL26, cL]]
    exact ⟨rfl, hf14⟩
   ·refine sz rfl rfl hb27 (sz rfl rfl hb27 (sz rfl rfl hb27 (sz rfl rfl hb27 (sd rfl (yl_pick_f rfl rfl hb27 rfl (sd rfl (yl_assign rfl rfl (dn (CW.ret ?_)))))))))
    refine rr rfl (.cons rfl .nil) ?_
    rw [show (s_l24Letters p_s p_most) = (false) by simp only [s_l24Letters, hb27, hL26, cL]]
    exact ⟨rfl, hf14⟩
theorem c_s_l24At {A1 : Option Addr} {c1 : Nat} {w : World} (p_l : List Str) (p_s : Str) (h1 : RdS w (Iv 0 w.heap.size) (RF e_Str) 1 A1 p_l.length c1 p_l) (o2 : (okL okS) p_l) (o3 : okS p_s) : Cal Tryz.prog 67 #[.slice A1 p_l.length c1, .string (bs (p_s))] w fun v w' => v = .int .i64 ((s_l24At p_l p_s)) ∧ Ex w w' := by
 have hol4 := o2.1
 have hol5 : p_s.length ≤ 1073741824 := o3
 refine Cal.of func67 rfl ntmps67 rfl (CW.seq (CW.region (sd rfl (yl_assign rfl rfl (dn (CW.seq (CW.seq (CW.region ?_))))))))
 refine sd rfl (yl_move rfl rfl (sd rfl (yl_len un22 rfl rfl (sd rfl (yl_move rfl rfl (dn (CW.block (CW.loop (fun m7 L8 w9 => ∃ (k6 : Nat), m7 = p_l.length - k6 ∧ k6 ≤ p_l.length ∧ w.heap.size ≤ w9.heap.size ∧ Sub [(1, .string (bs (p_s))), (7, .slice A1 p_l.length c1), (8, .int .i64 ((p_l.length : Int))), (9, .int .i64 ((k6 : Int)))] L8 ∧ Ex w w9 ∧ loopM (B_s_l24At_0 p_l p_s) (p_l.length - k6) k6 () = loopM (B_s_l24At_0 p_l p_s) (p_l.length - 0) 0 ()) (p_l.length - 0) ?_ ?_))))))))
 ·exact ⟨0, rfl, (by omega), Nat.le_refl _, (sR rfl), (Ex.refl w), rfl⟩
 ·rintro m10 L11 w12 ⟨k6, rfl, hk13, hsz15, hl16, hf17, hI14⟩
  refine CW.sub hl16 ?_
  have hf17z := Ex.size hf17
  have q19 := RdS.ex good_Str h1 hf17
  have hbg18 := RdS.big q19
  rcases Nat.lt_or_ge k6 p_l.length with hlt20 | hlt20
  ·refine CW.seq (CW.region (sd rfl (yl_lss rfl rfl rfl (dn (CW.seq (CW.cond_t rfl (lt_t hlt20) (CW.skip (tn ?_))))))))
   refine CW.seq (CW.block (CW.seq (CW.region (sd rfl (yl_move rfl rfl ?_)))))
   obtain ⟨_, _, _, eA21, _, ebl21, _, eR21, eC21⟩ := RdS.aD q19 d_Str (i := k6)
   obtain rfl := eR21
   refine sd rfl (yl_ixN un22 ty9 rfl rfl rfl eA21 (sd rfl (yl_load1 ty9 rfl rfl (eC21 0 _ rfl) (sd rfl (yl_assign rfl rfl (sd rfl (yl_assign rfl rfl (dn (CW.seq (CW.region (sd rfl (yl_move rfl rfl ?_))))))))))))
   refine sd rfl (yl_move rfl rfl (sd rfl (yl_seql (a := (p_l.getD k6 d_Str)) (b := p_s) rfl rfl rfl (dn (bcase ((p_l.getD k6 d_Str) == p_s) (fun hb22 => ?_) (fun hb22 => ?_))))))
   ·refine CW.cond_t rfl hb22 (CW.seq (CW.region (sd rfl (yl_move rfl rfl (sd rfl (yl_assign rfl rfl (dn (CW.ret (br ?_)))))))))
    refine tr (tr ?_)
    have hB24 : B_s_l24At_0 p_l p_s k6 () = .ret (k6 : Int) := by simp only [B_s_l24At_0, hb22, cL]
    have hL23 : loopM (B_s_l24At_0 p_l p_s) (p_l.length - 0) 0 () = .ret (k6 : Int) := hI14.symm.trans (loopM.ret hlt20 hB24)
    refine br (tr (rr rfl (.cons rfl .nil) ?_))
    rw [show (s_l24At p_l p_s) = ((k6 : Int)) by simp only [s_l24At, hb22, hL23, cL]]
    exact ⟨rfl, hf17⟩
   ·refine CW.cond_f rfl hb22 (CW.skip (bn (tn (CW.region (sd rfl (yl_inc rfl rfl rfl (by omega) (sd rfl (yl_move rfl rfl (dn ?_)))))))))
    have hB26 : B_s_l24At_0 p_l p_s k6 () = .cont () := by simp only [B_s_l24At_0, hb22, cL]
    exact ⟨p_l.length - (k6 + 1), by omega, k6 + 1, rfl, hlt20, (by omega), (sR rfl), hf17, (loopM.cont hlt20 hB26).symm.trans hI14⟩
  ·refine CW.seq (CW.region (sd rfl (yl_lss rfl rfl rfl (dn (CW.seq (CW.cond_f rfl (lt_f hlt20) (CW.exit (tx ?_))))))))
   refine tx ?_
   have hL27 : loopM (B_s_l24At_0 p_l p_s) (p_l.length - 0) 0 () = .done () := hI14.symm.trans (loopM.stop hlt20)
   refine bx (tn (CW.seq (CW.region (sd rfl (yl_assign rfl rfl (dn (CW.ret (rr rfl (.cons rfl .nil) ?_))))))))
   rw [show (s_l24At p_l p_s) = (-1) by simp only [s_l24At, hL27, cL]]
   exact ⟨rfl, hf17⟩
theorem c_s_l24Cols {A1 : Option Addr} {c1 : Nat} {w : World} (p_l : List Str) (h1 : RdS w (Iv 0 w.heap.size) (RF e_Str) 1 A1 p_l.length c1 p_l) (o2 : (okL okS) p_l) : Cal Tryz.prog 49 #[.slice A1 p_l.length c1] w fun v w' => v = .bool ((s_l24Cols p_l)) ∧ Ex w w' := by
 have hol3 := o2.1
 refine Cal.of func49 rfl ntmps49 rfl (CW.seq (CW.region (sd rfl (yl_assign rfl rfl (dn (CW.seq (CW.seq (CW.region ?_))))))))
 refine sd rfl (yl_move rfl rfl (sd rfl (yl_len un22 rfl rfl (sd rfl (yl_move rfl rfl (dn (CW.block (CW.loop (fun m5 L6 w7 => ∃ (k4 : Nat), m5 = p_l.length - k4 ∧ k4 ≤ p_l.length ∧ w.heap.size ≤ w7.heap.size ∧ Sub [(0, .slice A1 p_l.length c1), (5, .slice A1 p_l.length c1), (6, .int .i64 ((p_l.length : Int))), (7, .int .i64 ((k4 : Int)))] L6 ∧ Ex w w7 ∧ loopM (B_s_l24Cols_0 p_l) (p_l.length - k4) k4 () = loopM (B_s_l24Cols_0 p_l) (p_l.length - 0) 0 ()) (p_l.length - 0) ?_ ?_))))))))
 ·exact ⟨0, rfl, (by omega), Nat.le_refl _, (sR rfl), (Ex.refl w), rfl⟩
 ·rintro m8 L9 w10 ⟨k4, rfl, hk11, hsz13, hl14, hf15, hI12⟩
  refine CW.sub hl14 ?_
  have hf15z := Ex.size hf15
  have q17 := RdS.ex good_Str h1 hf15
  have hbg16 := RdS.big q17
  rcases Nat.lt_or_ge k4 p_l.length with hlt18 | hlt18
  ·refine CW.seq (CW.region (sd rfl (yl_lss rfl rfl rfl (dn (CW.seq (CW.cond_t rfl (lt_t hlt18) (CW.skip (tn ?_))))))))
   refine CW.seq (CW.block (CW.seq (CW.region (sd rfl (yl_move rfl rfl ?_)))))
   obtain ⟨_, _, _, eA19, _, ebl19, _, eR19, eC19⟩ := RdS.aD q17 d_Str (i := k4)
   obtain rfl := eR19
   refine sd rfl (yl_ixN un22 ty9 rfl rfl rfl eA19 (sd rfl (yl_load1 ty9 rfl rfl (eC19 0 _ rfl) (sd rfl (yl_assign rfl rfl (sd rfl (yl_assign rfl rfl (dn (CW.seq (CW.region (sd rfl (yl_move rfl rfl ?_))))))))))))
   refine sd rfl (yl_call en48 rfl (oc rfl (oc rfl oz)) (Cal.mono (c_s_l24Letters (p_l.getD k4 d_Str) 3 (okL.getD o2 ok_d_Str _)) ?_))
   rintro v21 w20 ⟨rfl, hE22⟩
   have hE22z := Ex.size hE22
   refine sd rfl (yl_not rfl rfl (sd rfl (yl_move rfl rfl (bcase (s_l24Letters (p_l.getD k4 d_Str) 3) (fun hb23 => ?_) (fun hb23 => ?_)))))
   ·refine sy rfl rfl (not_t hb23) (yl_move rfl rfl (sy rfl rfl (not_t hb23) (yl_move rfl rfl ?_)))
    have q24 := Ex.trans hf15 hE22
    have q25 := RdS.ex good_Str h1 q24
    obtain ⟨A26, c27, he30, h29⟩ := RdS.sl (RdS.drop (RdS.take q25 (k := k4) (by omega)) (k := 0) (by omega))
    have hrc31 := (q25).2.1
    refine sy rfl rfl (not_t hb23) (yl_sliceR (kl := .i64) (l := 0) (h := k4) un22 ty9 rfl rfl (.inl ⟨rfl, rfl⟩) (.inr ⟨_, rfl, rfl⟩) (by omega) (by omega) he30 (sy rfl rfl (not_t hb23) (yl_move rfl rfl (sy rfl rfl (not_t hb23) (yl_call en67 rfl (oc rfl (oc rfl oz)) (Cal.mono (c_s_l24At (p_l.take k4) (p_l.getD k4 d_Str) (RdS.up h29 good_Str) (okL.take o2 _) (okL.getD o2 ok_d_Str _)) ?_))))))
    rintro v33 w32 ⟨rfl, hE34⟩
    have hE34z := Ex.size hE34
    refine sy rfl rfl (not_t hb23) (yl_geq rfl rfl rfl (sd rfl (yl_pick_f rfl rfl (not_t hb23) rfl (dn (bcD (q := 0 ≤ (s_l24At (p_l.take k4) (p_l.getD k4 d_Str))) (fun hb35 hb35p => ?_) (fun hb35 hb35p => ?_))))))
    ·refine CW.cond_t rfl hb35 (CW.seq (CW.region (sd rfl (yl_assign rfl rfl (dn (CW.ret (br (tr ?_))))))))
     refine tr ?_
     have hB37 : B_s_l24Cols_0 p_l k4 () = .ret false := by simp only [B_s_l24Cols_0, hb23, hb35, cL]
     have hL36 : loopM (B_s_l24Cols_0 p_l) (p_l.length - 0) 0 () = .ret false := hI12.symm.trans (loopM.ret hlt18 hB37)
     refine br (tr (rr rfl (.cons rfl .nil) ?_))
     rw [show (s_l24Cols p_l) = (false) by simp only [s_l24Cols, hb23, hb35, hL36, cL]]
     exact ⟨rfl, (Ex.trans q24 hE34)⟩
    ·refine CW.cond_f rfl hb35 (CW.skip (bn (tn (CW.region (sd rfl (yl_inc rfl rfl rfl (by omega) (sd rfl (yl_move rfl rfl (dn ?_)))))))))
     have hB40 : B_s_l24Cols_0 p_l k4 () = .cont () := by simp only [B_s_l24Cols_0, hb23, hb35, cL]
     exact ⟨p_l.length - (k4 + 1), by omega, k4 + 1, rfl, hlt18, (by omega), (sR rfl), (Ex.trans q24 hE34), (loopM.cont hlt18 hB40).symm.trans hI12⟩
   ·refine sz rfl rfl (not_f hb23) (sz rfl rfl (not_f hb23) (sz rfl rfl (not_f hb23) (sz rfl rfl (not_f hb23) (sz rfl rfl (not_f hb23) (sz rfl rfl (not_f hb23) (sd rfl (yl_pick_t rfl rfl (not_f hb23) rfl (dn ?_))))))))
    refine CW.cond_t rfl rfl (CW.seq (CW.region (sd rfl (yl_assign rfl rfl (dn (CW.ret (br (tr ?_))))))))
    refine tr ?_
    have hB43 : B_s_l24Cols_0 p_l k4 () = .ret false := by simp only [B_s_l24Cols_0, hb23, cL]
    have hL42 : loopM (B_s_l24Cols_0 p_l) (p_l.length - 0) 0 () = .ret false := hI12.symm.trans (loopM.ret hlt18 hB43)
    refine br (tr (rr rfl (.cons rfl .nil) ?_))
    rw [show (s_l24Cols p_l) = (false) by simp only [s_l24Cols, hb23, hL42, cL]]
    exact ⟨rfl, (Ex.trans hf15 hE22)⟩
  ·refine CW.seq (CW.region (sd rfl (yl_lss rfl rfl rfl (dn (CW.seq (CW.cond_f rfl (lt_f hlt18) (CW.exit (tx ?_))))))))
   refine tx ?_
   have hL46 : loopM (B_s_l24Cols_0 p_l) (p_l.length - 0) 0 () = .done () := hI12.symm.trans (loopM.stop hlt18)
   refine bx (tn (CW.seq (CW.region (sd rfl (yl_move rfl rfl (sd rfl (yl_len un22 rfl rfl (sd rfl (yl_call en22 rfl (oc rfl (oc rfl (oc rfl oz))) (Cal.mono (c_s_l1In (p_l.length : Int) 2 4) ?_))))))))))
   rintro v48 w47 ⟨rfl, hE49⟩
   have hE49z := Ex.size hE49
   refine sd rfl (yl_assign rfl rfl (dn (CW.ret (rr rfl (.cons rfl .nil) ?_))))
   rw [show (s_l24Cols p_l) = ((s_l1In (p_l.length : Int) 2 4)) by simp only [s_l24Cols, hL46, cL]]
   exact ⟨rfl, (Ex.trans hf15 hE49)⟩
theorem c_s_GoodTable {A1 : Option Addr} {c1 : Nat} {A2 : Option Addr} {c2 : Nat} {w : World} (p_0 : DTable) (h1 : RdS w (Iv 0 w.heap.size) (RF e_Str) 1 A1 p_0.Cols.length c1 p_0.Cols) (h2 : RdS w (Iv 0 w.heap.size) (RF e_Idx) 3 A2 p_0.Idxs.length c2 p_0.Idxs) (o3 : ok_Table p_0) : Cal Tryz.prog 20 #[.agg #[.string (bs (p_0.Name)), .slice A1 p_0.Cols.length c1, .slice A2 p_0.Idxs.length c2]] w fun v w' => v = .bool ((s_GoodTable p_0)) ∧ Ex w w' := by
 have hol4 : p_0.Name.length ≤ 1073741824 := o3.1
 have hol5 := o3.2.1.1
 have hol6 := o3.2.2.1
 refine Cal.of func20 rfl ntmps20 rfl (CW.seq (CW.region (sd rfl (yl_box rfl rfl rfl ?_))))
 intro b7 w8 hs9 hz10 hB11 hE12
 refine sd rfl (yl_assign rfl rfl (dn (CW.seq (CW.seq (CW.region (sd rfl (yl_fieldAddr fd34_0 rfl rfl (sd rfl (yl_load1 ty9 rfl rfl ((hB11.cell 0).trans rfl) (sd rfl (yl_call en48 rfl (oc rfl (oc rfl oz)) (Cal.mono (c_s_l24Letters p_0.Name 1 o3.1) ?_))))))))))))
 rintro v14 w13 ⟨rfl, hE15⟩
 have hE15z := Ex.size hE15
 refine sd rfl (yl_not rfl rfl (sd rfl (yl_move rfl rfl (bcase (s_l24Letters p_0.Name 1) (fun hb16 => ?_) (fun hb16 => ?_)))))
 ·refine sy rfl rfl (not_t hb16) (yl_fieldAddr fd34_1 rfl rfl ?_)
  have q17 := Box.ex hB11 hE15
  refine sy rfl rfl (not_t hb16) (yl_load1 ty22 rfl rfl ((q17.cell 1).trans rfl) ?_)
  have q19 := Ex.trans (Ex.trans (Ex.refl w) hE12) hE15
  refine sy rfl rfl (not_t hb16) (yl_call en49 rfl (oc rfl oz) (Cal.mono (c_s_l24Cols p_0.Cols (RdS.up (RdS.ex good_Str h1 q19) good_Str) o3.2.1) ?_))
  rintro v22 w21 ⟨rfl, hE23⟩
  have hE23z := Ex.size hE23
  refine sy rfl rfl (not_t hb16) (yl_not rfl rfl (sd rfl (yl_pick_f rfl rfl (not_t hb16) rfl (sd rfl (yl_move rfl rfl (bcase (s_l24Cols p_0.Cols) (fun hb24 => ?_) (fun hb24 => ?_)))))))
  ·refine sy rfl rfl (not_t hb24) (yl_fieldAddr fd34_2 rfl rfl ?_)
   have q25 := Box.ex q17 hE23
   refine sy rfl rfl (not_t hb24) (yl_load1 ty32 rfl rfl ((q25.cell 2).trans rfl) (sy rfl rfl (not_t hb24) (yl_len un32 rfl rfl (sy rfl rfl (not_t hb24) (yl_gtr rfl rfl rfl (sd rfl (yl_pick_f rfl rfl (not_t hb24) rfl (dn (bcD (q := 3 < (p_0.Idxs.length : Int)) (fun hb26 hb26p => ?_) (fun hb26 hb26p => ?_))))))))))
   ·refine CW.cond_t rfl hb26 (CW.seq (CW.region (sd rfl (yl_assign rfl rfl (dn (CW.ret (tr (rr rfl (.cons rfl .nil) ?_))))))))
    rw [show (s_GoodTable p_0) = (false) by simp only [s_GoodTable, hb16, hb24, hb26, cL]]
    exact ⟨rfl, (Ex.trans q19 hE23)⟩
   ·refine CW.cond_f rfl hb26 (CW.skip (tn (CW.seq (CW.seq (CW.region (sd rfl (yl_fieldAddr fd34_2 rfl rfl (sd rfl (yl_load1 ty32 rfl rfl ((q25.cell 2).trans rfl) (sd rfl (yl_len un32 rfl rfl ?_)))))))))))
    refine sd rfl (yl_move rfl rfl (dn (CW.block (CW.loop (fun m67 L68 w69 => ∃ (k29 : Nat), m67 = p_0.Idxs.length - k29 ∧ k29 ≤ p_0.Idxs.length ∧ w21.heap.size ≤ w69.heap.size ∧ Sub [(1, .pointer (some ⟨b7, 0, none⟩)), (22, .slice A2 p_0.Idxs.length c2), (23, .int .i64 ((p_0.Idxs.length : Int))), (24, .int .i64 ((k29 : Int)))] L68 ∧ Box w69 b7 34 [.string (bs (p_0.Name)), .slice A1 p_0.Cols.length c1, .slice A2 p_0.Idxs.length c2] ∧ Ex w w69 ∧ loopM (B_s_GoodTable_0 p_0) (p_0.Idxs.length - k29) k29 () = loopM (B_s_GoodTable_0 p_0) (p_0.Idxs.length - 0) 0 ()) (p_0.Idxs.length - 0) ?_ ?_))))
    ·exact ⟨0, rfl, (by omega), Nat.le_refl _, (sR rfl), q25, (Ex.trans q19 hE23), rfl⟩
    ·rintro m71 L72 w73 ⟨k29, rfl, hk74, hsz76, hl77, hf78, hf79, hI75⟩
     refine CW.sub hl77 ?_
     have hf78z := Box.lt hf78
     have hf79z := Ex.size hf79
     have q81 := RdS.ex good_Idx h2 hf79
     have hbg80 := RdS.big q81
     rcases Nat.lt_or_ge k29 p_0.Idxs.length with hlt82 | hlt82
     ·refine CW.seq (CW.region (sd rfl (yl_lss rfl rfl rfl (dn (CW.seq (CW.cond_t rfl (lt_t hlt82) (CW.skip (tn ?_))))))))
      refine CW.seq (CW.block (CW.seq (CW.region (sd rfl (yl_move rfl rfl ?_)))))
      obtain ⟨_, _, _, eA83, _, ebl83, _, eR83, eC83⟩ := RdS.aD q81 d_Idx (i := k29)
      obtain rfl := eR83
      refine sd rfl (yl_ixN un32 ty79 rfl rfl rfl eA83 (sd rfl (yl_loadN ty79 rfl rfl eC83 rfl (sd rfl (yl_alloc ty79 (cs := [.string (bs (([] : Str))), .int .i64 (0), .int .i64 (0)]) rfl rfl ?_)))))
      intro b84 w85 hs86 hz87 hB88 hE89
      refine sd rfl (yl_assign rfl rfl (SeqR.u rfl rfl (yl_storeA (vs := [.string (bs ((p_0.Idxs.getD k29 d_Idx).Name)), .int .i64 ((p_0.Idxs.getD k29 d_Idx).Col), .int .i64 ((p_0.Idxs.getD k29 d_Idx).Stage)]) ty79 rfl rfl rfl rfl rfl rfl hB88 rfl ?_)))
      intro w90 hB91 hO92
      have hO92z := hO92.size
      refine dn (CW.seq (bcase (s_l24Letters ((p_0.Idxs.getD k29 d_Idx).Name) 1) (fun hb94 => ?_) (fun hb94 => ?_)))
      ·refine bcase (s_l1In ((p_0.Idxs.getD k29 d_Idx).Col) 1 (IntKind.wrap .i64 ((p_0.Cols.length : Int) - 1))) (fun hb99 => ?_) (fun hb99 => ?_)
       ·have hb99p := f_l1In hb99
        refine bcase (s_l1In ((p_0.Idxs.getD k29 d_Idx).Stage) 0 3) (fun hb105 => ?_) (fun hb105 => ?_)
        ·have hb105p := f_l1In hb105
         refine bcD (q := 0 < (k29 : Int)) (fun hb111 hb111p => ?_) (fun hb111 hb111p => ?_)
         ·have q114 := Box.only (Box.ex hf78 hE89) hO92 (by omega)
          have q118 := Below.only (Ex.trans hf79 hE89) hO92 (by omega)
          obtain ⟨eb120, eo120, _, eA120, _, ebl120, _, eR120, eC120⟩ := RdS.atD (RdS.ex good_Idx h2 q118) d_Idx (i := (IntKind.wrap .i64 ((k29 : Int) - 1)).toNat) (by first | omega | assumption | (simp only [wI] at *; omega))
          obtain rfl := eR120
          refine drJ 36 [.pointer (some ⟨b84, 0 + 0, none⟩), .string (bs ((p_0.Idxs.getD k29 d_Idx).Name)), .bool ((s_l24Letters ((p_0.Idxs.getD k29 d_Idx).Name) 1)), .bool (!(s_l24Letters ((p_0.Idxs.getD k29 d_Idx).Name) 1)), .bool (!(s_l24Letters ((p_0.Idxs.getD k29 d_Idx).Name) 1)), .pointer (some ⟨b84, 0 + 1, none⟩), .int .i64 ((p_0.Idxs.getD k29 d_Idx).Col), .pointer (some ⟨b7, 0 + 1, none⟩), .slice A1 p_0.Cols.length c1, .int .i64 ((p_0.Cols.length : Int)), .int .i64 (IntKind.wrap .i64 ((p_0.Cols.length : Int) - 1)), .bool ((s_l1In ((p_0.Idxs.getD k29 d_Idx).Col) 1 (IntKind.wrap .i64 ((p_0.Cols.length : Int) - 1)))), .bool (!(s_l1In ((p_0.Idxs.getD k29 d_Idx).Col) 1 (IntKind.wrap .i64 ((p_0.Cols.length : Int) - 1)))), .bool (!(s_l1In ((p_0.Idxs.getD k29 d_Idx).Col) 1 (IntKind.wrap .i64 ((p_0.Cols.length : Int) - 1)))), .bool (!(s_l1In ((p_0.Idxs.getD k29 d_Idx).Col) 1 (IntKind.wrap .i64 ((p_0.Cols.length : Int) - 1)))), .pointer (some ⟨b84, 0 + 2, none⟩), .int .i64 ((p_0.Idxs.getD k29 d_Idx).Stage), .bool ((s_l1In ((p_0.Idxs.getD k29 d_Idx).Stage) 0 3)), .bool (!(s_l1In ((p_0.Idxs.getD k29 d_Idx).Stage) 0 3)), .bool (!(s_l1In ((p_0.Idxs.getD k29 d_Idx).Stage) 0 3)), .bool (!(s_l1In ((p_0.Idxs.getD k29 d_Idx).Stage) 0 3)), .int .i64 ((k29 : Int)), .bool (decide (0 < (k29 : Int))), .bool (decide (0 < (k29 : Int))), .pointer (some ⟨b7, 0 + 2, none⟩), .slice A2 p_0.Idxs.length c2, .int .i64 ((k29 : Int)), .int .i64 (IntKind.wrap .i64 ((k29 : Int) - 1)), .pointer (some ⟨eb120, eo120 + ((IntKind.wrap .i64 ((k29 : Int) - 1)).toNat) * 3, none⟩), .pointer (some ⟨eb120, eo120 + ((IntKind.wrap .i64 ((k29 : Int) - 1)).toNat) * 3 + 0, none⟩), .string (bs ((p_0.Idxs.getD ((IntKind.wrap .i64 ((k29 : Int) - 1)).toNat) d_Idx).Name)), .pointer (some ⟨b84, 0 + 0, none⟩), .string (bs ((p_0.Idxs.getD k29 d_Idx).Name)), .bool (!(sLt ((p_0.Idxs.getD ((IntKind.wrap .i64 ((k29 : Int) - 1)).toNat) d_Idx).Name) ((p_0.Idxs.getD k29 d_Idx).Name))), .bool (!(sLt ((p_0.Idxs.getD ((IntKind.wrap .i64 ((k29 : Int) - 1)).toNat) d_Idx).Name) ((p_0.Idxs.getD k29 d_Idx).Name))), .bool (!(sLt ((p_0.Idxs.getD ((IntKind.wrap .i64 ((k29 : Int) - 1)).toNat) d_Idx).Name) ((p_0.Idxs.getD k29 d_Idx).Name)))] Tryz.follows rfl ?_ ?_
          ·refine ⟨oI rfl fun h => yl_fieldAddr fd79_0 rfl (h.g 4 rfl) kI, oI rfl fun h => yl_load1 ty9 rfl (h.g 29 rfl) (((Box.ex hB91 h.ex).cell 0).trans rfl) kI, ?_, oI rfl fun h => yl_not rfl (h.g 31 rfl) kI, oI rfl fun h => yl_move rfl (h.g 32 rfl) kI, oW rfl rfl rfl rfl (not_t hb94) fun h => yl_fieldAddr fd79_1 rfl (h.g 4 rfl) kI, oW rfl rfl rfl rfl (not_t hb94) fun h => yl_load1 ty3 rfl (h.g 34 rfl) (((Box.ex hB91 h.ex).cell 1).trans rfl) kI, oW rfl rfl rfl rfl (not_t hb94) fun h => yl_fieldAddr fd34_1 rfl (h.g 1 rfl) kI, oW rfl rfl rfl rfl (not_t hb94) fun h => yl_load1 ty22 rfl (h.g 36 rfl) (((Box.ex q114 h.ex).cell 1).trans rfl) kI, oW rfl rfl rfl rfl (not_t hb94) fun h => yl_len un22 rfl (h.g 37 rfl) kI, oW rfl rfl rfl rfl (not_t hb94) fun h => yl_sub rfl (h.g 38 rfl) rfl kI, ?_, oW rfl rfl rfl rfl (not_t hb94) fun h => yl_not rfl (h.g 40 rfl) kI, oI rfl fun h => yl_pick_f rfl (h.g 33 rfl) (not_t hb94) (h.g 41 rfl) kI, oI rfl fun h => yl_move rfl (h.g 42 rfl) kI, oW rfl rfl rfl rfl (not_t hb99) fun h => yl_fieldAddr fd79_2 rfl (h.g 4 rfl) kI, oW rfl rfl rfl rfl (not_t hb99) fun h => yl_load1 ty3 rfl (h.g 44 rfl) (((Box.ex hB91 h.ex).cell 2).trans rfl) kI, ?_, oW rfl rfl rfl rfl (not_t hb99) fun h => yl_not rfl (h.g 46 rfl) kI, oI rfl fun h => yl_pick_f rfl (h.g 43 rfl) (not_t hb99) (h.g 47 rfl) kI, oI rfl fun h => yl_move rfl (h.g 48 rfl) kI, oW rfl rfl rfl rfl (not_t hb105) fun h => yl_move rfl (h.g 3 rfl) kI, oW rfl rfl rfl rfl (not_t hb105) fun h => yl_gtr rfl (h.g 50 rfl) rfl kI, oW rfl rfl rfl rfl (not_t hb105) fun h => yl_move rfl (h.g 51 rfl) kI, oW rfl rfl rfl rfl hb111 fun h => yl_fieldAddr fd34_2 rfl (h.g 1 rfl) kI, oW rfl rfl rfl rfl hb111 fun h => yl_load1 ty32 rfl (h.g 53 rfl) (((Box.ex q114 h.ex).cell 2).trans rfl) kI, oW rfl rfl rfl rfl hb111 fun h => yl_move rfl (h.g 3 rfl) kI, oW rfl rfl rfl rfl hb111 fun h => yl_sub rfl (h.g 55 rfl) rfl kI, ?_, oW rfl rfl rfl rfl hb111 fun h => yl_fieldAddr fd79_0 rfl (h.g 57 rfl) kI, oW rfl rfl rfl rfl hb111 fun h => yl_load1 ty9 rfl (h.g 58 rfl) ((Cells.ex eC120 h.ex) 0 _ rfl) kI, oW rfl rfl rfl rfl hb111 fun h => yl_fieldAddr fd79_0 rfl (h.g 4 rfl) kI, oW rfl rfl rfl rfl hb111 fun h => yl_load1 ty9 rfl (h.g 60 rfl) (((Box.ex hB91 h.ex).cell 0).trans rfl) kI, oW rfl rfl rfl rfl hb111 fun h => yl_sgeq (a := ((p_0.Idxs.getD ((IntKind.wrap .i64 ((k29 : Int) - 1)).toNat) d_Idx).Name)) (b := ((p_0.Idxs.getD k29 d_Idx).Name)) rfl (h.g 59 rfl) (h.g 61 rfl) kI, oW rfl rfl rfl rfl (not_t hb105) fun h => yl_pick_t rfl (h.g 52 rfl) hb111 (h.g 62 rfl) kI, oI rfl fun h => yl_pick_f rfl (h.g 49 rfl) (not_t hb105) (h.g 63 rfl) kI, trivial⟩
           ·intro L132 w133 hi134
            exact OpR.op' rfl (yl_call en48 rfl (oc (hi134.g 30 rfl) (oc rfl oz)) (Cal.mono (c_s_l24Letters ((p_0.Idxs.getD k29 d_Idx).Name) 1 (okL.getD o3.2.2 ok_d_Idx _)) fun _ _ h => h))
           ·intro L188 w189 hi190
            exact OpR.want rfl rfl (hi190.g 33 rfl) (not_t hb94) (yl_call en22 rfl (oc (hi190.g 35 rfl) (oc rfl (oc (hi190.g 39 rfl) oz))) (Cal.mono (c_s_l1In ((p_0.Idxs.getD k29 d_Idx).Col) 1 (IntKind.wrap .i64 ((p_0.Cols.length : Int) - 1))) fun _ _ h => h))
           ·intro L228 w229 hi230
            exact OpR.want rfl rfl (hi230.g 43 rfl) (not_t hb99) (yl_call en22 rfl (oc (hi230.g 45 rfl) (oc rfl (oc rfl oz))) (Cal.mono (c_s_l1In ((p_0.Idxs.getD k29 d_Idx).Stage) 0 3) fun _ _ h => h))
           ·intro L297 w298 hi299
            have hE300 := hi299.ex
            have hE300z := Ex.size hE300
            exact OpR.want rfl rfl (hi299.g 52 rfl) hb111 (Yl.sameI (yl_indexAddr un32 ty79 rfl (hi299.g 54 rfl) (hi299.g 56 rfl) eA120 (by first | omega | assumption | (simp only [wI] at *; omega)) (by first | omega | assumption | (simp only [wI] at *; omega)) kI))
          ·intro fl353 fh354 L350 w351 hp352
           have hE355 := hp352.ex
           have hE355z := Ex.size hE355
           refine dn (CW.sub (hp352.ss [1, 22, 23, 24, 64] rfl) (bcase (sLt ((p_0.Idxs.getD ((IntKind.wrap .i64 ((k29 : Int) - 1)).toNat) d_Idx).Name) ((p_0.Idxs.getD k29 d_Idx).Name)) (fun hb361 => ?_) (fun hb361 => ?_)))
           ·refine CW.cond_f rfl (not_t hb361) (CW.skip (bn (tn (CW.region (sd rfl (yl_inc rfl rfl rfl (by omega) (sd rfl (yl_move rfl rfl (dn ?_)))))))))
            have hB362 : B_s_GoodTable_0 p_0 k29 () = .cont () := by simp only [B_s_GoodTable_0, hb16, hb24, hb26, hb94, hb99, hb105, hb111, hb361, cL]
            exact ⟨p_0.Idxs.length - (k29 + 1), by omega, k29 + 1, rfl, hlt82, (by omega), (sR rfl), (Box.ex q114 hE355), (Ex.trans q118 hE355), (loopM.cont hlt82 hB362).symm.trans hI75⟩
           ·refine CW.cond_t rfl (not_f hb361) (CW.seq (CW.region (sd rfl (yl_assign rfl rfl (dn (CW.ret (br (tr ?_))))))))
            refine tr ?_
            have hB366 : B_s_GoodTable_0 p_0 k29 () = .ret false := by simp only [B_s_GoodTable_0, hb16, hb24, hb26, hb94, hb99, hb105, hb111, hb361, cL]
            have hL365 : loopM (B_s_GoodTable_0 p_0) (p_0.Idxs.length - 0) 0 () = .ret false := hI75.symm.trans (loopM.ret hlt82 hB366)
            refine br (tr (rr rfl (.cons rfl .nil) ?_))
            rw [show (s_GoodTable p_0) = (false) by simp only [s_GoodTable, hb16, hb24, hb26, hb94, hb99, hb105, hb111, hb361, hL365, cL]]
            exact ⟨rfl, (Ex.trans q118 hE355)⟩
         ·have q371 := Box.only (Box.ex hf78 hE89) hO92 (by omega)
          refine drJ 36 [.pointer (some ⟨b84, 0 + 0, none⟩), .string (bs ((p_0.Idxs.getD k29 d_Idx).Name)), .bool ((s_l24Letters ((p_0.Idxs.getD k29 d_Idx).Name) 1)), .bool (!(s_l24Letters ((p_0.Idxs.getD k29 d_Idx).Name) 1)), .bool (!(s_l24Letters ((p_0.Idxs.getD k29 d_Idx).Name) 1)), .pointer (some ⟨b84, 0 + 1, none⟩), .int .i64 ((p_0.Idxs.getD k29 d_Idx).Col), .pointer (some ⟨b7, 0 + 1, none⟩), .slice A1 p_0.Cols.length c1, .int .i64 ((p_0.Cols.length : Int)), .int .i64 (IntKind.wrap .i64 ((p_0.Cols.length : Int) - 1)), .bool ((s_l1In ((p_0.Idxs.getD k29 d_Idx).Col) 1 (IntKind.wrap .i64 ((p_0.Cols.length : Int) - 1)))), .bool (!(s_l1In ((p_0.Idxs.getD k29 d_Idx).Col) 1 (IntKind.wrap .i64 ((p_0.Cols.length : Int) - 1)))), .bool (!(s_l1In ((p_0.Idxs.getD k29 d_Idx).Col) 1 (IntKind.wrap .i64 ((p_0.Cols.length : Int) - 1)))), .bool (!(s_l1In ((p_0.Idxs.getD k29 d_Idx).Col) 1 (IntKind.wrap .i64 ((p_0.Cols.length : Int) - 1)))), .pointer (some ⟨b84, 0 + 2, none⟩), .int .i64 ((p_0.Idxs.getD k29 d_Idx).Stage), .bool ((s_l1In ((p_0.Idxs.getD k29 d_Idx).Stage) 0 3)), .bool (!(s_l1In ((p_0.Idxs.getD k29 d_Idx).Stage) 0 3)), .bool (!(s_l1In ((p_0.Idxs.getD k29 d_Idx).Stage) 0 3)), .bool (!(s_l1In ((p_0.Idxs.getD k29 d_Idx).Stage) 0 3)), .int .i64 ((k29 : Int)), .bool (decide (0 < (k29 : Int))), .bool (decide (0 < (k29 : Int))), undef, undef, undef, undef, undef, undef, undef, undef, undef, undef, .bool (false), .bool (false)] Tryz.follows rfl ?_ ?_
          ·refine ⟨oI rfl fun h => yl_fieldAddr fd79_0 rfl (h.g 4 rfl) kI, oI rfl fun h => yl_load1 ty9 rfl (h.g 29 rfl) (((Box.ex hB91 h.ex).cell 0).trans rfl) kI, ?_, oI rfl fun h => yl_not rfl (h.g 31 rfl) kI, oI rfl fun h => yl_move rfl (h.g 32 rfl) kI, oW rfl rfl rfl rfl (not_t hb94) fun h => yl_fieldAddr fd79_1 rfl (h.g 4 rfl) kI, oW rfl rfl rfl rfl (not_t hb94) fun h => yl_load1 ty3 rfl (h.g 34 rfl) (((Box.ex hB91 h.ex).cell 1).trans rfl) kI, oW rfl rfl rfl rfl (not_t hb94) fun h => yl_fieldAddr fd34_1 rfl (h.g 1 rfl) kI, oW rfl rfl rfl rfl (not_t hb94) fun h => yl_load1 ty22 rfl (h.g 36 rfl) (((Box.ex q371 h.ex).cell 1).trans rfl) kI, oW rfl rfl rfl rfl (not_t hb94) fun h => yl_len un22 rfl (h.g 37 rfl) kI, oW rfl rfl rfl rfl (not_t hb94) fun h => yl_sub rfl (h.g 38 rfl) rfl kI, ?_, oW rfl rfl rfl rfl (not_t hb94) fun h => yl_not rfl (h.g 40 rfl) kI, oI rfl fun h => yl_pick_f rfl (h.g 33 rfl) (not_t hb94) (h.g 41 rfl) kI, oI rfl fun h => yl_move rfl (h.g 42 rfl) kI, oW rfl rfl rfl rfl (not_t hb99) fun h => yl_fieldAddr fd79_2 rfl (h.g 4 rfl) kI, oW rfl rfl rfl rfl (not_t hb99) fun h => yl_load1 ty3 rfl (h.g 44 rfl) (((Box.ex hB91 h.ex).cell 2).trans rfl) kI, ?_, oW rfl rfl rfl rfl (not_t hb99) fun h => yl_not rfl (h.g 46 rfl) kI, oI rfl fun h => yl_pick_f rfl (h.g 43 rfl) (not_t hb99) (h.g 47 rfl) kI, oI rfl fun h => yl_move rfl (h.g 48 rfl) kI, oW rfl rfl rfl rfl (not_t hb105) fun h => yl_move rfl (h.g 3 rfl) kI, oW rfl rfl rfl rfl (not_t hb105) fun h => yl_gtr rfl (h.g 50 rfl) rfl kI, oW rfl rfl rfl rfl (not_t hb105) fun h => yl_move rfl (h.g 51 rfl) kI, oS rfl rfl rfl rfl rfl hb111, oS rfl rfl rfl rfl rfl hb111, oS rfl rfl rfl rfl rfl hb111, oS rfl rfl rfl rfl rfl hb111, oS rfl rfl rfl rfl rfl hb111, oS rfl rfl rfl rfl rfl hb111, oS rfl rfl rfl rfl rfl hb111, oS rfl rfl rfl rfl rfl hb111, oS rfl rfl rfl rfl rfl hb111, oS rfl rfl rfl rfl rfl hb111, oW rfl rfl rfl rfl (not_t hb105) fun h => yl_pick_f rfl (h.g 52 rfl) hb111 rfl kI, oI rfl fun h => yl_pick_f rfl (h.g 49 rfl) (not_t hb105) (h.g 63 rfl) kI, trivial⟩
           ·intro L385 w386 hi387
            exact OpR.op' rfl (yl_call en48 rfl (oc (hi387.g 30 rfl) (oc rfl oz)) (Cal.mono (c_s_l24Letters ((p_0.Idxs.getD k29 d_Idx).Name) 1 (okL.getD o3.2.2 ok_d_Idx _)) fun _ _ h => h))
           ·intro L441 w442 hi443
            exact OpR.want rfl rfl (hi443.g 33 rfl) (not_t hb94) (yl_call en22 rfl (oc (hi443.g 35 rfl) (oc rfl (oc (hi443.g 39 rfl) oz))) (Cal.mono (c_s_l1In ((p_0.Idxs.getD k29 d_Idx).Col) 1 (IntKind.wrap .i64 ((p_0.Cols.length : Int) - 1))) fun _ _ h => h))
           ·intro L481 w482 hi483
            exact OpR.want rfl rfl (hi483.g 43 rfl) (not_t hb99) (yl_call en22 rfl (oc (hi483.g 45 rfl) (oc rfl (oc rfl oz))) (Cal.mono (c_s_l1In ((p_0.Idxs.getD k29 d_Idx).Stage) 0 3) fun _ _ h => h))
          ·intro fl591 fh592 L588 w589 hp590
           have hE593 := hp590.ex
           have hE593z := Ex.size hE593
           refine dn (CW.sub (hp590.ss [1, 22, 23, 24, 64] rfl) (CW.cond_f rfl rfl (CW.skip (bn (tn (CW.region (sd rfl (yl_inc rfl rfl rfl (by omega) ?_))))))))
           refine sd rfl (yl_move rfl rfl (dn ?_))
           have hB599 : B_s_GoodTable_0 p_0 k29 () = .cont () := by simp only [B_s_GoodTable_0, hb16, hb24, hb26, hb94, hb99, hb105, hb111, cL]
           exact ⟨p_0.Idxs.length - (k29 + 1), by omega, k29 + 1, rfl, hlt82, (by omega), (sR rfl), (Box.ex q371 hE593), (Ex.trans (Below.only (Ex.trans hf79 hE89) hO92 (by omega)) hE593), (loopM.cont hlt82 hB599).symm.trans hI75⟩
        ·refine drJ 36 [.pointer (some ⟨b84, 0 + 0, none⟩), .string (bs ((p_0.Idxs.getD k29 d_Idx).Name)), .bool ((s_l24Letters ((p_0.Idxs.getD k29 d_Idx).Name) 1)), .bool (!(s_l24Letters ((p_0.Idxs.getD k29 d_Idx).Name) 1)), .bool (!(s_l24Letters ((p_0.Idxs.getD k29 d_Idx).Name) 1)), .pointer (some ⟨b84, 0 + 1, none⟩), .int .i64 ((p_0.Idxs.getD k29 d_Idx).Col), .pointer (some ⟨b7, 0 + 1, none⟩), .slice A1 p_0.Cols.length c1, .int .i64 ((p_0.Cols.length : Int)), .int .i64 (IntKind.wrap .i64 ((p_0.Cols.length : Int) - 1)), .bool ((s_l1In ((p_0.Idxs.getD k29 d_Idx).Col) 1 (IntKind.wrap .i64 ((p_0.Cols.length : Int) - 1)))), .bool (!(s_l1In ((p_0.Idxs.getD k29 d_Idx).Col) 1 (IntKind.wrap .i64 ((p_0.Cols.length : Int) - 1)))), .bool (!(s_l1In ((p_0.Idxs.getD k29 d_Idx).Col) 1 (IntKind.wrap .i64 ((p_0.Cols.length : Int) - 1)))), .bool (!(s_l1In ((p_0.Idxs.getD k29 d_Idx).Col) 1 (IntKind.wrap .i64 ((p_0.Cols.length : Int) - 1)))), .pointer (some ⟨b84, 0 + 2, none⟩), .int .i64 ((p_0.Idxs.getD k29 d_Idx).Stage), .bool ((s_l1In ((p_0.Idxs.getD k29 d_Idx).Stage) 0 3)), .bool (!(s_l1In ((p_0.Idxs.getD k29 d_Idx).Stage) 0 3)), .bool (!(s_l1In ((p_0.Idxs.getD k29 d_Idx).Stage) 0 3)), .bool (!(s_l1In ((p_0.Idxs.getD k29 d_Idx).Stage) 0 3)), undef, undef, undef, undef, undef, undef, undef, undef, undef, undef, undef, undef, undef, undef, .bool (true)] Tryz.follows rfl ?_ ?_
         ·refine ⟨oI rfl fun h => yl_fieldAddr fd79_0 rfl (h.g 4 rfl) kI, oI rfl fun h => yl_load1 ty9 rfl (h.g 29 rfl) (((Box.ex hB91 h.ex).cell 0).trans rfl) kI, ?_, oI rfl fun h => yl_not rfl (h.g 31 rfl) kI, oI rfl fun h => yl_move rfl (h.g 32 rfl) kI, oW rfl rfl rfl rfl (not_t hb94) fun h => yl_fieldAddr fd79_1 rfl (h.g 4 rfl) kI, oW rfl rfl rfl rfl (not_t hb94) fun h => yl_load1 ty3 rfl (h.g 34 rfl) (((Box.ex hB91 h.ex).cell 1).trans rfl) kI, oW rfl rfl rfl rfl (not_t hb94) fun h => yl_fieldAddr fd34_1 rfl (h.g 1 rfl) kI, ?_, oW rfl rfl rfl rfl (not_t hb94) fun h => yl_len un22 rfl (h.g 37 rfl) kI, oW rfl rfl rfl rfl (not_t hb94) fun h => yl_sub rfl (h.g 38 rfl) rfl kI, ?_, oW rfl rfl rfl rfl (not_t hb94) fun h => yl_not rfl (h.g 40 rfl) kI, oI rfl fun h => yl_pick_f rfl (h.g 33 rfl) (not_t hb94) (h.g 41 rfl) kI, oI rfl fun h => yl_move rfl (h.g 42 rfl) kI, oW rfl rfl rfl rfl (not_t hb99) fun h => yl_fieldAddr fd79_2 rfl (h.g 4 rfl) kI, oW rfl rfl rfl rfl (not_t hb99) fun h => yl_load1 ty3 rfl (h.g 44 rfl) (((Box.ex hB91 h.ex).cell 2).trans rfl) kI, ?_, oW rfl rfl rfl rfl (not_t hb99) fun h => yl_not rfl (h.g 46 rfl) kI, oI rfl fun h => yl_pick_f rfl (h.g 43 rfl) (not_t hb99) (h.g 47 rfl) kI, oI rfl fun h => yl_move rfl (h.g 48 rfl) kI, oS rfl rfl rfl rfl rfl (not_f hb105), oS rfl rfl rfl rfl rfl (not_f hb105), oS rfl rfl rfl rfl rfl (not_f hb105), oU rfl rfl rfl rfl rfl, oU rfl rfl rfl rfl rfl, oU rfl rfl rfl rfl rfl, oU rfl rfl rfl rfl rfl, oU rfl rfl rfl rfl rfl, oU rfl rfl rfl rfl rfl, oU rfl rfl rfl rfl rfl, oU rfl rfl rfl rfl rfl, oU rfl rfl rfl rfl rfl, oU rfl rfl rfl rfl rfl, oS rfl rfl rfl rfl rfl (not_f hb105), oI rfl fun h => yl_pick_t rfl (h.g 49 rfl) (not_f hb105) rfl kI, trivial⟩
          ·intro L620 w621 hi622
           exact OpR.op' rfl (yl_call en48 rfl (oc (hi622.g 30 rfl) (oc rfl oz)) (Cal.mono (c_s_l24Letters ((p_0.Idxs.getD k29 d_Idx).Name) 1 (okL.getD o3.2.2 ok_d_Idx _)) fun _ _ h => h))
          ·intro L657 w658 hi659
           have hE660 := hi659.ex
           have hE660z := Ex.size hE660
           exact OpR.want rfl rfl (hi659.g 33 rfl) (not_t hb94) (Yl.sameI (yl_load1 ty22 rfl (hi659.g 36 rfl) (((Box.ex (Box.only (Box.ex hf78 hE89) hO92 (by omega)) hE660).cell 1).trans rfl) kI))
          ·intro L676 w677 hi678
           exact OpR.want rfl rfl (hi678.g 33 rfl) (not_t hb94) (yl_call en22 rfl (oc (hi678.g 35 rfl) (oc rfl (oc (hi678.g 39 rfl) oz))) (Cal.mono (c_s_l1In ((p_0.Idxs.getD k29 d_Idx).Col) 1 (IntKind.wrap .i64 ((p_0.Cols.length : Int) - 1))) fun _ _ h => h))
          ·intro L716 w717 hi718
           exact OpR.want rfl rfl (hi718.g 43 rfl) (not_t hb99) (yl_call en22 rfl (oc (hi718.g 45 rfl) (oc rfl (oc rfl oz))) (Cal.mono (c_s_l1In ((p_0.Idxs.getD k29 d_Idx).Stage) 0 3) fun _ _ h => h))
         ·intro fl821 fh822 L818 w819 hp820
          have hE823 := hp820.ex
          have hE823z := Ex.size hE823
          refine dn (CW.sub (hp820.ss [1, 22, 23, 24, 64] rfl) (CW.cond_t rfl rfl (CW.seq (CW.region (sd rfl (yl_assign rfl rfl (dn ?_)))))))
          refine CW.ret (br (tr (tr ?_)))
          have hB830 : B_s_GoodTable_0 p_0 k29 () = .ret false := by simp only [B_s_GoodTable_0, hb16, hb24, hb26, hb94, hb99, hb105, cL]
          have hL829 : loopM (B_s_GoodTable_0 p_0) (p_0.Idxs.length - 0) 0 () = .ret false := hI75.symm.trans (loopM.ret hlt82 hB830)
          refine br (tr (rr rfl (.cons rfl .nil) ?_))
          rw [show (s_GoodTable p_0) = (false) by simp only [s_GoodTable, hb16, hb24, hb26, hb94, hb99, hb105, hL829, cL]]
          exact ⟨rfl, (Ex.trans (Below.only (Ex.trans hf79 hE89) hO92 (by omega)) hE823)⟩
       ·refine drJ 36 [.pointer (some ⟨b84, 0 + 0, none⟩), .string (bs ((p_0.Idxs.getD k29 d_Idx).Name)), .bool ((s_l24Letters ((p_0.Idxs.getD k29 d_Idx).Name) 1)), .bool (!(s_l24Letters ((p_0.Idxs.getD k29 d_Idx).Name) 1)), .bool (!(s_l24Letters ((p_0.Idxs.getD k29 d_Idx).Name) 1)), .pointer (some ⟨b84, 0 + 1, none⟩), .int .i64 ((p_0.Idxs.getD k29 d_Idx).Col), .pointer (some ⟨b7, 0 + 1, none⟩), .slice A1 p_0.Cols.length c1, .int .i64 ((p_0.Cols.length : Int)), .int .i64 (IntKind.wrap .i64 ((p_0.Cols.length : Int) - 1)), .bool ((s_l1In ((p_0.Idxs.getD k29 d_Idx).Col) 1 (IntKind.wrap .i64 ((p_0.Cols.length : Int) - 1)))), .bool (!(s_l1In ((p_0.Idxs.getD k29 d_Idx).Col) 1 (IntKind.wrap .i64 ((p_0.Cols.length : Int) - 1)))), .bool (!(s_l1In ((p_0.Idxs.getD k29 d_Idx).Col) 1 (IntKind.wrap .i64 ((p_0.Cols.length : Int) - 1)))), .bool (!(s_l1In ((p_0.Idxs.getD k29 d_Idx).Col) 1 (IntKind.wrap .i64 ((p_0.Cols.length : Int) - 1)))), undef, undef, undef, undef, .bool (true), .bool (true), undef, undef, undef, undef, undef, undef, undef, undef, undef, undef, undef, undef, undef, undef, .bool (true)] Tryz.follows rfl ?_ ?_
        ·refine ⟨oI rfl fun h => yl_fieldAddr fd79_0 rfl (h.g 4 rfl) kI, oI rfl fun h => yl_load1 ty9 rfl (h.g 29 rfl) (((Box.ex hB91 h.ex).cell 0).trans rfl) kI, ?_, oI rfl fun h => yl_not rfl (h.g 31 rfl) kI, oI rfl fun h => yl_move rfl (h.g 32 rfl) kI, oW rfl rfl rfl rfl (not_t hb94) fun h => yl_fieldAddr fd79_1 rfl (h.g 4 rfl) kI, oW rfl rfl rfl rfl (not_t hb94) fun h => yl_load1 ty3 rfl (h.g 34 rfl) (((Box.ex hB91 h.ex).cell 1).trans rfl) kI, oW rfl rfl rfl rfl (not_t hb94) fun h => yl_fieldAddr fd34_1 rfl (h.g 1 rfl) kI, ?_, oW rfl rfl rfl rfl (not_t hb94) fun h => yl_len un22 rfl (h.g 37 rfl) kI, oW rfl rfl rfl rfl (not_t hb94) fun h => yl_sub rfl (h.g 38 rfl) rfl kI, ?_, oW rfl rfl rfl rfl (not_t hb94) fun h => yl_not rfl (h.g 40 rfl) kI, oI rfl fun h => yl_pick_f rfl (h.g 33 rfl) (not_t hb94) (h.g 41 rfl) kI, oI rfl fun h => yl_move rfl (h.g 42 rfl) kI, oS rfl rfl rfl rfl rfl (not_f hb99), oS rfl rfl rfl rfl rfl (not_f hb99), oS rfl rfl rfl rfl rfl (not_f hb99), oS rfl rfl rfl rfl rfl (not_f hb99), oI rfl fun h => yl_pick_t rfl (h.g 43 rfl) (not_f hb99) rfl kI, oI rfl fun h => yl_move rfl (h.g 48 rfl) kI, oS rfl rfl rfl rfl rfl rfl, oS rfl rfl rfl rfl rfl rfl, oS rfl rfl rfl rfl rfl rfl, oU rfl rfl rfl rfl rfl, oU rfl rfl rfl rfl rfl, oU rfl rfl rfl rfl rfl, oU rfl rfl rfl rfl rfl, oU rfl rfl rfl rfl rfl, oU rfl rfl rfl rfl rfl, oU rfl rfl rfl rfl rfl, oU rfl rfl rfl rfl rfl, oU rfl rfl rfl rfl rfl, oU rfl rfl rfl rfl rfl, oS rfl rfl rfl rfl rfl rfl, oI rfl fun h => yl_pick_t rfl (h.g 49 rfl) rfl rfl kI, trivial⟩
         ·intro L850 w851 hi852
          exact OpR.op' rfl (yl_call en48 rfl (oc (hi852.g 30 rfl) (oc rfl oz)) (Cal.mono (c_s_l24Letters ((p_0.Idxs.getD k29 d_Idx).Name) 1 (okL.getD o3.2.2 ok_d_Idx _)) fun _ _ h => h))
         ·intro L887 w888 hi889
          have hE890 := hi889.ex
          have hE890z := Ex.size hE890
          exact OpR.want rfl rfl (hi889.g 33 rfl) (not_t hb94) (Yl.sameI (yl_load1 ty22 rfl (hi889.g 36 rfl) (((Box.ex (Box.only (Box.ex hf78 hE89) hO92 (by omega)) hE890).cell 1).trans rfl) kI))
         ·intro L906 w907 hi908
          exact OpR.want rfl rfl (hi908.g 33 rfl) (not_t hb94) (yl_call en22 rfl (oc (hi908.g 35 rfl) (oc rfl (oc (hi908.g 39 rfl) oz))) (Cal.mono (c_s_l1In ((p_0.Idxs.getD k29 d_Idx).Col) 1 (IntKind.wrap .i64 ((p_0.Cols.length : Int) - 1))) fun _ _ h => h))
        ·intro fl1043 fh1044 L1040 w1041 hp1042
         have hE1045 := hp1042.ex
         have hE1045z := Ex.size hE1045
         refine dn (CW.sub (hp1042.ss [1, 22, 23, 24, 64] rfl) (CW.cond_t rfl rfl (CW.seq (CW.region (sd rfl (yl_assign rfl rfl (dn ?_)))))))
         refine CW.ret (br (tr (tr ?_)))
         have hB1052 : B_s_GoodTable_0 p_0 k29 () = .ret false := by simp only [B_s_GoodTable_0, hb16, hb24, hb26, hb94, hb99, cL]
         have hL1051 : loopM (B_s_GoodTable_0 p_0) (p_0.Idxs.length - 0) 0 () = .ret false := hI75.symm.trans (loopM.ret hlt82 hB1052)
         refine br (tr (rr rfl (.cons rfl .nil) ?_))
         rw [show (s_GoodTable p_0) = (false) by simp only [s_GoodTable, hb16, hb24, hb26, hb94, hb99, hL1051, cL]]
         exact ⟨rfl, (Ex.trans (Below.only (Ex.trans hf79 hE89) hO92 (by omega)) hE1045)⟩
      ·refine drJ 36 [.pointer (some ⟨b84, 0 + 0, none⟩), .string (bs ((p_0.Idxs.getD k29 d_Idx).Name)), .bool ((s_l24Letters ((p_0.Idxs.getD k29 d_Idx).Name) 1)), .bool (!(s_l24Letters ((p_0.Idxs.getD k29 d_Idx).Name) 1)), .bool (!(s_l24Letters ((p_0.Idxs.getD k29 d_Idx).Name) 1)), undef, undef, undef, undef, undef, undef, undef, undef, .bool (true), .bool (true), undef, undef, undef, undef, .bool (true), .bool (true), undef, undef, undef, undef, undef, undef, undef, undef, undef, undef, undef, undef, undef, undef, .bool (true)] Tryz.follows rfl ?_ ?_
       ·refine ⟨oI rfl fun h => yl_fieldAddr fd79_0 rfl (h.g 4 rfl) kI, oI rfl fun h => yl_load1 ty9 rfl (h.g 29 rfl) (((Box.ex hB91 h.ex).cell 0).trans rfl) kI, ?_, oI rfl fun h => yl_not rfl (h.g 31 rfl) kI, oI rfl fun h => yl_move rfl (h.g 32 rfl) kI, oS rfl rfl rfl rfl rfl (not_f hb94), oS rfl rfl rfl rfl rfl (not_f hb94), oS rfl rfl rfl rfl rfl (not_f hb94), oS rfl rfl rfl rfl rfl (not_f hb94), oS rfl rfl rfl rfl rfl (not_f hb94), oS rfl rfl rfl rfl rfl (not_f hb94), oS rfl rfl rfl rfl rfl (not_f hb94), oS rfl rfl rfl rfl rfl (not_f hb94), oI rfl fun h => yl_pick_t rfl (h.g 33 rfl) (not_f hb94) rfl kI, oI rfl fun h => yl_move rfl (h.g 42 rfl) kI, oS rfl rfl rfl rfl rfl rfl, oS rfl rfl rfl rfl rfl rfl, oS rfl rfl rfl rfl rfl rfl, oS rfl rfl rfl rfl rfl rfl, oI rfl fun h => yl_pick_t rfl (h.g 43 rfl) rfl rfl kI, oI rfl fun h => yl_move rfl (h.g 48 rfl) kI, oS rfl rfl rfl rfl rfl rfl, oS rfl rfl rfl rfl rfl rfl, oS rfl rfl rfl rfl rfl rfl, oU rfl rfl rfl rfl rfl, oU rfl rfl rfl rfl rfl, oU rfl rfl rfl rfl rfl, oU rfl rfl rfl rfl rfl, oU rfl rfl rfl rfl rfl, oU rfl rfl rfl rfl rfl, oU rfl rfl rfl rfl rfl, oU rfl rfl rfl rfl rfl, oU rfl rfl rfl rfl rfl, oU rfl rfl rfl rfl rfl, oS rfl rfl rfl rfl rfl rfl, oI rfl fun h => yl_pick_t rfl (h.g 49 rfl) rfl rfl kI, trivial⟩
        ·intro L1069 w1070 hi1071
         exact OpR.op' rfl (yl_call en48 rfl (oc (hi1071.g 30 rfl) (oc rfl oz)) (Cal.mono (c_s_l24Letters ((p_0.Idxs.getD k29 d_Idx).Name) 1 (okL.getD o3.2.2 ok_d_Idx _)) fun _ _ h => h))
       ·intro fl1248 fh1249 L1245 w1246 hp1247
        have hE1250 := hp1247.ex
        have hE1250z := Ex.size hE1250
        refine dn (CW.sub (hp1247.ss [1, 22, 23, 24, 64] rfl) (CW.cond_t rfl rfl (CW.seq (CW.region (sd rfl (yl_assign rfl rfl (dn ?_)))))))
        refine CW.ret (br (tr (tr ?_)))
        have hB1257 : B_s_GoodTable_0 p_0 k29 () = .ret false := by simp only [B_s_GoodTable_0, hb16, hb24, hb26, hb94, cL]
        have hL1256 : loopM (B_s_GoodTable_0 p_0) (p_0.Idxs.length - 0) 0 () = .ret false := hI75.symm.trans (loopM.ret hlt82 hB1257)
        refine br (tr (rr rfl (.cons rfl .nil) ?_))
        rw [show (s_GoodTable p_0) = (false) by simp only [s_GoodTable, hb16, hb24, hb26, hb94, hL1256, cL]]
        exact ⟨rfl, (Ex.trans (Below.only (Ex.trans hf79 hE89) hO92 (by omega)) hE1250)⟩
     ·refine CW.seq (CW.region (sd rfl (yl_lss rfl rfl rfl (dn (CW.seq (CW.cond_f rfl (lt_f hlt82) (CW.exit (tx ?_))))))))
      refine tx ?_
      have hL1262 : loopM (B_s_GoodTable_0 p_0) (p_0.Idxs.length - 0) 0 () = .done () := hI75.symm.trans (loopM.stop hlt82)
      refine bx (tn (CW.seq (CW.region (sd rfl (yl_assign rfl rfl (dn (CW.ret (rr rfl (.cons rfl .nil) ?_))))))))
      rw [show (s_GoodTable p_0) = (true) by simp only [s_GoodTable, hb16, hb24, hb26, hL1262, cL]]
      exact ⟨rfl, hf79⟩
  ·refine sz rfl rfl (not_f hb24) (sz rfl rfl (not_f hb24) (sz rfl rfl (not_f hb24) (sz rfl rfl (not_f hb24) (sd rfl (yl_pick_t rfl rfl (not_f hb24) rfl (dn (CW.cond_t rfl rfl (CW.seq ?_))))))))
   refine CW.region (sd rfl (yl_assign rfl rfl (dn (CW.ret (tr (rr rfl (.cons rfl .nil) ?_))))))
   rw [show (s_GoodTable p_0) = (false) by simp only [s_GoodTable, hb16, hb24, cL]]
   exact ⟨rfl, (Ex.trans q19 hE23)⟩
 ·refine sz rfl rfl (not_f hb16) (sz rfl rfl (not_f hb16) (sz rfl rfl (not_f hb16) (sz rfl rfl (not_f hb16) (sd rfl (yl_pick_t rfl rfl (not_f hb16) rfl (sd rfl (yl_move rfl rfl (sz rfl rfl rfl (sz rfl rfl rfl (sz rfl rfl rfl ?_))))))))))
  refine sz rfl rfl rfl (sd rfl (yl_pick_t rfl rfl rfl rfl (dn (CW.cond_t rfl rfl (CW.seq (CW.region (sd rfl (yl_assign rfl rfl (SeqR.done ?_)))))))))
  refine tn (CW.ret (tr (rr rfl (.cons rfl .nil) ?_)))
  rw [show (s_GoodTable p_0) = (false) by simp only [s_GoodTable, hb16, cL]]
  exact ⟨rfl, (Ex.trans (Ex.trans (Ex.refl w) hE12) hE15)⟩
theorem c_s_l3Bytes {w : World} (p_s : Str) (p_more : Str) (o1 : okS p_s) (o2 : okS p_more) : Cal Tryz.prog 51 #[.string (bs (p_s)), .string (bs (p_more))] w fun v w' => v = .bool ((s_l3Bytes p_s p_more)) ∧ Ex w w' := by
 have hol3 : p_s.length ≤ 1073741824 := o1
 have hol4 : p_more.length ≤ 1073741824 := o2
 refine Cal.of func51 rfl ntmps51 rfl (CW.seq (CW.region (sd rfl (yl_assign rfl rfl (dn (CW.seq (CW.seq (CW.region ?_))))))))
 refine sd rfl (yl_assign rfl rfl (dn (CW.block (CW.loop (fun m6 L7 w8 => ∃ (k5 : Nat), m6 = p_s.length - k5 ∧ k5 ≤ p_s.length ∧ w.heap.size ≤ w8.heap.size ∧ Sub [(0, .string (bs (p_s))), (1, .string (bs (p_more))), (5, .int .i64 ((k5 : Int)))] L7 ∧ Ex w w8 ∧ loopM (B_s_l3Bytes_0 p_s p_more) (p_s.length - k5) k5 () = loopM (B_s_l3Bytes_0 p_s p_more) (p_s.length - 0) 0 ()) (p_s.length - 0) ?_ ?_))))
 ·exact ⟨0, rfl, (by omega), Nat.le_refl _, (sR rfl), (Ex.refl w), rfl⟩
 ·rintro m9 L10 w11 ⟨k5, rfl, hk12, hsz14, hl15, hf16, hI13⟩
  refine CW.sub hl15 ?_
  have hf16z := Ex.size hf16
  have hbg17 : p_s.length ≤ 1073741824 := o1
  rcases Nat.lt_or_ge k5 p_s.length with hlt18 | hlt18
  ·refine CW.seq (CW.seq (CW.region (sd rfl (yl_move rfl rfl (sd rfl (yl_move rfl rfl (sd rfl (yl_slen un9 (a := p_s) rfl rfl (sd rfl (yl_lss rfl rfl rfl (dn ?_)))))))))))
   refine CW.cond_t rfl (lt_t hlt18) (CW.skip (tn (CW.seq (CW.block (CW.seq (CW.region (sd rfl (yl_move rfl rfl (sd rfl (yl_move rfl rfl ?_))))))))))
   refine sd rfl (yl_sindexN un9 (a := p_s) rfl rfl rfl (by first | omega | assumption | (simp only [wI] at *; omega)) (sd rfl (yl_geq rfl rfl rfl (sd rfl (yl_move rfl rfl (bcD (q := 97 ≤ ((p_s.getD k5 0).toNat : Int)) (fun hb19 hb19p => ?_) (fun hb19 hb19p => ?_)))))))
   ·refine sy rfl rfl hb19 (yl_move rfl rfl (sy rfl rfl hb19 (yl_move rfl rfl (sy rfl rfl hb19 (yl_sindexN un9 (a := p_s) rfl rfl rfl (by first | omega | assumption | (simp only [wI] at *; omega)) (sy rfl rfl hb19 (yl_leq rfl rfl rfl (sd rfl (yl_pick_t rfl rfl hb19 rfl (sd rfl (yl_move rfl rfl (bcD (q := ((p_s.getD k5 0).toNat : Int) ≤ 122) (fun hb20 hb20p => ?_) (fun hb20 hb20p => ?_)))))))))))))
    ·refine sz rfl rfl hb20 (sz rfl rfl hb20 (sz rfl rfl hb20 (sz rfl rfl hb20 (sz rfl rfl hb20 (sq rfl rfl (sq rfl rfl (sq rfl rfl (sq rfl rfl ?_))))))))
     refine sz rfl rfl hb20 (sd rfl (yl_pick_t rfl rfl hb20 rfl (sd rfl (yl_assign rfl rfl (dn (CW.seq (CW.seq (CW.region (sd rfl (yl_assign rfl rfl ?_))))))))))
     refine dn (CW.block (CW.loop (fun m23 L24 w25 => ∃ (k21 : Nat) (x22 : Bool), m23 = p_more.length - k21 ∧ k21 ≤ p_more.length ∧ w11.heap.size ≤ w25.heap.size ∧ Sub [(0, .string (bs (p_s))), (1, .string (bs (p_more))), (5, .int .i64 ((k5 : Int))), (6, .bool (x22)), (7, .int .i64 ((k21 : Int)))] L24 ∧ Ex w w25 ∧ loopM (B_s_l3Bytes_1 p_s p_more k5) (p_more.length - k21) k21 (x22) = loopM (B_s_l3Bytes_1 p_s p_more k5) (p_more.length - 0) 0 (true)) (p_more.length - 0) ?_ ?_))
     ·exact ⟨0, true, rfl, (by omega), Nat.le_refl _, (sR rfl), hf16, rfl⟩
     ·rintro m26 L27 w28 ⟨k21, x22, rfl, hk29, hsz31, hl32, hf33, hI30⟩
      refine CW.sub hl32 ?_
      have hf33z := Ex.size hf33
      have hbg34 : p_more.length ≤ 1073741824 := o2
      rcases Nat.lt_or_ge k21 p_more.length with hlt35 | hlt35
      ·refine CW.seq (CW.seq (CW.region (sd rfl (yl_move rfl rfl (sd rfl (yl_move rfl rfl (sd rfl (yl_slen un9 (a := p_more) rfl rfl (sd rfl (yl_lss rfl rfl rfl (dn ?_)))))))))))
       refine CW.cond_t rfl (lt_t hlt35) (CW.skip (tn (CW.seq (CW.block (bcase (x22) (fun hb36 => ?_) (fun hb36 => ?_))))))
       ·refine drJ 11 [.bool (x22), .bool (x22), undef, undef, undef, undef, undef, undef, undef, .bool (true), .bool (true)] Tryz.follows rfl ⟨oI rfl fun h => yl_move rfl (h.g 6 rfl) kI, oI rfl fun h => yl_move rfl (h.g 42 rfl) kI, oS rfl rfl rfl rfl rfl hb36, oS rfl rfl rfl rfl rfl hb36, oS rfl rfl rfl rfl rfl hb36, oS rfl rfl rfl rfl rfl hb36, oS rfl rfl rfl rfl rfl hb36, oS rfl rfl rfl rfl rfl hb36, oS rfl rfl rfl rfl rfl hb36, oI rfl fun h => yl_pick_t rfl (h.g 43 rfl) hb36 rfl kI, oI rfl fun h => yl_assign rfl (h.g 51 rfl) kI, trivial⟩ ?_
        ·intro fl96 fh97 L93 w94 hp95
         have hE98 := hp95.ex
         have hE98z := Ex.size hE98
         refine SeqR.done (bn (tn (CW.sub (hp95.ss [0, 1, 5, 6, 7] rfl) (CW.region (sd rfl (yl_move rfl rfl (sd rfl (yl_inc rfl rfl rfl (by omega) (sd rfl (yl_assign rfl rfl (SeqR.done ?_)))))))))))
         refine tn ?_
         have hB104 : B_s_l3Bytes_1 p_s p_more k5 k21 (x22) = .cont (true) := by simp only [B_s_l3Bytes_1, hb19, hb20, hb36, cL]
         exact ⟨p_more.length - (k21 + 1), by omega, k21 + 1, true, rfl, hlt35, (by omega), (sR rfl), (Ex.trans hf33 hE98), (loopM.cont hlt35 hB104).symm.trans hI30⟩
       ·refine drJ 11 [.bool (x22), .bool (x22), .string (bs (p_s)), .int .i64 ((k5 : Int)), .int .u8 (((p_s.getD k5 0).toNat : Int)), .string (bs (p_more)), .int .i64 ((k21 : Int)), .int .u8 (((p_more.getD k21 0).toNat : Int)), .bool (decide (((p_s.getD k5 0).toNat : Int) = ((p_more.getD k21 0).toNat : Int))), .bool (decide (((p_s.getD k5 0).toNat : Int) = ((p_more.getD k21 0).toNat : Int))), .bool (decide (((p_s.getD k5 0).toNat : Int) = ((p_more.getD k21 0).toNat : Int)))] Tryz.follows rfl ⟨oI rfl fun h => yl_move rfl (h.g 6 rfl) kI, oI rfl fun h => yl_move rfl (h.g 42 rfl) kI, oW rfl rfl rfl rfl hb36 fun h => yl_move rfl (h.g 0 rfl) kI, oW rfl rfl rfl rfl hb36 fun h => yl_move rfl (h.g 5 rfl) kI, ?_, oW rfl rfl rfl rfl hb36 fun h => yl_move rfl (h.g 1 rfl) kI, oW rfl rfl rfl rfl hb36 fun h => yl_move rfl (h.g 7 rfl) kI, ?_, oW rfl rfl rfl rfl hb36 fun h => yl_eql rfl (h.g 46 rfl) (h.g 49 rfl) kI, oI rfl fun h => yl_pick_f rfl (h.g 43 rfl) hb36 (h.g 50 rfl) kI, oI rfl fun h => yl_assign rfl (h.g 51 rfl) kI, trivial⟩ ?_
        ·intro L128 w129 hi130
         have hE131 := hi130.ex
         have hE131z := Ex.size hE131
         exact OpR.want rfl rfl (hi130.g 43 rfl) hb36 (Yl.sameI (yl_sindexN un9 (a := p_s) rfl (hi130.g 44 rfl) (hi130.g 45 rfl) (by first | omega | assumption | (simp only [wI] at *; omega)) kI))
        ·intro L147 w148 hi149
         have hE150 := hi149.ex
         have hE150z := Ex.size hE150
         exact OpR.want rfl rfl (hi149.g 43 rfl) hb36 (Yl.sameI (yl_sindexN un9 (a := p_more) rfl (hi149.g 47 rfl) (hi149.g 48 rfl) (by first | omega | assumption | (simp only [wI] at *; omega)) kI))
        ·intro fl175 fh176 L172 w173 hp174
         have hE177 := hp174.ex
         have hE177z := Ex.size hE177
         refine SeqR.done (bn (tn (CW.sub (hp174.ss [0, 1, 5, 6, 7] rfl) (CW.region (sd rfl (yl_move rfl rfl (sd rfl (yl_inc rfl rfl rfl (by omega) (sd rfl (yl_assign rfl rfl (SeqR.done ?_)))))))))))
         refine tn ?_
         have hB183 : B_s_l3Bytes_1 p_s p_more k5 k21 (x22) = .cont (decide (((p_s.getD k5 0).toNat : Int) = ((p_more.getD k21 0).toNat : Int))) := by simp only [B_s_l3Bytes_1, hb19, hb20, hb36, cL]
         exact ⟨p_more.length - (k21 + 1), by omega, k21 + 1, decide (((p_s.getD k5 0).toNat : Int) = ((p_more.getD k21 0).toNat : Int)), rfl, hlt35, (by omega), (sR rfl), (Ex.trans hf33 hE177), (loopM.cont hlt35 hB183).symm.trans hI30⟩
      ·refine CW.seq (CW.seq (CW.region (sd rfl (yl_move rfl rfl (sd rfl (yl_move rfl rfl (sd rfl (yl_slen un9 (a := p_more) rfl rfl (sd rfl (yl_lss rfl rfl rfl (dn ?_)))))))))))
       refine CW.cond_f rfl (lt_f hlt35) (CW.exit (tx (tx ?_)))
       have hL185 : loopM (B_s_l3Bytes_1 p_s p_more k5) (p_more.length - 0) 0 (true) = .done (x22) := hI30.symm.trans (loopM.stop hlt35)
       refine bx (tn (CW.seq (CW.region (sd rfl (yl_move rfl rfl (sd rfl (yl_not rfl rfl (dn (bcase (x22) (fun hb186 => ?_) (fun hb186 => ?_))))))))))
       ·refine CW.cond_f rfl (not_t hb186) (CW.skip (bn (tn (CW.region (sd rfl (yl_move rfl rfl (sd rfl (yl_inc rfl rfl rfl (by omega) (sd rfl (yl_assign rfl rfl (SeqR.done ?_)))))))))))
        refine tn ?_
        have hB187 : B_s_l3Bytes_0 p_s p_more k5 () = .cont () := by simp only [B_s_l3Bytes_0, hb19, hb20, hb186, hL185, cL]
        exact ⟨p_s.length - (k5 + 1), by omega, k5 + 1, rfl, hlt18, (by omega), (sR rfl), hf33, (loopM.cont hlt18 hB187).symm.trans hI13⟩
       ·refine CW.cond_t rfl (not_f hb186) (CW.seq (CW.region (sd rfl (yl_assign rfl rfl (dn (CW.ret (br (tr ?_))))))))
        refine tr ?_
        have hB189 : B_s_l3Bytes_0 p_s p_more k5 () = .ret false := by simp only [B_s_l3Bytes_0, hb19, hb20, hb186, hL185, cL]
        have hL188 : loopM (B_s_l3Bytes_0 p_s p_more) (p_s.length - 0) 0 () = .ret false := hI13.symm.trans (loopM.ret hlt18 hB189)
        refine br (tr (rr rfl (.cons rfl .nil) ?_))
        rw [show (s_l3Bytes p_s p_more) = (false) by simp only [s_l3Bytes, hb19, hb20, hb186, hL185, hL188, cL]]
        exact ⟨rfl, hf33⟩
    ·refine sy rfl rfl hb20 (yl_move rfl rfl (sy rfl rfl hb20 (yl_move rfl rfl (sy rfl rfl hb20 (yl_sindexN un9 (a := p_s) rfl rfl rfl (by first | omega | assumption | (simp only [wI] at *; omega)) (sy rfl rfl hb20 (yl_geq rfl rfl rfl (sy rfl rfl hb20 (yl_move rfl rfl (bcD (q := 48 ≤ ((p_s.getD k5 0).toNat : Int)) (fun hb191 hb191p => ?_) (fun hb191 hb191p => ?_)))))))))))
     ·refine sy rfl rfl hb191 (yl_move rfl rfl (sy rfl rfl hb191 (yl_move rfl rfl (sy rfl rfl hb191 (yl_sindexN un9 (a := p_s) rfl rfl rfl (by first | omega | assumption | (simp only [wI] at *; omega)) (sy rfl rfl hb191 (yl_leq rfl rfl rfl (sy rfl rfl hb20 (yl_pick_t rfl rfl hb191 rfl (sd rfl (yl_pick_f rfl rfl hb20 rfl (sd rfl (yl_assign rfl rfl (dn ?_))))))))))))))
      refine CW.seq (CW.seq (CW.region (sd rfl (yl_assign rfl rfl (dn (CW.block (CW.loop (fun m194 L195 w196 => ∃ (k192 : Nat) (x193 : Bool), m194 = p_more.length - k192 ∧ k192 ≤ p_more.length ∧ w11.heap.size ≤ w196.heap.size ∧ Sub [(0, .string (bs (p_s))), (1, .string (bs (p_more))), (5, .int .i64 ((k5 : Int))), (6, .bool (x193)), (7, .int .i64 ((k192 : Int)))] L195 ∧ Ex w w196 ∧ loopM (B_s_l3Bytes_1 p_s p_more k5) (p_more.length - k192) k192 (x193) = loopM (B_s_l3Bytes_1 p_s p_more k5) (p_more.length - 0) 0 (decide (((p_s.getD k5 0).toNat : Int) ≤ 57))) (p_more.length - 0) ?_ ?_)))))))
      ·exact ⟨0, decide (((p_s.getD k5 0).toNat : Int) ≤ 57), rfl, (by omega), Nat.le_refl _, (sR rfl), hf16, rfl⟩
      ·rintro m197 L198 w199 ⟨k192, x193, rfl, hk200, hsz202, hl203, hf204, hI201⟩
       refine CW.sub hl203 ?_
       have hf204z := Ex.size hf204
       have hbg205 : p_more.length ≤ 1073741824 := o2
       rcases Nat.lt_or_ge k192 p_more.length with hlt206 | hlt206
       ·refine CW.seq (CW.seq (CW.region (sd rfl (yl_move rfl rfl (sd rfl (yl_move rfl rfl (sd rfl (yl_slen un9 (a := p_more) rfl rfl (sd rfl (yl_lss rfl rfl rfl (dn ?_)))))))))))
        refine CW.cond_t rfl (lt_t hlt206) (CW.skip (tn (CW.seq (CW.block (bcase (x193) (fun hb207 => ?_) (fun hb207 => ?_))))))
        ·refine drJ 11 [.bool (x193), .bool (x193), undef, undef, undef, undef, undef, undef, undef, .bool (true), .bool (true)] Tryz.follows rfl ⟨oI rfl fun h => yl_move rfl (h.g 6 rfl) kI, oI rfl fun h => yl_move rfl (h.g 42 rfl) kI, oS rfl rfl rfl rfl rfl hb207, oS rfl rfl rfl rfl rfl hb207, oS rfl rfl rfl rfl rfl hb207, oS rfl rfl rfl rfl rfl hb207, oS rfl rfl rfl rfl rfl hb207, oS rfl rfl rfl rfl rfl hb207, oS rfl rfl rfl rfl rfl hb207, oI rfl fun h => yl_pick_t rfl (h.g 43 rfl) hb207 rfl kI, oI rfl fun h => yl_assign rfl (h.g 51 rfl) kI, trivial⟩ ?_
         ·intro fl267 fh268 L264 w265 hp266
          have hE269 := hp266.ex
          have hE269z := Ex.size hE269
          refine SeqR.done (bn (tn (CW.sub (hp266.ss [0, 1, 5, 6, 7] rfl) (CW.region (sd rfl (yl_move rfl rfl (sd rfl (yl_inc rfl rfl rfl (by omega) (sd rfl (yl_assign rfl rfl (SeqR.done ?_)))))))))))
          refine tn ?_
          have hB275 : B_s_l3Bytes_1 p_s p_more k5 k192 (x193) = .cont (true) := by simp only [B_s_l3Bytes_1, hb19, hb20, hb191, hb207, cL]
          exact ⟨p_more.length - (k192 + 1), by omega, k192 + 1, true, rfl, hlt206, (by omega), (sR rfl), (Ex.trans hf204 hE269), (loopM.cont hlt206 hB275).symm.trans hI201⟩
        ·refine drJ 11 [.bool (x193), .bool (x193), .string (bs (p_s)), .int .i64 ((k5 : Int)), .int .u8 (((p_s.getD k5 0).toNat : Int)), .string (bs (p_more)), .int .i64 ((k192 : Int)), .int .u8 (((p_more.getD k192 0).toNat : Int)), .bool (decide (((p_s.getD k5 0).toNat : Int) = ((p_more.getD k192 0).toNat : Int))), .bool (decide (((p_s.getD k5 0).toNat : Int) = ((p_more.getD k192 0).toNat : Int))), .bool (decide (((p_s.getD k5 0).toNat : Int) = ((p_more.getD k192 0).toNat : Int)))] Tryz.follows rfl ⟨oI rfl fun h => yl_move rfl (h.g 6 rfl) kI, oI rfl fun h => yl_move rfl (h.g 42 rfl) kI, oW rfl rfl rfl rfl hb207 fun h => yl_move rfl (h.g 0 rfl) kI, oW rfl rfl rfl rfl hb207 fun h => yl_move rfl (h.g 5 rfl) kI, ?_, oW rfl rfl rfl rfl hb207 fun h => yl_move rfl (h.g 1 rfl) kI, oW rfl rfl rfl rfl hb207 fun h => yl_move rfl (h.g 7 rfl) kI, ?_, oW rfl rfl rfl rfl hb207 fun h => yl_eql rfl (h.g 46 rfl) (h.g 49 rfl) kI, oI rfl fun h => yl_pick_f rfl (h.g 43 rfl) hb207 (h.g 50 rfl) kI, oI rfl fun h => yl_assign rfl (h.g 51 rfl) kI, trivial⟩ ?_
         ·intro L299 w300 hi301
          have hE302 := hi301.ex
          have hE302z := Ex.size hE302
          exact OpR.want rfl rfl (hi301.g 43 rfl) hb207 (Yl.sameI (yl_sindexN un9 (a := p_s) rfl (hi301.g 44 rfl) (hi301.g 45 rfl) (by first | omega | assumption | (simp only [wI] at *; omega)) kI))
         ·intro L318 w319 hi320
          have hE321 := hi320.ex
          have hE321z := Ex.size hE321
          exact OpR.want rfl rfl (hi320.g 43 rfl) hb207 (Yl.sameI (yl_sindexN un9 (a := p_more) rfl (hi320.g 47 rfl) (hi320.g 48 rfl) (by first | omega | assumption | (simp only [wI] at *; omega)) kI))
         ·intro fl346 fh347 L343 w344 hp345
          have hE348 := hp345.ex
          have hE348z := Ex.size hE348
          refine SeqR.done (bn (tn (CW.sub (hp345.ss [0, 1, 5, 6, 7] rfl) (CW.region (sd rfl (yl_move rfl rfl (sd rfl (yl_inc rfl rfl rfl (by omega) (sd rfl (yl_assign rfl rfl (SeqR.done ?_)))))))))))
          refine tn ?_
          have hB354 : B_s_l3Bytes_1 p_s p_more k5 k192 (x193) = .cont (decide (((p_s.getD k5 0).toNat : Int) = ((p_more.getD k192 0).toNat : Int))) := by simp only [B_s_l3Bytes_1, hb19, hb20, hb191, hb207, cL]
          exact ⟨p_more.length - (k192 + 1), by omega, k192 + 1, decide (((p_s.getD k5 0).toNat : Int) = ((p_more.getD k192 0).toNat : Int)), rfl, hlt206, (by omega), (sR rfl), (Ex.trans hf204 hE348), (loopM.cont hlt206 hB354).symm.trans hI201⟩
       ·refine CW.seq (CW.seq (CW.region (sd rfl (yl_move rfl rfl (sd rfl (yl_move rfl rfl (sd rfl (yl_slen un9 (a := p_more) rfl rfl (sd rfl (yl_lss rfl rfl rfl (dn ?_)))))))))))
        refine CW.cond_f rfl (lt_f hlt206) (CW.exit (tx (tx ?_)))
        have hL356 : loopM (B_s_l3Bytes_1 p_s p_more k5) (p_more.length - 0) 0 (decide (((p_s.getD k5 0).toNat : Int) ≤ 57)) = .done (x193) := hI201.symm.trans (loopM.stop hlt206)
        refine bx (tn (CW.seq (CW.region (sd rfl (yl_move rfl rfl (sd rfl (yl_not rfl rfl (dn (bcase (x193) (fun hb357 => ?_) (fun hb357 => ?_))))))))))
        ·refine CW.cond_f rfl (not_t hb357) (CW.skip (bn (tn (CW.region (sd rfl (yl_move rfl rfl (sd rfl (yl_inc rfl rfl rfl (by omega) (sd rfl (yl_assign rfl rfl (SeqR.done ?_)))))))))))
         refine tn ?_
         have hB358 : B_s_l3Bytes_0 p_s p_more k5 () = .cont () := by simp only [B_s_l3Bytes_0, hb19, hb20, hb191, hb357, hL356, cL]
         exact ⟨p_s.length - (k5 + 1), by omega, k5 + 1, rfl, hlt18, (by omega), (sR rfl), hf204, (loopM.cont hlt18 hB358).symm.trans hI13⟩
        ·refine CW.cond_t rfl (not_f hb357) (CW.seq (CW.region (sd rfl (yl_assign rfl rfl (dn (CW.ret (br (tr ?_))))))))
         refine tr ?_
         have hB360 : B_s_l3Bytes_0 p_s p_more k5 () = .ret false := by simp only [B_s_l3Bytes_0, hb19, hb20, hb191, hb357, hL356, cL]
         have hL359 : loopM (B_s_l3Bytes_0 p_s p_more) (p_s.length - 0) 0 () = .ret false := hI13.symm.trans (loopM.ret hlt18 hB360)
         refine br (tr (rr rfl (.cons rfl .nil) ?_))
         rw [show (s_l3Bytes p_s p_more) = (false) by simp only [s_l3Bytes, hb19, hb20, hb191, hb357, hL356, hL359, cL]]
         exact ⟨rfl, hf204⟩
     ·refine sz rfl rfl hb191 (sz rfl rfl hb191 (sz rfl rfl hb191 (sz rfl rfl hb191 (sy rfl rfl hb20 (yl_pick_f rfl rfl hb191 rfl (sd rfl (yl_pick_f rfl rfl hb20 rfl (sd rfl (yl_assign rfl rfl (dn ?_))))))))))
      refine CW.seq (CW.seq (CW.region (sd rfl (yl_assign rfl rfl (dn (CW.block (CW.loop (fun m364 L365 w366 => ∃ (k362 : Nat) (x363 : Bool), m364 = p_more.length - k362 ∧ k362 ≤ p_more.length ∧ w11.heap.size ≤ w366.heap.size ∧ Sub [(0, .string (bs (p_s))), (1, .string (bs (p_more))), (5, .int .i64 ((k5 : Int))), (6, .bool (x363)), (7, .int .i64 ((k362 : Int)))] L365 ∧ Ex w w366 ∧ loopM (B_s_l3Bytes_1 p_s p_more k5) (p_more.length - k362) k362 (x363) = loopM (B_s_l3Bytes_1 p_s p_more k5) (p_more.length - 0) 0 (false)) (p_more.length - 0) ?_ ?_)))))))
      ·exact ⟨0, false, rfl, (by omega), Nat.le_refl _, (sR rfl), hf16, rfl⟩
      ·rintro m367 L368 w369 ⟨k362, x363, rfl, hk370, hsz372, hl373, hf374, hI371⟩
       refine CW.sub hl373 ?_
       have hf374z := Ex.size hf374
       have hbg375 : p_more.length ≤ 1073741824 := o2
       rcases Nat.lt_or_ge k362 p_more.length with hlt376 | hlt376
       ·refine CW.seq (CW.seq (CW.region (sd rfl (yl_move rfl rfl (sd rfl (yl_move rfl rfl (sd rfl (yl_slen un9 (a := p_more) rfl rfl (sd rfl (yl_lss rfl rfl rfl (dn ?_)))))))))))
        refine CW.cond_t rfl (lt_t hlt376) (CW.skip (tn (CW.seq (CW.block (bcase (x363) (fun hb377 => ?_) (fun hb377 => ?_))))))
        ·refine drJ 11 [.bool (x363), .bool (x363), undef, undef, undef, undef, undef, undef, undef, .bool (true), .bool (true)] Tryz.follows rfl ⟨oI rfl fun h => yl_move rfl (h.g 6 rfl) kI, oI rfl fun h => yl_move rfl (h.g 42 rfl) kI, oS rfl rfl rfl rfl rfl hb377, oS rfl rfl rfl rfl rfl hb377, oS rfl rfl rfl rfl rfl hb377, oS rfl rfl rfl rfl rfl hb377, oS rfl rfl rfl rfl rfl hb377, oS rfl rfl rfl rfl rfl hb377, oS rfl rfl rfl rfl rfl hb377, oI rfl fun h => yl_pick_t rfl (h.g 43 rfl) hb377 rfl kI, oI rfl fun h => yl_assign rfl (h.g 51 rfl) kI, trivial⟩ ?_
         ·intro fl437 fh438 L434 w435 hp436
          have hE439 := hp436.ex
          have hE439z := Ex.size hE439
          refine SeqR.done (bn (tn (CW.sub (hp436.ss [0, 1, 5, 6, 7] rfl) (CW.region (sd rfl (yl_move rfl rfl (sd rfl (yl_inc rfl rfl rfl (by omega) (sd rfl (yl_assign rfl rfl (SeqR.done ?_)))))))))))
          refine tn ?_
          have hB445 : B_s_l3Bytes_1 p_s p_more k5 k362 (x363) = .cont (true) := by simp only [B_s_l3Bytes_1, hb19, hb20, hb191, hb377, cL]
          exact ⟨p_more.length - (k362 + 1), by omega, k362 + 1, true, rfl, hlt376, (by omega), (sR rfl), (Ex.trans hf374 hE439), (loopM.cont hlt376 hB445).symm.trans hI371⟩
        ·refine drJ 11 [.bool (x363), .bool (x363), .string (bs (p_s)), .int .i64 ((k5 : Int)), .int .u8 (((p_s.getD k5 0).toNat : Int)), .string (bs (p_more)), .int .i64 ((k362 : Int)), .int .u8 (((p_more.getD k362 0).toNat : Int)), .bool (decide (((p_s.getD k5 0).toNat : Int) = ((p_more.getD k362 0).toNat : Int))), .bool (decide (((p_s.getD k5 0).toNat : Int) = ((p_more.getD k362 0).toNat : Int))), .bool (decide (((p_s.getD k5 0).toNat : Int) = ((p_more.getD k362 0).toNat : Int)))] Tryz.follows rfl ⟨oI rfl fun h => yl_move rfl (h.g 6 rfl) kI, oI rfl fun h => yl_move rfl (h.g 42 rfl) kI, oW rfl rfl rfl rfl hb377 fun h => yl_move rfl (h.g 0 rfl) kI, oW rfl rfl rfl rfl hb377 fun h => yl_move rfl (h.g 5 rfl) kI, ?_, oW rfl rfl rfl rfl hb377 fun h => yl_move rfl (h.g 1 rfl) kI, oW rfl rfl rfl rfl hb377 fun h => yl_move rfl (h.g 7 rfl) kI, ?_, oW rfl rfl rfl rfl hb377 fun h => yl_eql rfl (h.g 46 rfl) (h.g 49 rfl) kI, oI rfl fun h => yl_pick_f rfl (h.g 43 rfl) hb377 (h.g 50 rfl) kI, oI rfl fun h => yl_assign rfl (h.g 51 rfl) kI, trivial⟩ ?_
         ·intro L469 w470 hi471
          have hE472 := hi471.ex
          have hE472z := Ex.size hE472
          exact OpR.want rfl rfl (hi471.g 43 rfl) hb377 (Yl.sameI (yl_sindexN un9 (a := p_s) rfl (hi471.g 44 rfl) (hi471.g 45 rfl) (by first | omega | assumption | (simp only [wI] at *; omega)) kI))
         ·intro L488 w489 hi490
          have hE491 := hi490.ex
          have hE491z := Ex.size hE491
          exact OpR.want rfl rfl (hi490.g 43 rfl) hb377 (Yl.sameI (yl_sindexN un9 (a := p_more) rfl (hi490.g 47 rfl) (hi490.g 48 rfl) (by first | omega | assumption | (simp only [wI] at *; omega)) kI))
         ·intro fl516 fh517 L513 w514 hp515
          have hE518 := hp515.ex
          have hE518z := Ex.size hE518
          refine SeqR.done (bn (tn (CW.sub (hp515.ss [0, 1, 5, 6, 7] rfl) (CW.region (sd rfl (yl_move rfl rfl (sd rfl (yl_inc rfl rfl rfl (by omega) (sd rfl (yl_assign rfl rfl (SeqR.done ?_)))))))))))
          refine tn ?_
          have hB524 : B_s_l3Bytes_1 p_s p_more k5 k362 (x363) = .cont (decide (((p_s.getD k5 0).toNat : Int) = ((p_more.getD k362 0).toNat : Int))) := by simp only [B_s_l3Bytes_1, hb19, hb20, hb191, hb377, cL]
          exact ⟨p_more.length - (k362 + 1), by omega, k362 + 1, decide (((p_s.getD k5 0).toNat : Int) = ((p_more.getD k362 0).toNat : Int)), rfl, hlt376, (by omega), (sR rfl), (Ex.trans hf374 hE518), (loopM.cont hlt376 hB524).symm.trans hI371⟩
       ·refine CW.seq (CW.seq (CW.region (sd rfl (yl_move rfl rfl (sd rfl (yl_move rfl rfl (sd rfl (yl_slen un9 (a := p_more) rfl rfl (sd rfl (yl_lss rfl rfl rfl (dn ?_)))))))))))
        refine CW.cond_f rfl (lt_f hlt376) (CW.exit (tx (tx ?_)))
        have hL526 : loopM (B_s_l3Bytes_1 p_s p_more k5) (p_more.length - 0) 0 (false) = .done (x363) := hI371.symm.trans (loopM.stop hlt376)
        refine bx (tn (CW.seq (CW.region (sd rfl (yl_move rfl rfl (sd rfl (yl_not rfl rfl (dn (bcase (x363) (fun hb527 => ?_) (fun hb527 => ?_))))))))))
        ·refine CW.cond_f rfl (not_t hb527) (CW.skip (bn (tn (CW.region (sd rfl (yl_move rfl rfl (sd rfl (yl_inc rfl rfl rfl (by omega) (sd rfl (yl_assign rfl rfl (SeqR.done ?_)))))))))))
         refine tn ?_
         have hB528 : B_s_l3Bytes_0 p_s p_more k5 () = .cont () := by simp only [B_s_l3Bytes_0, hb19, hb20, hb191, hb527, hL526, cL]
         exact ⟨p_s.length - (k5 + 1), by omega, k5 + 1, rfl, hlt18, (by omega), (sR rfl), hf374, (loopM.cont hlt18 hB528).symm.trans hI13⟩
        ·refine CW.cond_t rfl (not_f hb527) (CW.seq (CW.region (sd rfl (yl_assign rfl rfl (dn (CW.ret (br (tr ?_))))))))
         refine tr ?_
         have hB530 : B_s_l3Bytes_0 p_s p_more k5 () = .ret false := by simp only [B_s_l3Bytes_0, hb19, hb20, hb191, hb527, hL526, cL]
         have hL529 : loopM (B_s_l3Bytes_0 p_s p_more) (p_s.length - 0) 0 () = .ret false := hI13.symm.trans (loopM.ret hlt18 hB530)
         refine br (tr (rr rfl (.cons rfl .nil) ?_))
         rw [show (s_l3Bytes p_s p_more) = (false) by simp only [s_l3Bytes, hb19, hb20, hb191, hb527, hL526, hL529, cL]]
         exact ⟨rfl, hf374⟩
   ·refine sz rfl rfl hb19 (sz rfl rfl hb19 (sz rfl rfl hb19 (sz rfl rfl hb19 (sd rfl (yl_pick_f rfl rfl hb19 rfl (sd rfl (yl_move rfl rfl (sy rfl rfl rfl (yl_move rfl rfl (sy rfl rfl rfl (yl_move rfl rfl (sy rfl rfl rfl (yl_sindexN un9 (a := p_s) rfl rfl rfl (by first | omega | assumption | (simp only [wI] at *; omega)) ?_)))))))))))))
    refine sy rfl rfl rfl (yl_geq rfl rfl rfl (sy rfl rfl rfl (yl_move rfl rfl (bcD (q := 48 ≤ ((p_s.getD k5 0).toNat : Int)) (fun hb532 hb532p => ?_) (fun hb532 hb532p => ?_)))))
    ·refine sy rfl rfl hb532 (yl_move rfl rfl (sy rfl rfl hb532 (yl_move rfl rfl (sy rfl rfl hb532 (yl_sindexN un9 (a := p_s) rfl rfl rfl (by first | omega | assumption | (simp only [wI] at *; omega)) (sy rfl rfl hb532 (yl_leq rfl rfl rfl (sy rfl rfl rfl (yl_pick_t rfl rfl hb532 rfl (sd rfl (yl_pick_f rfl rfl rfl rfl (sd rfl (yl_assign rfl rfl (dn ?_))))))))))))))
     refine CW.seq (CW.seq (CW.region (sd rfl (yl_assign rfl rfl (dn (CW.block (CW.loop (fun m535 L536 w537 => ∃ (k533 : Nat) (x534 : Bool), m535 = p_more.length - k533 ∧ k533 ≤ p_more.length ∧ w11.heap.size ≤ w537.heap.size ∧ Sub [(0, .string (bs (p_s))), (1, .string (bs (p_more))), (5, .int .i64 ((k5 : Int))), (6, .bool (x534)), (7, .int .i64 ((k533 : Int)))] L536 ∧ Ex w w537 ∧ loopM (B_s_l3Bytes_1 p_s p_more k5) (p_more.length - k533) k533 (x534) = loopM (B_s_l3Bytes_1 p_s p_more k5) (p_more.length - 0) 0 (decide (((p_s.getD k5 0).toNat : Int) ≤ 57))) (p_more.length - 0) ?_ ?_)))))))
     ·exact ⟨0, decide (((p_s.getD k5 0).toNat : Int) ≤ 57), rfl, (by omega), Nat.le_refl _, (sR rfl), hf16, rfl⟩
     ·rintro m538 L539 w540 ⟨k533, x534, rfl, hk541, hsz543, hl544, hf545, hI542⟩
      refine CW.sub hl544 ?_
      have hf545z := Ex.size hf545
      have hbg546 : p_more.length ≤ 1073741824 := o2
      rcases Nat.lt_or_ge k533 p_more.length with hlt547 | hlt547
      ·refine CW.seq (CW.seq (CW.region (sd rfl (yl_move rfl rfl (sd rfl (yl_move rfl rfl (sd rfl (yl_slen un9 (a := p_more) rfl rfl (sd rfl (yl_lss rfl rfl rfl (dn ?_)))))))))))
       refine CW.cond_t rfl (lt_t hlt547) (CW.skip (tn (CW.seq (CW.block (bcase (x534) (fun hb548 => ?_) (fun hb548 => ?_))))))
       ·refine drJ 11 [.bool (x534), .bool (x534), undef, undef, undef, undef, undef, undef, undef, .bool (true), .bool (true)] Tryz.follows rfl ⟨oI rfl fun h => yl_move rfl (h.g 6 rfl) kI, oI rfl fun h => yl_move rfl (h.g 42 rfl) kI, oS rfl rfl rfl rfl rfl hb548, oS rfl rfl rfl rfl rfl hb548, oS rfl rfl rfl rfl rfl hb548, oS rfl rfl rfl rfl rfl hb548, oS rfl rfl rfl rfl rfl hb548, oS rfl rfl rfl rfl rfl hb548, oS rfl rfl rfl rfl rfl hb548, oI rfl fun h => yl_pick_t rfl (h.g 43 rfl) hb548 rfl kI, oI rfl fun h => yl_assign rfl (h.g 51 rfl) kI, trivial⟩ ?_
        ·intro fl608 fh609 L605 w606 hp607
         have hE610 := hp607.ex
         have hE610z := Ex.size hE610
         refine SeqR.done (bn (tn (CW.sub (hp607.ss [0, 1, 5, 6, 7] rfl) (CW.region (sd rfl (yl_move rfl rfl (sd rfl (yl_inc rfl rfl rfl (by omega) (sd rfl (yl_assign rfl rfl (SeqR.done ?_)))))))))))
         refine tn ?_
         have hB616 : B_s_l3Bytes_1 p_s p_more k5 k533 (x534) = .cont (true) := by simp only [B_s_l3Bytes_1, hb19, hb532, hb548, cL]
         exact ⟨p_more.length - (k533 + 1), by omega, k533 + 1, true, rfl, hlt547, (by omega), (sR rfl), (Ex.trans hf545 hE610), (loopM.cont hlt547 hB616).symm.trans hI542⟩
       ·refine drJ 11 [.bool (x534), .bool (x534), .string (bs (p_s)), .int .i64 ((k5 : Int)), .int .u8 (((p_s.getD k5 0).toNat : Int)), .string (bs (p_more)), .int .i64 ((k533 : Int)), .int .u8 (((p_more.getD k533 0).toNat : Int)), .bool (decide (((p_s.getD k5 0).toNat : Int) = ((p_more.getD k533 0).toNat : Int))), .bool (decide (((p_s.getD k5 0).toNat : Int) = ((p_more.getD k533 0).toNat : Int))), .bool (decide (((p_s.getD k5 0).toNat : Int) = ((p_more.getD k533 0).toNat : Int)))] Tryz.follows rfl ⟨oI rfl fun h => yl_move rfl (h.g 6 rfl) kI, oI rfl fun h => yl_move rfl (h.g 42 rfl) kI, oW rfl rfl rfl rfl hb548 fun h => yl_move rfl (h.g 0 rfl) kI, oW rfl rfl rfl rfl hb548 fun h => yl_move rfl (h.g 5 rfl) kI, ?_, oW rfl rfl rfl rfl hb548 fun h => yl_move rfl (h.g 1 rfl) kI, oW rfl rfl rfl rfl hb548 fun h => yl_move rfl (h.g 7 rfl) kI, ?_, oW rfl rfl rfl rfl hb548 fun h => yl_eql rfl (h.g 46 rfl) (h.g 49 rfl) kI, oI rfl fun h => yl_pick_f rfl (h.g 43 rfl) hb548 (h.g 50 rfl) kI, oI rfl fun h => yl_assign rfl (h.g 51 rfl) kI, trivial⟩ ?_
        ·intro L640 w641 hi642
         have hE643 := hi642.ex
         have hE643z := Ex.size hE643
         exact OpR.want rfl rfl (hi642.g 43 rfl) hb548 (Yl.sameI (yl_sindexN un9 (a := p_s) rfl (hi642.g 44 rfl) (hi642.g 45 rfl) (by first | omega | assumption | (simp only [wI] at *; omega)) kI))
        ·intro L659 w660 hi661
         have hE662 := hi661.ex
         have hE662z := Ex.size hE662
         exact OpR.want rfl rfl (hi661.g 43 rfl) hb548 (Yl.sameI (yl_sindexN un9 (a := p_more) rfl (hi661.g 47 rfl) (hi661.g 48 rfl) (by first | omega | assumption | (simp only [wI] at *; omega)) kI))
        ·intro fl687 fh688 L684 w685 hp686
         have hE689 := hp686.ex
         have hE689z := Ex.size hE689
         refine SeqR.done (bn (tn (CW.sub (hp686.ss [0, 1, 5, 6, 7] rfl) (CW.region (sd rfl (yl_move rfl rfl (sd rfl (yl_inc rfl rfl rfl (by omega) (sd rfl (yl_assign rfl rfl (SeqR.done ?_)))))))))))
         refine tn ?_
         have hB695 : B_s_l3Bytes_1 p_s p_more k5 k533 (x534) = .cont (decide (((p_s.getD k5 0).toNat : Int) = ((p_more.getD k533 0).toNat : Int))) := by simp only [B_s_l3Bytes_1, hb19, hb532, hb548, cL]
         exact ⟨p_more.length - (k533 + 1), by omega, k533 + 1, decide (((p_s.getD k5 0).toNat : Int) = ((p_more.getD k533 0).toNat : Int)), rfl, hlt547, (by omega), (sR rfl), (Ex.trans hf545 hE689), (loopM.cont hlt547 hB695).symm.trans hI542⟩
      ·refine CW.seq (CW.seq (CW.region (sd rfl (yl_move rfl rfl (sd rfl (yl_move rfl rfl (sd rfl (yl_slen un9 (a := p_more) rfl rfl (sd rfl (yl_lss rfl rfl rfl (dn ?_)))))))))))
       refine CW.cond_f rfl (lt_f hlt547) (CW.exit (tx (tx ?_)))
       have hL697 : loopM (B_s_l3Bytes_1 p_s p_more k5) (p_more.length - 0) 0 (decide (((p_s.getD k5 0).toNat : Int) ≤ 57)) = .done (x534) := hI542.symm.trans (loopM.stop hlt547)
       refine bx (tn (CW.seq (CW.region (sd rfl (yl_move rfl rfl (sd rfl (yl_not rfl rfl (dn (bcase (x534) (fun hb698 => ?_) (fun hb698 => ?_))))))))))
       ·refine CW.cond_f rfl (not_t hb698) (CW.skip (bn (tn (CW.region (sd rfl (yl_move rfl rfl (sd rfl (yl_inc rfl rfl rfl (by omega) (sd rfl (yl_assign rfl rfl (SeqR.done ?_)))))))))))
        refine tn ?_
        have hB699 : B_s_l3Bytes_0 p_s p_more k5 () = .cont () := by simp only [B_s_l3Bytes_0, hb19, hb532, hb698, hL697, cL]
        exact ⟨p_s.length - (k5 + 1), by omega, k5 + 1, rfl, hlt18, (by omega), (sR rfl), hf545, (loopM.cont hlt18 hB699).symm.trans hI13⟩
       ·refine CW.cond_t rfl (not_f hb698) (CW.seq (CW.region (sd rfl (yl_assign rfl rfl (dn (CW.ret (br (tr ?_))))))))
        refine tr ?_
        have hB701 : B_s_l3Bytes_0 p_s p_more k5 () = .ret false := by simp only [B_s_l3Bytes_0, hb19, hb532, hb698, hL697, cL]
        have hL700 : loopM (B_s_l3Bytes_0 p_s p_more) (p_s.length - 0) 0 () = .ret false := hI13.symm.trans (loopM.ret hlt18 hB701)
        refine br (tr (rr rfl (.cons rfl .nil) ?_))
        rw [show (s_l3Bytes p_s p_more) = (false) by simp only [s_l3Bytes, hb19, hb532, hb698, hL697, hL700, cL]]
        exact ⟨rfl, hf545⟩
    ·refine sz rfl rfl hb532 (sz rfl rfl hb532 (sz rfl rfl hb532 (sz rfl rfl hb532 (sy rfl rfl rfl (yl_pick_f rfl rfl hb532 rfl (sd rfl (yl_pick_f rfl rfl rfl rfl (sd rfl (yl_assign rfl rfl (dn ?_))))))))))
     refine CW.seq (CW.seq (CW.region (sd rfl (yl_assign rfl rfl (dn (CW.block (CW.loop (fun m705 L706 w707 => ∃ (k703 : Nat) (x704 : Bool), m705 = p_more.length - k703 ∧ k703 ≤ p_more.length ∧ w11.heap.size ≤ w707.heap.size ∧ Sub [(0, .string (bs (p_s))), (1, .string (bs (p_more))), (5, .int .i64 ((k5 : Int))), (6, .bool (x704)), (7, .int .i64 ((k703 : Int)))] L706 ∧ Ex w w707 ∧ loopM (B_s_l3Bytes_1 p_s p_more k5) (p_more.length - k703) k703 (x704) = loopM (B_s_l3Bytes_1 p_s p_more k5) (p_more.length - 0) 0 (false)) (p_more.length - 0) ?_ ?_)))))))
     ·exact ⟨0, false, rfl, (by omega), Nat.le_refl _, (sR rfl), hf16, rfl⟩
     ·rintro m708 L709 w710 ⟨k703, x704, rfl, hk711, hsz713, hl714, hf715, hI712⟩
      refine CW.sub hl714 ?_
      have hf715z := Ex.size hf715
      have hbg716 : p_more.length ≤ 1073741824 := o2
      rcases Nat.lt_or_ge k703 p_more.length with hlt717 | hlt717
      ·refine CW.seq (CW.seq (CW.region (sd rfl (yl_move rfl rfl (sd rfl (yl_move rfl rfl (sd rfl (yl_slen un9 (a := p_more) rfl rfl (sd rfl (yl_lss rfl rfl rfl (dn ?_)))))))))))
       refine CW.cond_t rfl (lt_t hlt717) (CW.skip (tn (CW.seq (CW.block (bcase (x704) (fun hb718 => ?_) (fun hb718 => ?_))))))
       ·refine drJ 11 [.bool (x704), .bool (x704), undef, undef, undef, undef, undef, undef, undef, .bool (true), .bool (true)] Tryz.follows rfl ⟨oI rfl fun h => yl_move rfl (h.g 6 rfl) kI, oI rfl fun h => yl_move rfl (h.g 42 rfl) kI, oS rfl rfl rfl rfl rfl hb718, oS rfl rfl rfl rfl rfl hb718, oS rfl rfl rfl rfl rfl hb718, oS rfl rfl rfl rfl rfl hb718, oS rfl rfl rfl rfl rfl hb718, oS rfl rfl rfl rfl rfl hb718, oS rfl rfl rfl rfl rfl hb718, oI rfl fun h => yl_pick_t rfl (h.g 43 rfl) hb718 rfl kI, oI rfl fun h => yl_assign rfl (h.g 51 rfl) kI, trivial⟩ ?_
        ·intro fl778 fh779 L775 w776 hp777
         have hE780 := hp777.ex
         have hE780z := Ex.size hE780
         refine SeqR.done (bn (tn (CW.sub (hp777.ss [0, 1, 5, 6, 7] rfl) (CW.region (sd rfl (yl_move rfl rfl (sd rfl (yl_inc rfl rfl rfl (by omega) (sd rfl (yl_assign rfl rfl (SeqR.done ?_)))))))))))
         refine tn ?_
         have hB786 : B_s_l3Bytes_1 p_s p_more k5 k703 (x704) = .cont (true) := by simp only [B_s_l3Bytes_1, hb19, hb532, hb718, cL]
         exact ⟨p_more.length - (k703 + 1), by omega, k703 + 1, true, rfl, hlt717, (by omega), (sR rfl), (Ex.trans hf715 hE780), (loopM.cont hlt717 hB786).symm.trans hI712⟩
       ·refine drJ 11 [.bool (x704), .bool (x704), .string (bs (p_s)), .int .i64 ((k5 : Int)), .int .u8 (((p_s.getD k5 0).toNat : Int)), .string (bs (p_more)), .int .i64 ((k703 : Int)), .int .u8 (((p_more.getD k703 0).toNat : Int)), .bool (decide (((p_s.getD k5 0).toNat : Int) = ((p_more.getD k703 0).toNat : Int))), .bool (decide (((p_s.getD k5 0).toNat : Int) = ((p_more.getD k703 0).toNat : Int))), .bool (decide (((p_s.getD k5 0).toNat : Int) = ((p_more.getD k703 0).toNat : Int)))] Tryz.follows rfl ⟨oI rfl fun h => yl_move rfl (h.g 6 rfl) kI, oI rfl fun h => yl_move rfl (h.g 42 rfl) kI, oW rfl rfl rfl rfl hb718 fun h => yl_move rfl (h.g 0 rfl) kI, oW rfl rfl rfl rfl hb718 fun h => yl_move rfl (h.g 5 rfl) kI, ?_, oW rfl rfl rfl rfl hb718 fun h => yl_move rfl (h.g 1 rfl) kI, oW rfl rfl rfl rfl hb718 fun h => yl_move rfl (h.g 7 rfl) kI, ?_, oW rfl rfl rfl rfl hb718 fun h => yl_eql rfl (h.g 46 rfl) (h.g 49 rfl) kI, oI rfl fun h => yl_pick_f rfl (h.g 43 rfl) hb718 (h.g 50 rfl) kI, oI rfl fun h => yl_assign rfl (h.g 51 rfl) kI, trivial⟩ ?_
        ·intro L810 w811 hi812
         have hE813 := hi812.ex
         have hE813z := Ex.size hE813
         exact OpR.want rfl rfl (hi812.g 43 rfl) hb718 (Yl.sameI (yl_sindexN un9 (a := p_s) rfl (hi812.g 44 rfl) (hi812.g 45 rfl) (by first | omega | assumption | (simp only [wI] at *; omega)) kI))
        ·intro L829 w830 hi831
         have hE832 := hi831.ex
         have hE832z := Ex.size hE832
         exact OpR.want rfl rfl (hi831.g 43 rfl) hb718 (Yl.sameI (yl_sindexN un9 (a := p_more) rfl (hi831.g 47 rfl) (hi831.g 48 rfl) (by first | omega | assumption | (simp only [wI] at *; omega)) kI))
        ·intro fl857 fh858 L854 w855 hp856
         have hE859 := hp856.ex
         have hE859z := Ex.size hE859
         refine SeqR.done (bn (tn (CW.sub (hp856.ss [0, 1, 5, 6, 7] rfl) (CW.region (sd rfl (yl_move rfl rfl (sd rfl (yl_inc rfl rfl rfl (by omega) (sd rfl (yl_assign rfl rfl (SeqR.done ?_)))))))))))
         refine tn ?_
         have hB865 : B_s_l3Bytes_1 p_s p_more k5 k703 (x704) = .cont (decide (((p_s.getD k5 0).toNat : Int) = ((p_more.getD k703 0).toNat : Int))) := by simp only [B_s_l3Bytes_1, hb19, hb532, hb718, cL]
         exact ⟨p_more.length - (k703 + 1), by omega, k703 + 1, decide (((p_s.getD k5 0).toNat : Int) = ((p_more.getD k703 0).toNat : Int)), rfl, hlt717, (by omega), (sR rfl), (Ex.trans hf715 hE859), (loopM.cont hlt717 hB865).symm.trans hI712⟩
      ·refine CW.seq (CW.seq (CW.region (sd rfl (yl_move rfl rfl (sd rfl (yl_move rfl rfl (sd rfl (yl_slen un9 (a := p_more) rfl rfl (sd rfl (yl_lss rfl rfl rfl (dn ?_)))))))))))
       refine CW.cond_f rfl (lt_f hlt717) (CW.exit (tx (tx ?_)))
       have hL867 : loopM (B_s_l3Bytes_1 p_s p_more k5) (p_more.length - 0) 0 (false) = .done (x704) := hI712.symm.trans (loopM.stop hlt717)
       refine bx (tn (CW.seq (CW.region (sd rfl (yl_move rfl rfl (sd rfl (yl_not rfl rfl (dn (bcase (x704) (fun hb868 => ?_) (fun hb868 => ?_))))))))))
       ·refine CW.cond_f rfl (not_t hb868) (CW.skip (bn (tn (CW.region (sd rfl (yl_move rfl rfl (sd rfl (yl_inc rfl rfl rfl (by omega) (sd rfl (yl_assign rfl rfl (SeqR.done ?_)))))))))))
        refine tn ?_
        have hB869 : B_s_l3Bytes_0 p_s p_more k5 () = .cont () := by simp only [B_s_l3Bytes_0, hb19, hb532, hb868, hL867, cL]
        exact ⟨p_s.length - (k5 + 1), by omega, k5 + 1, rfl, hlt18, (by omega), (sR rfl), hf715, (loopM.cont hlt18 hB869).symm.trans hI13⟩
       ·refine CW.cond_t rfl (not_f hb868) (CW.seq (CW.region (sd rfl (yl_assign rfl rfl (dn (CW.ret (br (tr ?_))))))))
        refine tr ?_
        have hB871 : B_s_l3Bytes_0 p_s p_more k5 () = .ret false := by simp only [B_s_l3Bytes_0, hb19, hb532, hb868, hL867, cL]
        have hL870 : loopM (B_s_l3Bytes_0 p_s p_more) (p_s.length - 0) 0 () = .ret false := hI13.symm.trans (loopM.ret hlt18 hB871)
        refine br (tr (rr rfl (.cons rfl .nil) ?_))
        rw [show (s_l3Bytes p_s p_more) = (false) by simp only [s_l3Bytes, hb19, hb532, hb868, hL867, hL870, cL]]
        exact ⟨rfl, hf715⟩
  ·refine CW.seq (CW.seq (CW.region (sd rfl (yl_move rfl rfl (sd rfl (yl_move rfl rfl (sd rfl (yl_slen un9 (a := p_s) rfl rfl (sd rfl (yl_lss rfl rfl rfl (dn ?_)))))))))))
   refine CW.cond_f rfl (lt_f hlt18) (CW.exit (tx (tx ?_)))
   have hL873 : loopM (B_s_l3Bytes_0 p_s p_more) (p_s.length - 0) 0 () = .done () := hI13.symm.trans (loopM.stop hlt18)
   refine bx (tn (CW.seq (CW.region (sd rfl (yl_assign rfl rfl (dn (CW.ret (rr rfl (.cons rfl .nil) ?_))))))))
   rw [show (s_l3Bytes p_s p_more) = (true) by simp only [s_l3Bytes, hL873, cL]]
   exact ⟨rfl, hf16⟩
theorem c_s_l3Key {w : World} (p_s : Str) (o1 : okS p_s) : Cal Tryz.prog 84 #[.string (bs (p_s))] w fun v w' => v = .bool ((s_l3Key p_s)) ∧ Ex w w' := by
 refine Cal.of func84 rfl ntmps84 rfl (CW.seq (CW.region (sd rfl (yl_assign rfl rfl (dn (CW.seq (CW.region (sd rfl (yl_move rfl rfl ?_)))))))))
 refine sd rfl (yl_slen un9 (a := p_s) rfl rfl (sd rfl (yl_call en22 rfl (oc rfl (oc rfl (oc rfl oz))) (Cal.mono (c_s_l1In (p_s.length : Int) 1 12) ?_))))
 rintro v4 w3 ⟨rfl, hE5⟩
 refine sd rfl (yl_move rfl rfl (bcase (s_l1In (p_s.length : Int) 1 12) (fun hb6 => ?_) (fun hb6 => ?_)))
 ·have hb6p := f_l1In hb6
  refine sy rfl rfl hb6 (yl_move rfl rfl (sy rfl rfl hb6 (yl_call en51 rfl (oc rfl (oc rfl oz)) (Cal.mono (c_s_l3Bytes p_s ([46, 47] : Str) o1 (okS.lit rfl)) ?_))))
  rintro v8 w7 ⟨rfl, hE9⟩
  refine sd rfl (yl_pick_t rfl rfl hb6 rfl (sd rfl (yl_assign rfl rfl (dn (CW.ret (rr rfl (.cons rfl .nil) ?_))))))
  rw [show (s_l3Key p_s) = ((s_l3Bytes p_s ([46, 47] : Str))) by simp only [s_l3Key, hb6, cL]]
  exact ⟨rfl, (Ex.trans (Ex.trans (Ex.refl w) hE5) hE9)⟩
 ·refine sz rfl rfl hb6 (sz rfl rfl hb6 (sd rfl (yl_pick_f rfl rfl hb6 rfl (sd rfl (yl_assign rfl rfl (dn (CW.ret (rr rfl (.cons rfl .nil) ?_))))))))
  rw [show (s_l3Key p_s) = (false) by simp only [s_l3Key, hb6, cL]]
  exact ⟨rfl, (Ex.trans (Ex.refl w) hE5)⟩
theorem c_s_l3Val {w : World} (p_s : Str) (o1 : okS p_s) : Cal Tryz.prog 85 #[.string (bs (p_s))] w fun v w' => v = .bool ((s_l3Val p_s)) ∧ Ex w w' := by
 refine Cal.of func85 rfl ntmps85 rfl (CW.seq (CW.region (sd rfl (yl_assign rfl rfl (dn (CW.seq (CW.region (sd rfl (yl_move rfl rfl ?_)))))))))
 refine sd rfl (yl_slen un9 (a := p_s) rfl rfl (sd rfl (yl_leq rfl rfl rfl (sd rfl (yl_move rfl rfl (bcD (q := (p_s.length : Int) ≤ 24) (fun hb3 hb3p => ?_) (fun hb3 hb3p => ?_)))))))
 ·refine sy rfl rfl hb3 (yl_move rfl rfl (sy rfl rfl hb3 (yl_call en51 rfl (oc rfl (oc rfl oz)) (Cal.mono (c_s_l3Bytes p_s ([46, 45, 44, 95] : Str) o1 (okS.lit rfl)) ?_))))
  rintro v5 w4 ⟨rfl, hE6⟩
  refine sd rfl (yl_pick_t rfl rfl hb3 rfl (sd rfl (yl_assign rfl rfl (dn (CW.ret (rr rfl (.cons rfl .nil) ?_))))))
  rw [show (s_l3Val p_s) = ((s_l3Bytes p_s ([46, 45, 44, 95] : Str))) by simp only [s_l3Val, hb3, cL]]
  exact ⟨rfl, (Ex.trans (Ex.refl w) hE6)⟩
 ·refine sz rfl rfl hb3 (sz rfl rfl hb3 (sd rfl (yl_pick_f rfl rfl hb3 rfl (sd rfl (yl_assign rfl rfl (dn (CW.ret (rr rfl (.cons rfl .nil) ?_))))))))
  rw [show (s_l3Val p_s) = (false) by simp only [s_l3Val, hb3, cL]]
  exact ⟨rfl, (Ex.refl w)⟩
theorem c_s_l3Write {w : World} (p_key : Str) (p_val : Str) (p_gone : Bool) (o1 : okS p_key) (o2 : okS p_val) : Cal Tryz.prog 68 #[.string (bs (p_key)), .string (bs (p_val)), .bool (p_gone)] w fun v w' => v = .bool ((s_l3Write p_key p_val p_gone)) ∧ Ex w w' := by
 refine Cal.of func68 rfl ntmps68 rfl (CW.seq (CW.region (sd rfl (yl_assign rfl rfl (dn (CW.seq (CW.region (sd rfl (yl_move rfl rfl ?_)))))))))
 refine sd rfl (yl_call en84 rfl (oc rfl oz) (Cal.mono (c_s_l3Key p_key o1) ?_))
 rintro v6 w5 ⟨rfl, hE7⟩
 refine sd rfl (yl_move rfl rfl (bcase (s_l3Key p_key) (fun hb8 => ?_) (fun hb8 => ?_)))
 ·refine sy rfl rfl hb8 (yl_move rfl rfl (sy rfl rfl hb8 (yl_call en85 rfl (oc rfl oz) (Cal.mono (c_s_l3Val p_val o2) ?_))))
  rintro v10 w9 ⟨rfl, hE11⟩
  refine sd rfl (yl_pick_t rfl rfl hb8 rfl (sd rfl (yl_move rfl rfl (bcase (s_l3Val p_val) (fun hb12 => ?_) (fun hb12 => ?_)))))
  ·refine sy rfl rfl hb12 (yl_move rfl rfl (sy rfl rfl hb12 (yl_not rfl rfl (sy rfl rfl hb12 (yl_move rfl rfl (bcase (p_gone) (fun hb13 => ?_) (fun hb13 => ?_)))))))
   ·refine sy rfl rfl (not_t hb13) (yl_move rfl rfl (sy rfl rfl (not_t hb13) (yl_seql (a := p_val) (b := ([] : Str)) rfl rfl rfl (sy rfl rfl hb12 (yl_pick_f rfl rfl (not_t hb13) rfl (sd rfl (yl_pick_t rfl rfl hb12 rfl (sd rfl (yl_assign rfl rfl (dn (CW.ret (rr rfl (.cons rfl .nil) ?_))))))))))))
    rw [show (s_l3Write p_key p_val p_gone) = (p_val == ([] : Str)) by simp only [s_l3Write, hb8, hb12, hb13, cL]]
    exact ⟨rfl, (Ex.trans (Ex.trans (Ex.refl w) hE7) hE11)⟩
   ·refine sz rfl rfl (not_f hb13) (sz rfl rfl (not_f hb13) (sy rfl rfl hb12 (yl_pick_t rfl rfl (not_f hb13) rfl (sd rfl (yl_pick_t rfl rfl hb12 rfl (sd rfl (yl_assign rfl rfl (dn (CW.ret (rr rfl (.cons rfl .nil) ?_))))))))))
    rw [show (s_l3Write p_key p_val p_gone) = (true) by simp only [s_l3Write, hb8, hb12, hb13, cL]]
    exact ⟨rfl, (Ex.trans (Ex.trans (Ex.refl w) hE7) hE11)⟩
  ·refine sz rfl rfl hb12 (sz rfl rfl hb12 (sz rfl rfl hb12 (sq rfl rfl (sq rfl rfl (sz rfl rfl hb12 (sd rfl (yl_pick_f rfl rfl hb12 rfl (sd rfl (yl_assign rfl rfl (SeqR.done ?_))))))))))
   refine tn (CW.ret (rr rfl (.cons rfl .nil) ?_))
   rw [show (s_l3Write p_key p_val p_gone) = (false) by simp only [s_l3Write, hb8, hb12, cL]]
   exact ⟨rfl, (Ex.trans (Ex.trans (Ex.refl w) hE7) hE11)⟩
 ·refine sz rfl rfl hb8 (sz rfl rfl hb8 (sd rfl (yl_pick_f rfl rfl hb8 rfl (sd rfl (yl_move rfl rfl (sz rfl rfl rfl (sz rfl rfl rfl (sz rfl rfl rfl (sq rfl rfl (sq rfl rfl ?_))))))))))
  refine sz rfl rfl rfl (sd rfl (yl_pick_f rfl rfl rfl rfl (sd rfl (yl_assign rfl rfl (dn (CW.ret (rr rfl (.cons rfl .nil) ?_)))))))
  rw [show (s_l3Write p_key p_val p_gone) = (false) by simp only [s_l3Write, hb8, cL]]
  exact ⟨rfl, (Ex.trans (Ex.refl w) hE7)⟩
theorem c_s_l3Writes {A1 : Option Addr} {c1 : Nat} {w : World} (p_l : List DWrite) (h1 : RdS w (Iv 0 w.heap.size) (RF e_Write) 3 A1 p_l.length c1 p_l) (o2 : (okL ok_Write) p_l) : Cal Tryz.prog 50 #[.slice A1 p_l.length c1] w fun v w' => v = .bool ((s_l3Writes p_l)) ∧ Ex w w' := by
 have hol3 := o2.1
 refine Cal.of func50 rfl ntmps50 rfl (CW.seq (CW.region (sd rfl (yl_assign rfl rfl (dn (CW.seq (CW.seq (CW.region ?_))))))))
 refine sd rfl (yl_move rfl rfl (sd rfl (yl_len un36 rfl rfl (sd rfl (yl_move rfl rfl (dn (CW.block (CW.loop (fun m24 L25 w26 => ∃ (k4 : Nat), m24 = p_l.length - k4 ∧ k4 ≤ p_l.length ∧ w.heap.size ≤ w26.heap.size ∧ Sub [(0, .slice A1 p_l.length c1), (5, .slice A1 p_l.length c1), (6, .int .i64 ((p_l.length : Int))), (7, .int .i64 ((k4 : Int)))] L25 ∧ Ex w w26 ∧ loopM (B_s_l3Writes_0 p_l) (p_l.length - k4) k4 () = loopM (B_s_l3Writes_0 p_l) (p_l.length - 0) 0 ()) (p_l.length - 0) ?_ ?_))))))))
 ·exact ⟨0, rfl, (by omega), Nat.le_refl _, (sR rfl), (Ex.refl w), rfl⟩
 ·rintro m27 L28 w29 ⟨k4, rfl, hk30, hsz32, hl33, hf34, hI31⟩
  refine CW.sub hl33 ?_
  have hf34z := Ex.size hf34
  have q36 := RdS.ex good_Write h1 hf34
  have hbg35 := RdS.big q36
  rcases Nat.lt_or_ge k4 p_l.length with hlt37 | hlt37
  ·refine CW.seq (CW.region (sd rfl (yl_lss rfl rfl rfl (dn (CW.seq (CW.cond_t rfl (lt_t hlt37) (CW.skip (tn ?_))))))))
   refine CW.seq (CW.block (CW.seq (CW.region (sd rfl (yl_move rfl rfl ?_)))))
   obtain ⟨_, _, _, eA38, _, ebl38, _, eR38, eC38⟩ := RdS.aD q36 d_Write (i := k4)
   obtain rfl := eR38
   refine sd rfl (yl_ixN un36 ty57 rfl rfl rfl eA38 (sd rfl (yl_loadN ty57 rfl rfl eC38 rfl (sd rfl (yl_alloc ty57 (cs := [.string (bs (([] : Str))), .string (bs (([] : Str))), .bool (false)]) rfl rfl ?_)))))
   intro b39 w40 hs41 hz42 hB43 hE44
   refine sd rfl (yl_assign rfl rfl (SeqR.u rfl rfl (yl_storeA (vs := [.string (bs ((p_l.getD k4 d_Write).Key)), .string (bs ((p_l.getD k4 d_Write).Val)), .bool ((p_l.getD k4 d_Write).Gone)]) ty57 rfl rfl rfl rfl rfl rfl hB43 rfl ?_)))
   intro w45 hB46 hO47
   have hO47z := hO47.size
   refine dn (CW.seq (bcase (s_l3Write ((p_l.getD k4 d_Write).Key) ((p_l.getD k4 d_Write).Val) ((p_l.getD k4 d_Write).Gone)) (fun hb49 => ?_) (fun hb49 => ?_)))
   ·refine bcD (q := 0 < (k4 : Int)) (fun hb51 hb51p => ?_) (fun hb51 hb51p => ?_)
    ·have q54 := Below.only (Ex.trans hf34 hE44) hO47 (by omega)
     obtain ⟨eb56, eo56, _, eA56, _, ebl56, _, eR56, eC56⟩ := RdS.atD (RdS.ex good_Write h1 q54) d_Write (i := (IntKind.wrap .i64 ((k4 : Int) - 1)).toNat) (by first | omega | assumption | (simp only [wI] at *; omega))
     obtain rfl := eR56
     refine drJ 23 [.pointer (some ⟨b39, 0 + 0, none⟩), .string (bs ((p_l.getD k4 d_Write).Key)), .pointer (some ⟨b39, 0 + 1, none⟩), .string (bs ((p_l.getD k4 d_Write).Val)), .pointer (some ⟨b39, 0 + 2, none⟩), .bool ((p_l.getD k4 d_Write).Gone), .bool ((s_l3Write ((p_l.getD k4 d_Write).Key) ((p_l.getD k4 d_Write).Val) ((p_l.getD k4 d_Write).Gone))), .bool (!(s_l3Write ((p_l.getD k4 d_Write).Key) ((p_l.getD k4 d_Write).Val) ((p_l.getD k4 d_Write).Gone))), .bool (!(s_l3Write ((p_l.getD k4 d_Write).Key) ((p_l.getD k4 d_Write).Val) ((p_l.getD k4 d_Write).Gone))), .int .i64 ((k4 : Int)), .bool (decide (0 < (k4 : Int))), .bool (decide (0 < (k4 : Int))), .slice A1 p_l.length c1, .int .i64 ((k4 : Int)), .int .i64 (IntKind.wrap .i64 ((k4 : Int) - 1)), .pointer (some ⟨eb56, eo56 + ((IntKind.wrap .i64 ((k4 : Int) - 1)).toNat) * 3, none⟩), .pointer (some ⟨eb56, eo56 + ((IntKind.wrap .i64 ((k4 : Int) - 1)).toNat) * 3 + 0, none⟩), .string (bs ((p_l.getD ((IntKind.wrap .i64 ((k4 : Int) - 1)).toNat) d_Write).Key)), .pointer (some ⟨b39, 0 + 0, none⟩), .string (bs ((p_l.getD k4 d_Write).Key)), .bool (!(sLt ((p_l.getD ((IntKind.wrap .i64 ((k4 : Int) - 1)).toNat) d_Write).Key) ((p_l.getD k4 d_Write).Key))), .bool (!(sLt ((p_l.getD ((IntKind.wrap .i64 ((k4 : Int) - 1)).toNat) d_Write).Key) ((p_l.getD k4 d_Write).Key))), .bool (!(sLt ((p_l.getD ((IntKind.wrap .i64 ((k4 : Int) - 1)).toNat) d_Write).Key) ((p_l.getD k4 d_Write).Key)))] Tryz.follows rfl ?_ ?_
     ·refine ⟨oI rfl fun h => yl_fieldAddr fd57_0 rfl (h.g 4 rfl) kI, oI rfl fun h => yl_load1 ty9 rfl (h.g 12 rfl) (((Box.ex hB46 h.ex).cell 0).trans rfl) kI, oI rfl fun h => yl_fieldAddr fd57_1 rfl (h.g 4 rfl) kI, oI rfl fun h => yl_load1 ty9 rfl (h.g 14 rfl) (((Box.ex hB46 h.ex).cell 1).trans rfl) kI, oI rfl fun h => yl_fieldAddr fd57_2 rfl (h.g 4 rfl) kI, oI rfl fun h => yl_load1 ty4 rfl (h.g 16 rfl) (((Box.ex hB46 h.ex).cell 2).trans rfl) kI, ?_, oI rfl fun h => yl_not rfl (h.g 18 rfl) kI, oI rfl fun h => yl_move rfl (h.g 19 rfl) kI, oW rfl rfl rfl rfl (not_t hb49) fun h => yl_move rfl (h.g 3 rfl) kI, oW rfl rfl rfl rfl (not_t hb49) fun h => yl_gtr rfl (h.g 21 rfl) rfl kI, oW rfl rfl rfl rfl (not_t hb49) fun h => yl_move rfl (h.g 22 rfl) kI, oW rfl rfl rfl rfl hb51 fun h => yl_move rfl (h.g 0 rfl) kI, oW rfl rfl rfl rfl hb51 fun h => yl_move rfl (h.g 3 rfl) kI, oW rfl rfl rfl rfl hb51 fun h => yl_sub rfl (h.g 25 rfl) rfl kI, ?_, oW rfl rfl rfl rfl hb51 fun h => yl_fieldAddr fd57_0 rfl (h.g 27 rfl) kI, oW rfl rfl rfl rfl hb51 fun h => yl_load1 ty9 rfl (h.g 28 rfl) ((Cells.ex eC56 h.ex) 0 _ rfl) kI, oW rfl rfl rfl rfl hb51 fun h => yl_fieldAddr fd57_0 rfl (h.g 4 rfl) kI, oW rfl rfl rfl rfl hb51 fun h => yl_load1 ty9 rfl (h.g 30 rfl) (((Box.ex hB46 h.ex).cell 0).trans rfl) kI, oW rfl rfl rfl rfl hb51 fun h => yl_sgeq (a := ((p_l.getD ((IntKind.wrap .i64 ((k4 : Int) - 1)).toNat) d_Write).Key)) (b := ((p_l.getD k4 d_Write).Key)) rfl (h.g 29 rfl) (h.g 31 rfl) kI, oW rfl rfl rfl rfl (not_t hb49) fun h => yl_pick_t rfl (h.g 23 rfl) hb51 (h.g 32 rfl) kI, oI rfl fun h => yl_pick_f rfl (h.g 20 rfl) (not_t hb49) (h.g 33 rfl) kI, trivial⟩
      ·intro L90 w91 hi92
       exact OpR.op' rfl (yl_call en68 rfl (oc (hi92.g 13 rfl) (oc (hi92.g 15 rfl) (oc (hi92.g 17 rfl) oz))) (Cal.mono (c_s_l3Write ((p_l.getD k4 d_Write).Key) ((p_l.getD k4 d_Write).Val) ((p_l.getD k4 d_Write).Gone) ((okL.getD o2 ok_d_Write _).1) ((okL.getD o2 ok_d_Write _).2)) fun _ _ h => h))
      ·intro L146 w147 hi148
       have hE149 := hi148.ex
       have hE149z := Ex.size hE149
       exact OpR.want rfl rfl (hi148.g 23 rfl) hb51 (Yl.sameI (yl_indexAddr un36 ty57 rfl (hi148.g 24 rfl) (hi148.g 26 rfl) eA56 (by first | omega | assumption | (simp only [wI] at *; omega)) (by first | omega | assumption | (simp only [wI] at *; omega)) kI))
     ·intro fl202 fh203 L199 w200 hp201
      have hE204 := hp201.ex
      have hE204z := Ex.size hE204
      refine dn (CW.sub (hp201.ss [0, 5, 6, 7, 34] rfl) (bcase (sLt ((p_l.getD ((IntKind.wrap .i64 ((k4 : Int) - 1)).toNat) d_Write).Key) ((p_l.getD k4 d_Write).Key)) (fun hb210 => ?_) (fun hb210 => ?_)))
      ·refine CW.cond_f rfl (not_t hb210) (CW.skip (bn (tn (CW.region (sd rfl (yl_inc rfl rfl rfl (by omega) (sd rfl (yl_move rfl rfl (dn ?_)))))))))
       have hB211 : B_s_l3Writes_0 p_l k4 () = .cont () := by simp only [B_s_l3Writes_0, hb49, hb51, hb210, cL]
       exact ⟨p_l.length - (k4 + 1), by omega, k4 + 1, rfl, hlt37, (by omega), (sR rfl), (Ex.trans q54 hE204), (loopM.cont hlt37 hB211).symm.trans hI31⟩
      ·refine CW.cond_t rfl (not_f hb210) (CW.seq (CW.region (sd rfl (yl_assign rfl rfl (dn (CW.ret (br (tr ?_))))))))
       refine tr ?_
       have hB214 : B_s_l3Writes_0 p_l k4 () = .ret false := by simp only [B_s_l3Writes_0, hb49, hb51, hb210, cL]
       have hL213 : loopM (B_s_l3Writes_0 p_l) (p_l.length - 0) 0 () = .ret false := hI31.symm.trans (loopM.ret hlt37 hB214)
       refine br (tr (rr rfl (.cons rfl .nil) ?_))
       rw [show (s_l3Writes p_l) = (false) by simp only [s_l3Writes, hb49, hb51, hb210, hL213, cL]]
       exact ⟨rfl, (Ex.trans q54 hE204)⟩
    ·refine drJ 23 [.pointer (some ⟨b39, 0 + 0, none⟩), .string (bs ((p_l.getD k4 d_Write).Key)), .pointer (some ⟨b39, 0 + 1, none⟩), .string (bs ((p_l.getD k4 d_Write).Val)), .pointer (some ⟨b39, 0 + 2, none⟩), .bool ((p_l.getD k4 d_Write).Gone), .bool ((s_l3Write ((p_l.getD k4 d_Write).Key) ((p_l.getD k4 d_Write).Val) ((p_l.getD k4 d_Write).Gone))), .bool (!(s_l3Write ((p_l.getD k4 d_Write).Key) ((p_l.getD k4 d_Write).Val) ((p_l.getD k4 d_Write).Gone))), .bool (!(s_l3Write ((p_l.getD k4 d_Write).Key) ((p_l.getD k4 d_Write).Val) ((p_l.getD k4 d_Write).Gone))), .int .i64 ((k4 : Int)), .bool (decide (0 < (k4 : Int))), .bool (decide (0 < (k4 : Int))), undef, undef, undef, undef, undef, undef, undef, undef, undef, .bool (false), .bool (false)] Tryz.follows rfl ?_ ?_
     ·refine ⟨oI rfl fun h => yl_fieldAddr fd57_0 rfl (h.g 4 rfl) kI, oI rfl fun h => yl_load1 ty9 rfl (h.g 12 rfl) (((Box.ex hB46 h.ex).cell 0).trans rfl) kI, oI rfl fun h => yl_fieldAddr fd57_1 rfl (h.g 4 rfl) kI, oI rfl fun h => yl_load1 ty9 rfl (h.g 14 rfl) (((Box.ex hB46 h.ex).cell 1).trans rfl) kI, oI rfl fun h => yl_fieldAddr fd57_2 rfl (h.g 4 rfl) kI, oI rfl fun h => yl_load1 ty4 rfl (h.g 16 rfl) (((Box.ex hB46 h.ex).cell 2).trans rfl) kI, ?_, oI rfl fun h => yl_not rfl (h.g 18 rfl) kI, oI rfl fun h => yl_move rfl (h.g 19 rfl) kI, oW rfl rfl rfl rfl (not_t hb49) fun h => yl_move rfl (h.g 3 rfl) kI, oW rfl rfl rfl rfl (not_t hb49) fun h => yl_gtr rfl (h.g 21 rfl) rfl kI, oW rfl rfl rfl rfl (not_t hb49) fun h => yl_move rfl (h.g 22 rfl) kI, oS rfl rfl rfl rfl rfl hb51, oS rfl rfl rfl rfl rfl hb51, oS rfl rfl rfl rfl rfl hb51, oS rfl rfl rfl rfl rfl hb51, oS rfl rfl rfl rfl rfl hb51, oS rfl rfl rfl rfl rfl hb51, oS rfl rfl rfl rfl rfl hb51, oS rfl rfl rfl rfl rfl hb51, oS rfl rfl rfl rfl rfl hb51, oW rfl rfl rfl rfl (not_t hb49) fun h => yl_pick_f rfl (h.g 23 rfl) hb51 rfl kI, oI rfl fun h => yl_pick_f rfl (h.g 20 rfl) (not_t hb49) (h.g 33 rfl) kI, trivial⟩
      ·intro L251 w252 hi253
       exact OpR.op' rfl (yl_call en68 rfl (oc (hi253.g 13 rfl) (oc (hi253.g 15 rfl) (oc (hi253.g 17 rfl) oz))) (Cal.mono (c_s_l3Write ((p_l.getD k4 d_Write).Key) ((p_l.getD k4 d_Write).Val) ((p_l.getD k4 d_Write).Gone) ((okL.getD o2 ok_d_Write _).1) ((okL.getD o2 ok_d_Write _).2)) fun _ _ h => h))
     ·intro fl350 fh351 L347 w348 hp349
      have hE352 := hp349.ex
      have hE352z := Ex.size hE352
      refine dn (CW.sub (hp349.ss [0, 5, 6, 7, 34] rfl) (CW.cond_f rfl rfl (CW.skip (bn (tn (CW.region (sd rfl (yl_inc rfl rfl rfl (by omega) ?_))))))))
      refine sd rfl (yl_move rfl rfl (dn ?_))
      have hB358 : B_s_l3Writes_0 p_l k4 () = .cont () := by simp only [B_s_l3Writes_0, hb49, hb51, cL]
      exact ⟨p_l.length - (k4 + 1), by omega, k4 + 1, rfl, hlt37, (by omega), (sR rfl), (Ex.trans (Below.only (Ex.trans hf34 hE44) hO47 (by omega)) hE352), (loopM.cont hlt37 hB358).symm.trans hI31⟩
   ·refine drJ 23 [.pointer (some ⟨b39, 0 + 0, none⟩), .string (bs ((p_l.getD k4 d_Write).Key)), .pointer (some ⟨b39, 0 + 1, none⟩), .string (bs ((p_l.getD k4 d_Write).Val)), .pointer (some ⟨b39, 0 + 2, none⟩), .bool ((p_l.getD k4 d_Write).Gone), .bool ((s_l3Write ((p_l.getD k4 d_Write).Key) ((p_l.getD k4 d_Write).Val) ((p_l.getD k4 d_Write).Gone))), .bool (!(s_l3Write ((p_l.getD k4 d_Write).Key) ((p_l.getD k4 d_Write).Val) ((p_l.getD k4 d_Write).Gone))), .bool (!(s_l3Write ((p_l.getD k4 d_Write).Key) ((p_l.getD k4 d_Write).Val) ((p_l.getD k4 d_Write).Gone))), undef, undef, undef, undef, undef, undef, undef, undef, undef, undef, undef, undef, undef, .bool (true)] Tryz.follows rfl ?_ ?_
    ·refine ⟨oI rfl fun h => yl_fieldAddr fd57_0 rfl (h.g 4 rfl) kI, oI rfl fun h => yl_load1 ty9 rfl (h.g 12 rfl) (((Box.ex hB46 h.ex).cell 0).trans rfl) kI, oI rfl fun h => yl_fieldAddr fd57_1 rfl (h.g 4 rfl) kI, oI rfl fun h => yl_load1 ty9 rfl (h.g 14 rfl) (((Box.ex hB46 h.ex).cell 1).trans rfl) kI, oI rfl fun h => yl_fieldAddr fd57_2 rfl (h.g 4 rfl) kI, oI rfl fun h => yl_load1 ty4 rfl (h.g 16 rfl) (((Box.ex hB46 h.ex).cell 2).trans rfl) kI, ?_, oI rfl fun h => yl_not rfl (h.g 18 rfl) kI, oI rfl fun h => yl_move rfl (h.g 19 rfl) kI, oS rfl rfl rfl rfl rfl (not_f hb49), oS rfl rfl rfl rfl rfl (not_f hb49), oS rfl rfl rfl rfl rfl (not_f hb49), oU rfl rfl rfl rfl rfl, oU rfl rfl rfl rfl rfl, oU rfl rfl rfl rfl rfl, oU rfl rfl rfl rfl rfl, oU rfl rfl rfl rfl rfl, oU rfl rfl rfl rfl rfl, oU rfl rfl rfl rfl rfl, oU rfl rfl rfl rfl rfl, oU rfl rfl rfl rfl rfl, oS rfl rfl rfl rfl rfl (not_f hb49), oI rfl fun h => yl_pick_t rfl (h.g 20 rfl) (not_f hb49) rfl kI, trivial⟩
     ·intro L396 w397 hi398
      exact OpR.op' rfl (yl_call en68 rfl (oc (hi398.g 13 rfl) (oc (hi398.g 15 rfl) (oc (hi398.g 17 rfl) oz))) (Cal.mono (c_s_l3Write ((p_l.getD k4 d_Write).Key) ((p_l.getD k4 d_Write).Val) ((p_l.getD k4 d_Write).Gone) ((okL.getD o2 ok_d_Write _).1) ((okL.getD o2 ok_d_Write _).2)) fun _ _ h => h))
    ·intro fl490 fh491 L487 w488 hp489
     have hE492 := hp489.ex
     have hE492z := Ex.size hE492
     refine dn (CW.sub (hp489.ss [0, 5, 6, 7, 34] rfl) (CW.cond_t rfl rfl (CW.seq (CW.region (sd rfl (yl_assign rfl rfl (dn ?_)))))))
     refine CW.ret (br (tr (tr ?_)))
     have hB499 : B_s_l3Writes_0 p_l k4 () = .ret false := by simp only [B_s_l3Writes_0, hb49, cL]
     have hL498 : loopM (B_s_l3Writes_0 p_l) (p_l.length - 0) 0 () = .ret false := hI31.symm.trans (loopM.ret hlt37 hB499)
     refine br (tr (rr rfl (.cons rfl .nil) ?_))
     rw [show (s_l3Writes p_l) = (false) by simp only [s_l3Writes, hb49, hL498, cL]]
     exact ⟨rfl, (Ex.trans (Below.only (Ex.trans hf34 hE44) hO47 (by omega)) hE492)⟩
  ·refine CW.seq (CW.region (sd rfl (yl_lss rfl rfl rfl (dn (CW.seq (CW.cond_f rfl (lt_f hlt37) (CW.exit (tx ?_))))))))
   refine tx ?_
   have hL504 : loopM (B_s_l3Writes_0 p_l) (p_l.length - 0) 0 () = .done () := hI31.symm.trans (loopM.stop hlt37)
   refine bx (tn (CW.seq (CW.region (sd rfl (yl_move rfl rfl (sd rfl (yl_len un36 rfl rfl (sd rfl (yl_leq rfl rfl rfl (sd rfl (yl_assign rfl rfl (SeqR.done ?_))))))))))))
   refine tn (CW.ret (rr rfl (.cons rfl .nil) ?_))
   rw [show (s_l3Writes p_l) = (decide ((p_l.length : Int) ≤ 24)) by simp only [s_l3Writes, hL504, cL]]
   exact ⟨rfl, hf34⟩
theorem c_s_l5Rows {A1 : Option Addr} {c1 : Nat} {w : World} (p_l : List DWrite) (h1 : RdS w (Iv 0 w.heap.size) (RF e_Write) 3 A1 p_l.length c1 p_l) (o2 : (okL ok_Write) p_l) : Cal Tryz.prog 21 #[.slice A1 p_l.length c1] w fun v w' => v = .bool ((s_l5Rows p_l)) ∧ Ex w w' := by
 have hol3 := o2.1
 refine Cal.of func21 rfl ntmps21 rfl (CW.seq (CW.region (sd rfl (yl_assign rfl rfl (dn (CW.seq (CW.seq (CW.region ?_))))))))
 refine sd rfl (yl_move rfl rfl (sd rfl (yl_len un36 rfl rfl (sd rfl (yl_move rfl rfl (dn (CW.block (CW.loop (fun m16 L17 w18 => ∃ (k4 : Nat), m16 = p_l.length - k4 ∧ k4 ≤ p_l.length ∧ w.heap.size ≤ w18.heap.size ∧ Sub [(0, .slice A1 p_l.length c1), (5, .slice A1 p_l.length c1), (6, .int .i64 ((p_l.length : Int))), (7, .int .i64 ((k4 : Int)))] L17 ∧ Ex w w18 ∧ loopM (B_s_l5Rows_0 p_l) (p_l.length - k4) k4 () = loopM (B_s_l5Rows_0 p_l) (p_l.length - 0) 0 ()) (p_l.length - 0) ?_ ?_))))))))
 ·exact ⟨0, rfl, (by omega), Nat.le_refl _, (sR rfl), (Ex.refl w), rfl⟩
 ·rintro m19 L20 w21 ⟨k4, rfl, hk22, hsz24, hl25, hf26, hI23⟩
  refine CW.sub hl25 ?_
  have hf26z := Ex.size hf26
  have q28 := RdS.ex good_Write h1 hf26
  have hbg27 := RdS.big q28
  rcases Nat.lt_or_ge k4 p_l.length with hlt29 | hlt29
  ·refine CW.seq (CW.region (sd rfl (yl_lss rfl rfl rfl (dn (CW.seq (CW.cond_t rfl (lt_t hlt29) (CW.skip (tn ?_))))))))
   refine CW.seq (CW.block (CW.seq (CW.region ?_)))
   obtain ⟨_, _, _, eA30, _, ebl30, _, eR30, eC30⟩ := RdS.aD q28 d_Write (i := k4)
   obtain rfl := eR30
   refine sd rfl (yl_ixN un36 ty57 rfl rfl rfl eA30 (sd rfl (yl_loadN ty57 rfl rfl eC30 rfl (sd rfl (yl_alloc ty57 (cs := [.string (bs (([] : Str))), .string (bs (([] : Str))), .bool (false)]) rfl rfl ?_)))))
   intro b31 w32 hs33 hz34 hB35 hE36
   refine SeqR.u rfl rfl (yl_storeA (vs := [.string (bs ((p_l.getD k4 d_Write).Key)), .string (bs ((p_l.getD k4 d_Write).Val)), .bool ((p_l.getD k4 d_Write).Gone)]) ty57 rfl rfl rfl rfl rfl rfl hB35 rfl ?_)
   intro w37 hB38 hO39
   have hO39z := hO39.size
   refine dn (CW.seq (CW.region (sd rfl (yl_fieldAddr fd57_2 rfl rfl (sd rfl (yl_load1 ty4 rfl rfl ((hB38.cell 2).trans rfl) (dn (bcase ((p_l.getD k4 d_Write).Gone) (fun hb40 => ?_) (fun hb40 => ?_)))))))))
   ·refine CW.cond_t rfl hb40 (CW.seq (CW.region (sd rfl (yl_assign rfl rfl (dn (CW.ret (br (tr ?_))))))))
    refine tr ?_
    have hB42 : B_s_l5Rows_0 p_l k4 () = .ret false := by simp only [B_s_l5Rows_0, hb40, cL]
    have hL41 : loopM (B_s_l5Rows_0 p_l) (p_l.length - 0) 0 () = .ret false := hI23.symm.trans (loopM.ret hlt29 hB42)
    refine br (tr (rr rfl (.cons rfl .nil) ?_))
    rw [show (s_l5Rows p_l) = (false) by simp only [s_l5Rows, hb40, hL41, cL]]
    exact ⟨rfl, (Below.only (Ex.trans hf26 hE36) hO39 (by omega))⟩
   ·refine CW.cond_f rfl hb40 (CW.skip (bn (tn (CW.region (sd rfl (yl_inc rfl rfl rfl (by omega) (sd rfl (yl_move rfl rfl (dn ?_)))))))))
    have hB46 : B_s_l5Rows_0 p_l k4 () = .cont () := by simp only [B_s_l5Rows_0, hb40, cL]
    exact ⟨p_l.length - (k4 + 1), by omega, k4 + 1, rfl, hlt29, (by omega), (sR rfl), (Below.only (Ex.trans hf26 hE36) hO39 (by omega)), (loopM.cont hlt29 hB46).symm.trans hI23⟩
  ·refine CW.seq (CW.region (sd rfl (yl_lss rfl rfl rfl (dn (CW.seq (CW.cond_f rfl (lt_f hlt29) (CW.exit (tx ?_))))))))
   refine tx ?_
   have hL49 : loopM (B_s_l5Rows_0 p_l) (p_l.length - 0) 0 () = .done () := hI23.symm.trans (loopM.stop hlt29)
   refine bx (tn (CW.seq (CW.region (sd rfl (yl_move rfl rfl (sd rfl (yl_call en50 rfl (oc rfl oz) (Cal.mono (c_s_l3Writes p_l (RdS.up q28 good_Write) o2) ?_))))))))
   rintro v51 w50 ⟨rfl, hE52⟩
   have hE52z := Ex.size hE52
   refine sd rfl (yl_assign rfl rfl (dn (CW.ret (rr rfl (.cons rfl .nil) ?_))))
   rw [show (s_l5Rows p_l) = ((s_l3Writes p_l)) by simp only [s_l5Rows, hL49, cL]]
   exact ⟨rfl, (Ex.trans hf26 hE52)⟩
theorem c_s_l25Field {w : World} (p_s : Str) (o1 : okS p_s) : Cal Tryz.prog 23 #[.string (bs (p_s))] w fun v w' => v = .bool ((s_l25Field p_s)) ∧ Ex w w' := by
 refine Cal.of func23 rfl ntmps23 rfl (CW.seq (CW.region (sd rfl (yl_assign rfl rfl (dn (CW.seq (CW.region (sd rfl (yl_move rfl rfl ?_)))))))))
 refine sd rfl (yl_slen un9 (a := p_s) rfl rfl (sd rfl (yl_call en22 rfl (oc rfl (oc rfl (oc rfl oz))) (Cal.mono (c_s_l1In (p_s.length : Int) 1 3) ?_))))
 rintro v4 w3 ⟨rfl, hE5⟩
 refine sd rfl (yl_move rfl rfl (bcase (s_l1In (p_s.length : Int) 1 3) (fun hb6 => ?_) (fun hb6 => ?_)))
 ·have hb6p := f_l1In hb6
  refine sy rfl rfl hb6 (yl_move rfl rfl (sy rfl rfl hb6 (yl_call en51 rfl (oc rfl (oc rfl oz)) (Cal.mono (c_s_l3Bytes p_s ([] : Str) o1 (okS.lit rfl)) ?_))))
  rintro v8 w7 ⟨rfl, hE9⟩
  refine sd rfl (yl_pick_t rfl rfl hb6 rfl (sd rfl (yl_assign rfl rfl (dn (CW.ret (rr rfl (.cons rfl .nil) ?_))))))
  rw [show (s_l25Field p_s) = ((s_l3Bytes p_s ([] : Str))) by simp only [s_l25Field, hb6, cL]]
  exact ⟨rfl, (Ex.trans (Ex.trans (Ex.refl w) hE5) hE9)⟩
 ·refine sz rfl rfl hb6 (sz rfl rfl hb6 (sd rfl (yl_pick_f rfl rfl hb6 rfl (sd rfl (yl_assign rfl rfl (dn (CW.ret (rr rfl (.cons rfl .nil) ?_))))))))
  rw [show (s_l25Field p_s) = (false) by simp only [s_l25Field, hb6, cL]]
  exact ⟨rfl, (Ex.trans (Ex.refl w) hE5)⟩
theorem c_s_l1Split {w : World} (p_s : Str) (p_b : Int) (o1 : okS p_s) : Cal Tryz.prog 86 #[.string (bs (p_s)), .int .u8 (p_b)] w fun v w' => ∃ A_1 c_1 lo_1 hi_1, v = .slice A_1 ((s_l1Split p_s p_b).length) c_1 ∧ OwnL w' lo_1 hi_1 9 1 (RF e_Str) A_1 ((s_l1Split p_s p_b).length) c_1 (s_l1Split p_s p_b) ∧ (okL okS) (s_l1Split p_s p_b) ∧ (w.heap.size ≤ lo_1 ∧ lo_1 ≤ hi_1 ∧ hi_1 ≤ w'.heap.size) ∧ Ex w w' := by
 have hol2 : p_s.length ≤ 1073741824 := o1
 refine Cal.of func86 rfl ntmps86 rfl (CW.seq (CW.region (sd rfl (yl_assign rfl rfl (dn (CW.seq (CW.region (sd rfl (yl_assign rfl rfl ?_)))))))))
 refine dn (CW.seq (CW.region (sd rfl (yl_assign rfl rfl (dn (CW.seq (CW.seq ?_)))))))
 refine CW.region (sd rfl (yl_assign rfl rfl (dn (CW.block (CW.loop (fun m26 L27 w28 => ∃ (k3 : Nat) (x21 : List Str) (x25 : Int) (A22 : Option Addr) (c23 : Nat) (u24 : Nat), m26 = p_s.length - k3 ∧ k3 ≤ p_s.length ∧ w.heap.size ≤ w28.heap.size ∧ Sub [(0, .string (bs (p_s))), (1, .int .u8 (p_b)), (5, .slice A22 x21.length c23), (6, .int .i64 (x25)), (7, .int .i64 ((k3 : Int)))] L27 ∧ OwnL w28 w.heap.size u24 9 1 (RF e_Str) A22 x21.length c23 x21 ∧ Ex w w28 ∧ (w.heap.size ≤ u24 ∧ u24 ≤ w28.heap.size) ∧ x21.length ≤ 0 + 1 * (k3 - 0) ∧ (∀ y ∈ x21, okS y) ∧ 0 ≤ x25 ∧ x25 ≤ (k3 : Int) ∧ loopM (B_s_l1Split_0 p_s p_b) (p_s.length - k3) k3 (x21, x25) = loopM (B_s_l1Split_0 p_s p_b) (p_s.length - 0) 0 (([] : List Str), 0)) (p_s.length - 0) ?_ ?_)))))
 ·exact ⟨0, ([] : List Str), 0, none, 0, w.heap.size, rfl, (by omega), Nat.le_refl _, (sR rfl), (OwnL.nil w w.heap.size w.heap.size 9 1 (RF e_Str)), (Ex.refl w), (by omega), (by first | (simp; done) | (first | omega | (simp only [List.length_append, List.length_cons, List.length_nil, List.length_set, toS_length]; omega))), okE.nil, (by first | omega | assumption | (simp only [wI] at *; omega)), (by first | omega | assumption | (simp only [wI] at *; omega)), rfl⟩
 ·rintro m29 L30 w31 ⟨k3, x21, x25, A22, c23, u24, rfl, hk32, hsz34, hl35, hf36, hf37, hu38, hln39, hok40, hv41, hv42, hI33⟩
  refine CW.sub hl35 ?_
  have hf37z := Ex.size hf37
  have hbg43 : p_s.length ≤ 1073741824 := o1
  rcases Nat.lt_or_ge k3 p_s.length with hlt44 | hlt44
  ·refine CW.seq (CW.seq (CW.region (sd rfl (yl_move rfl rfl (sd rfl (yl_move rfl rfl (sd rfl (yl_slen un9 (a := p_s) rfl rfl (sd rfl (yl_lss rfl rfl rfl (dn ?_)))))))))))
   refine CW.cond_t rfl (lt_t hlt44) (CW.skip (tn (CW.seq (CW.block (CW.seq (CW.region (sd rfl (yl_move rfl rfl (sd rfl (yl_move rfl rfl ?_))))))))))
   refine sd rfl (yl_sindexN un9 (a := p_s) rfl rfl rfl (by first | omega | assumption | (simp only [wI] at *; omega)) (sd rfl (yl_move rfl rfl (sd rfl (yl_eql rfl rfl rfl (dn (bcD (q := ((p_s.getD k3 0).toNat : Int) = p_b) (fun hb45 hb45p => ?_) (fun hb45 hb45p => ?_))))))))
   ·refine CW.cond_t rfl hb45 (CW.seq (CW.region (sd rfl (yl_move rfl rfl (sd rfl (yl_move rfl rfl (sd rfl (yl_move rfl rfl (sd rfl (yl_move rfl rfl (sd rfl (yl_sslice_lh un9 (a := p_s) (l := (x25).toNat) (h := k3) rfl rfl (toNat_op rfl (by omega)) rfl (by omega) (by omega) (sd rfl (yl_buildSlice (cs := [.string (bs (((p_s.take k3).drop ((x25).toNat))))]) un22 ty9 (by decide) rfl (oc rfl oz) (by kernel_rfl) ?_))))))))))))))
    intro b46 w47 hs48 hz49 hB50 hE51
    have hO52 : OwnL w47 b46 (b46 + 1) 9 1 (RF e_Str) (some ⟨b46, 0, none⟩) 1 1 ([((p_s.take k3).drop ((x25).toNat))] : List Str) := OwnL.of_box (S := fun _ => False) hB50 (Nat.le_refl _) (Nat.lt_succ_self _) (EncL.cons (c := [.string (bs (((p_s.take k3).drop ((x25).toNat))))]) rfl rfl EncL.nil) (Nat.le_of_ble_eq_true rfl) (fun h => h) (fun _ h => False.elim h)
    refine sd rfl (yl_appendL (S := (fun _ => False)) (lo := w.heap.size) (hi := u24) (xs := x21) (ys := ([((p_s.take k3).drop ((x25).toNat))] : List Str)) good_Str un22 ty9 rfl (Nat.le_of_ble_eq_true rfl) rfl rfl rfl (OwnL.ex good_Str hf36 hE51) (EncL.cons (c := [.string (bs (((p_s.take k3).drop ((x25).toNat))))]) rfl rfl EncL.nil) (Or.inr ⟨_, _, rfl, rfl, hB50.cells (o := 0) (n := 1) rfl⟩) rfl (by first | omega | (simp only [List.length_append, List.length_cons, List.length_nil, List.length_take, List.length_drop, List.length_replicate, List.length_set, toS_length]; omega)) (by first | omega | (simp only [List.length_append, List.length_cons, List.length_nil, List.length_take, List.length_drop, List.length_replicate, List.length_set, toS_length]; omega)) (by omega) (by omega) (fun _ h _ => False.elim h) (by omega) ?_)
    intro A54 c55 w56 row57 hO58 hG59 hrg60
    have hG59z := hG59.size
    refine sd rfl (yl_assign rfl rfl (dn (CW.region (sd rfl (yl_move rfl rfl (sd rfl (yl_inc rfl rfl rfl (by omega) (sd rfl (yl_assign rfl rfl (SeqR.done (bn ?_)))))))))))
    refine tn (CW.region (sd rfl (yl_move rfl rfl (sd rfl (yl_inc rfl rfl rfl (by omega) (sd rfl (yl_assign rfl rfl (dn ?_))))))))
    have hB61 : B_s_l1Split_0 p_s p_b k3 (x21, x25) = .cont ((x21 ++ ([((p_s.take k3).drop ((x25).toNat))] : List Str)), ((k3 + 1 : Nat) : Int)) := by simp only [B_s_l1Split_0, hb45, cL]
    exact ⟨p_s.length - (k3 + 1), by omega, k3 + 1, (x21 ++ ([((p_s.take k3).drop ((x25).toNat))] : List Str)), ((k3 + 1 : Nat) : Int), A54, c55, w56.heap.size, rfl, hlt44, (by omega), (sR rfl), hO58, (Below.grown (Ex.trans hf37 hE51) hG59 (by omega) (hW hrg60)), (by omega), (by first | omega | (simp only [List.length_append, List.length_cons, List.length_nil, List.length_set, toS_length]; omega)), (okE.append hok40 ((okL.mk (Nat.le_of_ble_eq_true rfl) (okE.cons (okS.drop (okS.take o1 _) _) okE.nil))).2), (by first | omega | assumption | (simp only [wI] at *; omega)), (by first | omega | assumption | (simp only [wI] at *; omega)), (loopM.cont hlt44 hB61).symm.trans hI33⟩
   ·refine CW.cond_f rfl hb45 (CW.skip (bn (tn (CW.region (sd rfl (yl_move rfl rfl (sd rfl (yl_inc rfl rfl rfl (by omega) (sd rfl (yl_assign rfl rfl (SeqR.done ?_)))))))))))
    refine tn ?_
    have hB64 : B_s_l1Split_0 p_s p_b k3 (x21, x25) = .cont (x21, x25) := by simp only [B_s_l1Split_0, hb45, cL]
    exact ⟨p_s.length - (k3 + 1), by omega, k3 + 1, x21, x25, A22, c23, u24, rfl, hlt44, (by omega), (sR rfl), hf36, hf37, (by omega), (by first | omega | (simp only [List.length_append, List.length_cons, List.length_nil, List.length_set, toS_length]; omega)), hok40, (by first | omega | assumption | (simp only [wI] at *; omega)), (by first | omega | assumption | (simp only [wI] at *; omega)), (loopM.cont hlt44 hB64).symm.trans hI33⟩
  ·refine CW.seq (CW.seq (CW.region (sd rfl (yl_move rfl rfl (sd rfl (yl_move rfl rfl (sd rfl (yl_slen un9 (a := p_s) rfl rfl (sd rfl (yl_lss rfl rfl rfl (dn ?_)))))))))))
   refine CW.cond_f rfl (lt_f hlt44) (CW.exit (tx (tx ?_)))
   have hL65 : loopM (B_s_l1Split_0 p_s p_b) (p_s.length - 0) 0 (([] : List Str), 0) = .done (x21, x25) := hI33.symm.trans (loopM.stop hlt44)
   refine bx (tn (CW.seq (CW.region (sd rfl (yl_move rfl rfl (sd rfl (yl_move rfl rfl (sd rfl (yl_move rfl rfl (sd rfl (yl_sslice_lo un9 (a := p_s) (l := (x25).toNat) rfl rfl (toNat_op rfl (by omega)) (by omega) (sd rfl (yl_buildSlice (cs := [.string (bs ((p_s.drop ((x25).toNat))))]) un22 ty9 (by decide) rfl (oc rfl oz) (by kernel_rfl) ?_)))))))))))))
   intro b66 w67 hs68 hz69 hB70 hE71
   have hO72 : OwnL w67 b66 (b66 + 1) 9 1 (RF e_Str) (some ⟨b66, 0, none⟩) 1 1 ([(p_s.drop ((x25).toNat))] : List Str) := OwnL.of_box (S := fun _ => False) hB70 (Nat.le_refl _) (Nat.lt_succ_self _) (EncL.cons (c := [.string (bs ((p_s.drop ((x25).toNat))))]) rfl rfl EncL.nil) (Nat.le_of_ble_eq_true rfl) (fun h => h) (fun _ h => False.elim h)
   refine sd rfl (yl_appendL (S := (fun _ => False)) (lo := w.heap.size) (hi := u24) (xs := x21) (ys := ([(p_s.drop ((x25).toNat))] : List Str)) good_Str un22 ty9 rfl (Nat.le_of_ble_eq_true rfl) rfl rfl rfl (OwnL.ex good_Str hf36 hE71) (EncL.cons (c := [.string (bs ((p_s.drop ((x25).toNat))))]) rfl rfl EncL.nil) (Or.inr ⟨_, _, rfl, rfl, hB70.cells (o := 0) (n := 1) rfl⟩) rfl (by first | omega | (simp only [List.length_append, List.length_cons, List.length_nil, List.length_take, List.length_drop, List.length_replicate, List.length_set, toS_length]; omega)) (by first | omega | (simp only [List.length_append, List.length_cons, List.length_nil, List.length_take, List.length_drop, List.length_replicate, List.length_set, toS_length]; omega)) (by omega) (by omega) (fun _ h _ => False.elim h) (by omega) ?_)
   intro A74 c75 w76 row77 hO78 hG79 hrg80
   have hG79z := hG79.size
   refine sd rfl (yl_assign rfl rfl (dn (CW.ret (rr rfl (.cons rfl .nil) ?_))))
   rw [show (s_l1Split p_s p_b) = ((x21 ++ ([(p_s.drop ((x25).toNat))] : List Str))) by simp only [s_l1Split, hL65, cL]]
   exact ⟨A74, c75, w.heap.size, w76.heap.size, rfl, hO78, (okL.mk (xs := (x21 ++ ([(p_s.drop ((x25).toNat))] : List Str))) (by first | omega | (simp only [List.length_append, List.length_cons, List.length_nil, List.length_take, List.length_drop, List.length_replicate, List.length_set, toS_length]; omega)) (okE.append hok40 ((okL.mk (Nat.le_of_ble_eq_true rfl) (okE.cons (okS.drop o1 _) okE.nil))).2)), (by omega), (Below.grown (Ex.trans hf37 hE71) hG79 (by omega) (hW hrg80))⟩
theorem c_s_l25Good {A1 : Option Addr} {c1 : Nat} {A2 : Option Addr} {c2 : Nat} {A4 : Option Addr} {c4 : Nat} {w : World} (p_t : DTable) (p_r : DRow) (h1 : RdS w (Iv 0 w.heap.size) (RF e_Str) 1 A1 p_t.Cols.length c1 p_t.Cols) (h2 : RdS w (Iv 0 w.heap.size) (RF e_Idx) 3 A2 p_t.Idxs.length c2 p_t.Idxs) (h4 : RdS w (Iv 0 w.heap.size) (RF e_Str) 1 A4 p_r.Vals.length c4 p_r.Vals) (o3 : ok_Table p_t) (o5 : ok_Row p_r) : Cal Tryz.prog 87 #[.agg #[.string (bs (p_t.Name)), .slice A1 p_t.Cols.length c1, .slice A2 p_t.Idxs.length c2], .agg #[.slice A4 p_r.Vals.length c4]] w fun v w' => v = .bool ((s_l25Good p_t p_r)) ∧ Ex w w' := by
 have hol6 : p_t.Name.length ≤ 1073741824 := o3.1
 have hol7 := o3.2.1.1
 have hol8 := o3.2.2.1
 have hol9 := o5.1
 refine Cal.of func87 rfl ntmps87 rfl (CW.seq (CW.region (sd rfl (yl_box rfl rfl rfl ?_))))
 intro b10 w11 hs12 hz13 hB14 hE15
 refine sd rfl (yl_box rfl rfl rfl ?_)
 intro b16 w17 hs18 hz19 hB20 hE21
 refine sd rfl (yl_assign rfl rfl (dn (CW.seq (CW.seq (CW.region (sd rfl (yl_fieldAddr fd61_0 rfl rfl (sd rfl (yl_load1 ty22 rfl rfl ((hB20.cell 0).trans rfl) (sd rfl (yl_len un22 rfl rfl ?_)))))))))))
 refine sd rfl (yl_move rfl rfl (dn (CW.block (CW.loop (fun m23 L24 w25 => ∃ (k22 : Nat), m23 = p_r.Vals.length - k22 ∧ k22 ≤ p_r.Vals.length ∧ w17.heap.size ≤ w25.heap.size ∧ Sub [(2, .pointer (some ⟨b10, 0, none⟩)), (3, .pointer (some ⟨b16, 0, none⟩)), (8, .slice A4 p_r.Vals.length c4), (9, .int .i64 ((p_r.Vals.length : Int))), (10, .int .i64 ((k22 : Int)))] L24 ∧ Box w25 b10 34 [.string (bs (p_t.Name)), .slice A1 p_t.Cols.length c1, .slice A2 p_t.Idxs.length c2] ∧ Box w25 b16 61 [.slice A4 p_r.Vals.length c4] ∧ Ex w w25 ∧ loopM (B_s_l25Good_0 p_t p_r) (p_r.Vals.length - k22) k22 () = loopM (B_s_l25Good_0 p_t p_r) (p_r.Vals.length - 0) 0 ()) (p_r.Vals.length - 0) ?_ ?_))))
 ·exact ⟨0, rfl, (by omega), Nat.le_refl _, (sR rfl), (Box.ex hB14 hE21), hB20, (Ex.trans (Ex.trans (Ex.refl w) hE15) hE21), rfl⟩
 ·rintro m29 L30 w31 ⟨k22, rfl, hk32, hsz34, hl35, hf36, hf37, hf38, hI33⟩
  refine CW.sub hl35 ?_
  have hf36z := Box.lt hf36
  have hf37z := Box.lt hf37
  have hf38z := Ex.size hf38
  have q40 := RdS.ex good_Str h4 hf38
  have hbg39 := RdS.big q40
  rcases Nat.lt_or_ge k22 p_r.Vals.length with hlt41 | hlt41
  ·refine CW.seq (CW.region (sd rfl (yl_lss rfl rfl rfl (dn (CW.seq (CW.cond_t rfl (lt_t hlt41) (CW.skip (tn ?_))))))))
   refine CW.seq (CW.block (CW.seq (CW.region ?_)))
   obtain ⟨_, _, _, eA42, _, ebl42, _, eR42, eC42⟩ := RdS.aD q40 d_Str (i := k22)
   obtain rfl := eR42
   refine sd rfl (yl_ixN un22 ty9 rfl rfl rfl eA42 (sd rfl (yl_load1 ty9 rfl rfl (eC42 0 _ rfl) (sd rfl (yl_assign rfl rfl (dn (CW.seq (CW.region (sd rfl (yl_move rfl rfl (sd rfl (yl_call en23 rfl (oc rfl oz) (Cal.mono (c_s_l25Field (p_r.Vals.getD k22 d_Str) (okL.getD o5 ok_d_Str _)) ?_)))))))))))))
   rintro v44 w43 ⟨rfl, hE45⟩
   have hE45z := Ex.size hE45
   refine sd rfl (yl_not rfl rfl (dn (bcase (s_l25Field (p_r.Vals.getD k22 d_Str)) (fun hb46 => ?_) (fun hb46 => ?_))))
   ·refine CW.cond_f rfl (not_t hb46) (CW.skip (bn (tn (CW.region (sd rfl (yl_inc rfl rfl rfl (by omega) (sd rfl (yl_move rfl rfl (dn ?_)))))))))
    have hB47 : B_s_l25Good_0 p_t p_r k22 () = .cont () := by simp only [B_s_l25Good_0, hb46, cL]
    exact ⟨p_r.Vals.length - (k22 + 1), by omega, k22 + 1, rfl, hlt41, (by omega), (sR rfl), (Box.ex hf36 hE45), (Box.ex hf37 hE45), (Ex.trans hf38 hE45), (loopM.cont hlt41 hB47).symm.trans hI33⟩
   ·refine CW.cond_t rfl (not_f hb46) (CW.seq (CW.region (sd rfl (yl_assign rfl rfl (dn (CW.ret (br (tr ?_))))))))
    refine tr ?_
    have hB52 : B_s_l25Good_0 p_t p_r k22 () = .ret false := by simp only [B_s_l25Good_0, hb46, cL]
    have hL51 : loopM (B_s_l25Good_0 p_t p_r) (p_r.Vals.length - 0) 0 () = .ret false := hI33.symm.trans (loopM.ret hlt41 hB52)
    refine br (tr (rr rfl (.cons rfl .nil) ?_))
    rw [show (s_l25Good p_t p_r) = (false) by simp only [s_l25Good, hb46, hL51, cL]]
    exact ⟨rfl, (Ex.trans hf38 hE45)⟩
  ·refine CW.seq (CW.region (sd rfl (yl_lss rfl rfl rfl (dn (CW.seq (CW.cond_f rfl (lt_f hlt41) (CW.exit (tx ?_))))))))
   refine tx ?_
   have hL55 : loopM (B_s_l25Good_0 p_t p_r) (p_r.Vals.length - 0) 0 () = .done () := hI33.symm.trans (loopM.stop hlt41)
   refine bx (tn (CW.seq (CW.region (sd rfl (yl_fieldAddr fd61_0 rfl rfl (sd rfl (yl_load1 ty22 rfl rfl ((hf37.cell 0).trans rfl) (sd rfl (yl_len un22 rfl rfl (sd rfl (yl_fieldAddr fd34_1 rfl rfl (sd rfl (yl_load1 ty22 rfl rfl ((hf36.cell 1).trans rfl) ?_)))))))))))))
   refine sd rfl (yl_len un22 rfl rfl (sd rfl (yl_eql rfl rfl rfl (sd rfl (yl_assign rfl rfl (dn (CW.ret (rr rfl (.cons rfl .nil) ?_))))))))
   rw [show (s_l25Good p_t p_r) = (decide ((p_r.Vals.length : Int) = (p_t.Cols.length : Int))) by simp only [s_l25Good, hL55, cL]]
   exact ⟨rfl, hf38⟩
theorem c_s_l24Join {A1 : Option Addr} {c1 : Nat} {w : World} (p_l : List Str) (p_by : Str) (h1 : RdS w (Iv 0 w.heap.size) (RF e_Str) 1 A1 p_l.length c1 p_l) (o2 : (okL okS) p_l) (o3 : okS p_by) : Cal Tryz.prog 98 #[.slice A1 p_l.length c1, .string (bs (p_by))] w fun v w' => v = .string (bs ((s_l24Join p_l p_by))) ∧ Ex w w' := by
 have hol4 := o2.1
 have hol5 : p_by.length ≤ 1073741824 := o3
 refine Cal.of func98 rfl ntmps98 rfl (CW.seq (CW.region (sd rfl (yl_assign rfl rfl (dn (CW.seq (CW.region (sd rfl (yl_assign rfl rfl ?_)))))))))
 refine dn (CW.seq (CW.seq (CW.region (sd rfl (yl_move rfl rfl (sd rfl (yl_len un22 rfl rfl (sd rfl (yl_move rfl rfl (SeqR.done ?_))))))))))
 refine tn (CW.block (CW.loop (fun m15 L16 w17 => ∃ (k6 : Nat) (x14 : Str), m15 = p_l.length - k6 ∧ k6 ≤ p_l.length ∧ w.heap.size ≤ w17.heap.size ∧ Sub [(1, .string (bs (p_by))), (5, .string (bs (x14))), (8, .slice A1 p_l.length c1), (9, .int .i64 ((p_l.length : Int))), (10, .int .i64 ((k6 : Int)))] L16 ∧ Ex w w17 ∧ x14.length ≤ 0 + 2147483648 * (k6 - 0) ∧ loopM (B_s_l24Join_0 p_l p_by) (p_l.length - k6) k6 (x14) = loopM (B_s_l24Join_0 p_l p_by) (p_l.length - 0) 0 (([] : Str))) (p_l.length - 0) ?_ ?_))
 ·exact ⟨0, ([] : Str), rfl, (by omega), Nat.le_refl _, (sR rfl), (Ex.refl w), (by first | (simp; done) | (first | omega | (simp only [List.length_append, List.length_cons, List.length_nil, List.length_set, toS_length]; omega))), rfl⟩
 ·rintro m18 L19 w20 ⟨k6, x14, rfl, hk21, hsz23, hl24, hf25, hln26, hI22⟩
  refine CW.sub hl24 ?_
  have hf25z := Ex.size hf25
  have q28 := RdS.ex good_Str h1 hf25
  have hbg27 := RdS.big q28
  rcases Nat.lt_or_ge k6 p_l.length with hlt29 | hlt29
  ·refine CW.seq (CW.region (sd rfl (yl_lss rfl rfl rfl (dn (CW.seq (CW.cond_t rfl (lt_t hlt29) (CW.skip (tn ?_))))))))
   refine CW.seq (CW.block (CW.seq (CW.region (sd rfl (yl_move rfl rfl ?_)))))
   obtain ⟨_, _, _, eA30, _, ebl30, _, eR30, eC30⟩ := RdS.aD q28 d_Str (i := k6)
   obtain rfl := eR30
   refine sd rfl (yl_ixN un22 ty9 rfl rfl rfl eA30 (sd rfl (yl_load1 ty9 rfl rfl (eC30 0 _ rfl) (sd rfl (yl_assign rfl rfl (sd rfl (yl_assign rfl rfl (dn (CW.seq (CW.seq (CW.region ?_)))))))))))
   refine sd rfl (yl_move rfl rfl (sd rfl (yl_gtr rfl rfl rfl (dn (bcD (q := 0 < (k6 : Int)) (fun hb31 hb31p => ?_) (fun hb31 hb31p => ?_))))))
   ·refine CW.cond_t rfl hb31 (CW.region (sd rfl (yl_move rfl rfl (sd rfl (yl_move rfl rfl ?_)))))
    have hol32 : p_by.length ≤ 1073741824 := o3
    refine sd rfl (yl_sadd (a := x14) (b := p_by) rfl rfl rfl (by first | omega | (simp only [List.length_append, List.length_cons, List.length_nil, List.length_take, List.length_drop, toS_length]; omega)) (sd rfl (yl_assign rfl rfl (dn (CW.region (sd rfl (yl_move rfl rfl (sd rfl (yl_move rfl rfl ?_)))))))))
    have hol33 : p_by.length ≤ 1073741824 := o3
    have hol34 : (p_l.getD k6 d_Str).length ≤ 1073741824 := (okL.getD o2 ok_d_Str _)
    refine sd rfl (yl_sadd (a := (x14 ++ p_by)) (b := (p_l.getD k6 d_Str)) rfl rfl rfl (by first | omega | (simp only [List.length_append, List.length_cons, List.length_nil, List.length_take, List.length_drop, toS_length]; omega)) (sd rfl (yl_assign rfl rfl (SeqR.done (bn (tn (CW.region (sd rfl (yl_inc rfl rfl rfl (by omega) (sd rfl (yl_move rfl rfl (SeqR.done ?_))))))))))))
    refine tn ?_
    have hB35 : B_s_l24Join_0 p_l p_by k6 (x14) = .cont ((x14 ++ p_by) ++ (p_l.getD k6 d_Str)) := by simp only [B_s_l24Join_0, hb31, cL]
    exact ⟨p_l.length - (k6 + 1), by omega, k6 + 1, (x14 ++ p_by) ++ (p_l.getD k6 d_Str), rfl, hlt29, (by omega), (sR rfl), hf25, (by first | omega | (simp only [List.length_append, List.length_cons, List.length_nil, List.length_set, toS_length]; omega)), (loopM.cont hlt29 hB35).symm.trans hI22⟩
   ·refine CW.cond_f rfl hb31 (CW.skip (tn (CW.region (sd rfl (yl_move rfl rfl (sd rfl (yl_move rfl rfl ?_)))))))
    have hol36 : (p_l.getD k6 d_Str).length ≤ 1073741824 := (okL.getD o2 ok_d_Str _)
    refine sd rfl (yl_sadd (a := x14) (b := (p_l.getD k6 d_Str)) rfl rfl rfl (by first | omega | (simp only [List.length_append, List.length_cons, List.length_nil, List.length_take, List.length_drop, toS_length]; omega)) (sd rfl (yl_assign rfl rfl (SeqR.done (bn (tn (CW.region (sd rfl (yl_inc rfl rfl rfl (by omega) (sd rfl (yl_move rfl rfl (SeqR.done ?_))))))))))))
    refine tn ?_
    have hB37 : B_s_l24Join_0 p_l p_by k6 (x14) = .cont (x14 ++ (p_l.getD k6 d_Str)) := by simp only [B_s_l24Join_0, hb31, cL]
    exact ⟨p_l.length - (k6 + 1), by omega, k6 + 1, x14 ++ (p_l.getD k6 d_Str), rfl, hlt29, (by omega), (sR rfl), hf25, (by first | omega | (simp only [List.length_append, List.length_cons, List.length_nil, List.length_set, toS_length]; omega)), (loopM.cont hlt29 hB37).symm.trans hI22⟩
  ·refine CW.seq (CW.region (sd rfl (yl_lss rfl rfl rfl (dn (CW.seq (CW.cond_f rfl (lt_f hlt29) (CW.exit (tx ?_))))))))
   refine tx ?_
   have hL38 : loopM (B_s_l24Join_0 p_l p_by) (p_l.length - 0) 0 (([] : Str)) = .done (x14) := hI22.symm.trans (loopM.stop hlt29)
   refine bx (tn (CW.seq (CW.region (sd rfl (yl_move rfl rfl (sd rfl (yl_assign rfl rfl (dn (CW.ret ?_)))))))))
   refine rr rfl (.cons rfl .nil) ?_
   rw [show (s_l24Join p_l p_by) = (x14) by simp only [s_l24Join, hL38, cL]]
   exact ⟨rfl, hf25⟩
theorem c_s_l25Write {A1 : Option Addr} {c1 : Nat} {A2 : Option Addr} {c2 : Nat} {A4 : Option Addr} {c4 : Nat} {w : World} (p_t : DTable) (p_r : DRow) (h1 : RdS w (Iv 0 w.heap.size) (RF e_Str) 1 A1 p_t.Cols.length c1 p_t.Cols) (h2 : RdS w (Iv 0 w.heap.size) (RF e_Idx) 3 A2 p_t.Idxs.length c2 p_t.Idxs) (h4 : RdS w (Iv 0 w.heap.size) (RF e_Str) 1 A4 p_r.Vals.length c4 p_r.Vals) (o3 : ok_Table p_t) (o5 : ok_Row p_r) (pre0 : 0 < p_r.Vals.length) : Cal Tryz.prog 88 #[.agg #[.string (bs (p_t.Name)), .slice A1 p_t.Cols.length c1, .slice A2 p_t.Idxs.length c2], .agg #[.slice A4 p_r.Vals.length c4]] w fun v w' => v = .agg #[.string (bs ((s_l25Write p_t p_r).Key)), .string (bs ((s_l25Write p_t p_r).Val)), .bool ((s_l25Write p_t p_r).Gone)] ∧ Ex w w' := by
 have hol6 : p_t.Name.length ≤ 1073741824 := o3.1
 have hol7 := o3.2.1.1
 have hol8 := o3.2.2.1
 have hol9 := o5.1
 refine Cal.of func88 rfl ntmps88 rfl (CW.seq (CW.region (sd rfl (yl_box rfl rfl rfl ?_))))
 intro b10 w11 hs12 hz13 hB14 hE15
 refine sd rfl (yl_box rfl rfl rfl ?_)
 intro b16 w17 hs18 hz19 hB20 hE21
 refine sd rfl (yl_alloc ty57 (cs := [.string (bs (([] : Str))), .string (bs (([] : Str))), .bool (false)]) rfl rfl ?_)
 intro b22 w23 hs24 hz25 hB26 hE27
 refine dn (CW.seq ?_)
 have hol30 : p_t.Name.length ≤ 1073741824 := o3.1
 have q31 := Box.ex hB20 hE27
 have q34 := Ex.trans (Ex.trans (Ex.trans (Ex.refl w) hE15) hE21) hE27
 have q35 := RdS.ex good_Str h4 q34
 obtain ⟨eb36, eo36, _, eA36, _, ebl36, _, eR36, eC36⟩ := RdS.aD q35 d_Str (i := 0)
 obtain rfl := eR36
 have hol37 : p_t.Name.length ≤ 1073741824 := o3.1
 have hol38 : (p_r.Vals.getD 0 d_Str).length ≤ 1073741824 := (okL.getD o5 ok_d_Str _)
 obtain ⟨A39, c40, he43, h42⟩ := RdS.sl (RdS.drop q35 (k := 1) (by omega))
 have hrc44 := (q35).2.1
 refine CW.drawsI 12 (vgetI [DetI (.pointer (some ⟨b10, 0 + 0, none⟩)), DetI (.string (bs (p_t.Name))), DetI (.string (bs (p_t.Name ++ ([47] : Str)))), DetI (.pointer (some ⟨b16, 0 + 0, none⟩)), DetI (.slice A4 p_r.Vals.length c4), DetI (.pointer (some ⟨eb36, eo36 + 0 * 1, none⟩)), DetI (.string (bs ((p_r.Vals.getD 0 d_Str)))), DetI (.string (bs ((p_t.Name ++ ([47] : Str)) ++ (p_r.Vals.getD 0 d_Str)))), DetI (.pointer (some ⟨b16, 0 + 0, none⟩)), DetI (.slice A4 p_r.Vals.length c4), fun lo hi v wq => ∃ A39 c40, v = .slice A39 ((p_r.Vals.drop 1).length) c40 ∧ RdS wq (Iv 0 w.heap.size) (RF e_Str) 1 A39 (p_r.Vals.drop 1).length c40 (p_r.Vals.drop 1), DetI (.string (bs ((s_l24Join (p_r.Vals.drop 1) ([44] : Str)))))]) Tryz.follows rfl rfl rfl rfl rfl rfl (vgetI_stable ⟨StableI.det _, StableI.det _, StableI.det _, StableI.det _, StableI.det _, StableI.det _, StableI.det _, StableI.det _, StableI.det _, StableI.det _, (fun _ _ _ _ _ ⟨A39, c40, hv, h45⟩ e => ⟨A39, c40, hv, RdS.ex good_Str h45 e⟩), StableI.det _, trivial⟩) ⟨?_, ?_, ?_, ?_, ?_, ?_, ?_, ?_, ?_, ?_, ?_, ?_, trivial⟩ ?_
 ·exact oI rfl fun h => yl_fieldAddr fd34_0 rfl (h.old 2 _ rfl rfl) kI
 ·exact oI rfl fun h => yl_load1 ty9 rfl (h.dt 0 5 rfl rfl rfl) (((Box.ex (Box.ex (Box.ex hB14 hE21) hE27) h.ex).cell 0).trans rfl) kI
 ·intro L58 w59 hi60
  have hE61 := hi60.ex
  have hE61z := Ex.size hE61
  have hol63 : p_t.Name.length ≤ 1073741824 := o3.1
  exact os rfl ((yl_sadd (a := p_t.Name) (b := ([47] : Str)) rfl (hi60.dt 1 6 rfl rfl rfl) rfl (by first | omega | (simp only [List.length_append, List.length_cons, List.length_nil, List.length_take, List.length_drop, toS_length]; omega)) kI))
 ·exact oI rfl fun h => yl_fieldAddr fd61_0 rfl (h.old 3 _ rfl rfl) kI
 ·exact oI rfl fun h => yl_load1 ty22 rfl (h.dt 3 8 rfl rfl rfl) (((Box.ex q31 h.ex).cell 0).trans rfl) kI
 ·intro L75 w76 hi77
  have hE78 := hi77.ex
  have hE78z := Ex.size hE78
  exact os rfl ((yl_ixN un22 ty9 rfl (hi77.dt 4 9 rfl rfl rfl) rfl eA36 kI))
 ·exact oI rfl fun h => yl_load1 ty9 rfl (h.dt 5 10 rfl rfl rfl) ((Cells.ex eC36 h.ex) 0 _ rfl) kI
 ·intro L86 w87 hi88
  have hE89 := hi88.ex
  have hE89z := Ex.size hE89
  have hol92 : p_t.Name.length ≤ 1073741824 := o3.1
  have hol93 : (p_r.Vals.getD 0 d_Str).length ≤ 1073741824 := (okL.getD o5 ok_d_Str _)
  exact os rfl ((yl_sadd (a := (p_t.Name ++ ([47] : Str))) (b := (p_r.Vals.getD 0 d_Str)) rfl (hi88.dt 2 7 rfl rfl rfl) (hi88.dt 6 11 rfl rfl rfl) (by first | omega | (simp only [List.length_append, List.length_cons, List.length_nil, List.length_take, List.length_drop, toS_length]; omega)) kI))
 ·exact oI rfl fun h => yl_fieldAddr fd61_0 rfl (h.old 3 _ rfl rfl) kI
 ·exact oI rfl fun h => yl_load1 ty22 rfl (h.dt 8 13 rfl rfl rfl) (((Box.ex q31 h.ex).cell 0).trans rfl) kI
 ·intro L105 w106 hi107
  have hE108 := hi107.ex
  have hE108z := Ex.size hE108
  have q111 := RdS.ex good_Str h4 (Ex.trans q34 hE108)
  obtain ⟨A112, c113, he116, h115⟩ := RdS.sl (RdS.drop q111 (k := 1) (by omega))
  have hrc117 := (q111).2.1
  exact os rfl ((yl_sliceR (kh := .i64) (l := 1) (h := p_r.Vals.length) un22 ty9 rfl (hi107.dt 9 14 rfl rfl rfl) (.inr ⟨_, rfl, rfl⟩) (.inl ⟨rfl, rfl⟩) (by omega) (by omega) he116 ⟨fun _ _ => ⟨A112, c113, rfl, h115⟩, rfl⟩))
 ·intro L118 w119 hi120
  obtain ⟨lo123, hh124, _, hx122, hr125, hr126, hr127, A39_128, c40_129, rfl, h130⟩ := hi120.dep 10 15 rfl rfl
  exact OpR.op' rfl (yl_call en98 rfl (oc hx122 (oc rfl oz)) (Cal.mono (c_s_l24Join (p_r.Vals.drop 1) ([44] : Str) (RdS.up h130 good_Str) (okL.drop o5 _) (okS.lit rfl)) fun _ _ h => h))
 ·intro fl137 fh138 L134 w135 hp136
  have hE139 := hp136.ex
  have hE139z := Ex.size hE139
  have hx140 := hp136.old 4 _ rfl rfl
  refine sd rfl (yl_build (cs := [.string (bs ((p_t.Name ++ ([47] : Str)) ++ (p_r.Vals.getD 0 d_Str))), .string (bs ((s_l24Join (p_r.Vals.drop 1) ([44] : Str)))), .bool (false)]) rfl (oc (hp136.nt 7 12 rfl rfl rfl) (oc (hp136.nt 11 16 rfl rfl rfl) oz)) (by kernel_rfl) (SeqR.u rfl rfl (yl_storeA (vs := [.string (bs ((p_t.Name ++ ([47] : Str)) ++ (p_r.Vals.getD 0 d_Str))), .string (bs ((s_l24Join (p_r.Vals.drop 1) ([44] : Str)))), .bool (false)]) ty57 rfl hx140 rfl rfl rfl rfl (Box.ex hB26 hE139) rfl ?_)))
  intro w144 hB145 hO146
  have hO146z := hO146.size
  refine dn (CW.sub (Sub.cons (d := 4) (id hx140) (Sub.nil _)) (CW.ret (rr rfl (.cons ⟨_, rfl, run_loadN ty57 (cs := [.string (bs ((p_t.Name ++ ([47] : Str)) ++ (p_r.Vals.getD 0 d_Str))), .string (bs ((s_l24Join (p_r.Vals.drop 1) ([44] : Str)))), .bool (false)]) rfl (hB145.cells (n := 3) rfl)⟩ .nil) ?_)))
  rw [show (s_l25Write p_t p_r) = ((⟨(p_t.Name ++ ([47] : Str)) ++ (p_r.Vals.getD 0 d_Str), (s_l24Join (p_r.Vals.drop 1) ([44] : Str)), false⟩ : DWrite)) by simp only [s_l25Write, cL]]
  exact ⟨rfl, (Below.only (Ex.trans q34 hE139) hO146 (by omega))⟩
theorem c_s_l25Read {A1 : Option Addr} {c1 : Nat} {A2 : Option Addr} {c2 : Nat} {w : World} (p_t : DTable) (p_w : DWrite) (h1 : RdS w (Iv 0 w.heap.size) (RF e_Str) 1 A1 p_t.Cols.length c1 p_t.Cols) (h2 : RdS w (Iv 0 w.heap.size) (RF e_Idx) 3 A2 p_t.Idxs.length c2 p_t.Idxs) (o3 : ok_Table p_t) (o4 : ok_Write p_w) : Cal Tryz.prog 69 #[.agg #[.string (bs (p_t.Name)), .slice A1 p_t.Cols.length c1, .slice A2 p_t.Idxs.length c2], .agg #[.string (bs (p_w.Key)), .string (bs (p_w.Val)), .bool (p_w.Gone)]] w fun v w' => ∃ A_1 c_1 lo_1 hi_1, v = .tuple #[.agg #[.slice A_1 (((s_l25Read p_t p_w).1.Vals).length) c_1], .bool ((s_l25Read p_t p_w).2)] ∧ OwnL w' lo_1 hi_1 9 1 (RF e_Str) A_1 (((s_l25Read p_t p_w).1.Vals).length) c_1 ((s_l25Read p_t p_w).1.Vals) ∧ ok_Row ((s_l25Read p_t p_w).1) ∧ (w.heap.size ≤ lo_1 ∧ lo_1 ≤ hi_1 ∧ hi_1 ≤ w'.heap.size) ∧ Ex w w' := by
 have hol5 : p_t.Name.length ≤ 1073741824 := o3.1
 have hol6 := o3.2.1.1
 have hol7 := o3.2.2.1
 have hol8 : p_w.Key.length ≤ 1073741824 := o4.1
 have hol9 : p_w.Val.length ≤ 1073741824 := o4.2
 refine Cal.of func69 rfl ntmps69 rfl (CW.seq (CW.region (sd rfl (yl_box rfl rfl rfl ?_))))
 intro b10 w11 hs12 hz13 hB14 hE15
 refine sd rfl (yl_box rfl rfl rfl ?_)
 intro b16 w17 hs18 hz19 hB20 hE21
 refine sd rfl (yl_alloc ty61 (cs := [.slice none 0 0]) rfl rfl ?_)
 intro b22 w23 hs24 hz25 hB26 hE27
 refine sd rfl (yl_assign rfl rfl (dn (CW.seq (CW.seq (CW.region (sd rfl (yl_fieldAddr fd57_0 rfl rfl ?_)))))))
 have q28 := Box.ex hB20 hE27
 refine sd rfl (yl_load1 ty9 rfl rfl ((q28.cell 0).trans rfl) (sd rfl (yl_slen un9 (a := p_w.Key) rfl rfl (sd rfl (yl_lss rfl rfl rfl (dn (bcD (q := (p_w.Key.length : Int) < 3) (fun hb29 hb29p => ?_) (fun hb29 hb29p => ?_))))))))
 ·refine CW.cond_t rfl hb29 (CW.seq (CW.region (sd rfl (yl_build (cs := [.slice none 0 0]) rfl opvs_nil (by kernel_rfl) (SeqR.u rfl rfl (yl_storeA (vs := [.slice none 0 0]) ty61 rfl rfl rfl rfl rfl rfl hB26 rfl ?_))))))
  intro w30 hB31 hO32
  have hO32z := hO32.size
  refine sd rfl (yl_assign rfl rfl (dn (CW.ret (tr (rr rfl (.cons ⟨_, rfl, run_loadN ty61 (cs := [.slice none 0 0]) rfl (hB31.cells (n := 1) rfl)⟩ (.cons rfl .nil)) ?_)))))
  rw [show (s_l25Read p_t p_w) = (((⟨[]⟩ : DRow), false)) by simp only [s_l25Read, hb29, cL]]
  exact ⟨none, 0, w30.heap.size, w30.heap.size, rfl, (OwnL.nil _ _ _ _ _ _), (okL.nil _), (by omega), (Below.only (Ex.trans (Ex.trans (Ex.trans (Ex.refl w) hE15) hE21) hE27) hO32 (by omega))⟩
 ·refine CW.cond_f rfl hb29 (CW.skip (tn (CW.seq ?_)))
  have hrf49 := rf_l1Split p_w.Val 44
  refine CW.drawsG 10 (fun _ _ => False) (fun _ _ _ => False) (vgetG [DetG (.pointer (some ⟨b16, 0 + 0, none⟩)), DetG (.string (bs (p_w.Key))), DetG (.string (bs ((p_w.Key.drop 2)))), fun G v wq => ∃ A38, v = .slice A38 1 1 ∧ (G.dn 7 = false → OwnL wq (G.fl 3) (G.fh 3) 9 1 (RF e_Str) A38 1 1 ([(p_w.Key.drop 2)] : List Str)), DetG (.pointer (some ⟨b16, 0 + 1, none⟩)), DetG (.string (bs (p_w.Val))), fun G v wq => ∃ A42 c42 lo42 hi42, v = .slice A42 ((s_l1Split p_w.Val 44).length) c42 ∧ OwnL wq lo42 hi42 9 1 (RF e_Str) A42 ((s_l1Split p_w.Val 44).length) c42 (s_l1Split p_w.Val 44) ∧ (okL okS) (s_l1Split p_w.Val 44) ∧ ((G.fl 6) ≤ lo42 ∧ lo42 ≤ hi42 ∧ hi42 ≤ (G.fh 6)), fun G v wq => ∃ A44 c45, v = .slice A44 ((([(p_w.Key.drop 2)] : List Str) ++ (s_l1Split p_w.Val 44)).length) c45 ∧ OwnL wq (G.fl 7) (G.fh 7) 9 1 (RF e_Str) A44 ((([(p_w.Key.drop 2)] : List Str) ++ (s_l1Split p_w.Val 44)).length) c45 (([(p_w.Key.drop 2)] : List Str) ++ (s_l1Split p_w.Val 44)), fun G v wq => ∃ A44 c45, v = .agg #[.slice A44 ((([(p_w.Key.drop 2)] : List Str) ++ (s_l1Split p_w.Val 44)).length) c45] ∧ OwnL wq (G.fl 7) (G.fh 7) 9 1 (RF e_Str) A44 ((([(p_w.Key.drop 2)] : List Str) ++ (s_l1Split p_w.Val 44)).length) c45 (([(p_w.Key.drop 2)] : List Str) ++ (s_l1Split p_w.Val 44)), fun G v wq => v = .pointer (some ⟨(G.fl 9), 0, none⟩) ∧ Box wq (G.fl 9) 61 [.slice none 0 0] ∧ (G.fl 9) < (G.fh 9)]) Tryz.follows rfl rfl rfl rfl rfl rfl (fun _ _ _ _ _ h => h) (fun _ _ _ _ _ _ _ _ _ h => h.elim) (vgetG_kept ⟨(KeptG.det _), (KeptG.det _), (KeptG.det _), (by rintro i G v w w' K hn hh hj ⟨A38, hv, h0⟩ e; have d3 : G.dn 3 = true := hj; have u3 := Gh.ufl (lo := w.heap.size) (hi := w'.heap.size) d3 hn; have t3 := Gh.ufh (lo := w.heap.size) (hi := w'.heap.size) d3 hn; exact ⟨A38, hv, (by intro hd; simp only [u3, t3]; exact OwnL.chg good_Str (h0 (Gh.off hd).2) e (fun b hb hp => by exact hp.elim))⟩), (KeptG.det _), (KeptG.det _), (by rintro i G v w w' K hn hh hj ⟨A42, c42, lo42, hi42, hv, h0, h1, hr0⟩ e; have d6 : G.dn 6 = true := hj; have u6 := Gh.ufl (lo := w.heap.size) (hi := w'.heap.size) d6 hn; have t6 := Gh.ufh (lo := w.heap.size) (hi := w'.heap.size) d6 hn; exact ⟨A42, c42, lo42, hi42, hv, (by exact OwnL.chg good_Str h0 e (fun b hb hp => by exact hp.elim)), h1, (by simp only [u6, t6]; exact hr0)⟩), (by rintro i G v w w' K hn hh hj ⟨A44, c45, hv, h0⟩ e; have d7 : G.dn 7 = true := hj; have u7 := Gh.ufl (lo := w.heap.size) (hi := w'.heap.size) d7 hn; have t7 := Gh.ufh (lo := w.heap.size) (hi := w'.heap.size) d7 hn; exact ⟨A44, c45, hv, (by simp only [u7, t7]; exact OwnL.chg good_Str h0 e (fun b hb hp => by exact hp.elim))⟩), (by rintro i G v w w' K hn hh hj ⟨A44, c45, hv, h0⟩ e; have d7 : G.dn 7 = true := K.cl 8 7 hj rfl; have u7 := Gh.ufl (lo := w.heap.size) (hi := w'.heap.size) d7 hn; have t7 := Gh.ufh (lo := w.heap.size) (hi := w'.heap.size) d7 hn; exact ⟨A44, c45, hv, (by simp only [u7, t7]; exact OwnL.chg good_Str h0 e (fun b hb hp => by exact hp.elim))⟩), (by rintro i G v w w' K hn hh hj ⟨hv, h0, he0⟩ e; have d9 : G.dn 9 = true := hj; have u9 := Gh.ufl (lo := w.heap.size) (hi := w'.heap.size) d9 hn; have t9 := Gh.ufh (lo := w.heap.size) (hi := w'.heap.size) d9 hn; exact ⟨(by simp only [u9, t9]; exact hv), (by simp only [u9, t9]; exact Box.chg h0 e (fun hp => by exact hp.elim)), (by simp only [u9, t9]; exact he0)⟩), trivial⟩) ⟨?_, ?_, ?_, ?_, ?_, ?_, ?_, ?_, ?_, ?_, trivial⟩ ?_
  ·intro L51 w52 G50 hgk53
   have hE54 := hgk53.st.ex.ex (fun b h => h.elim (fun h => h.elim) (fun h => h))
   have hE54z := Ex.size hE54
   exact OpR.op' rfl (Yl.sameG (yl_fieldAddr fd57_0 rfl (hgk53.old 3 _ rfl rfl) kI))
  ·intro L57 w58 G56 hgk59
   have hE60 := hgk59.st.ex.ex (fun b h => h.elim (fun h => h.elim) (fun h => h))
   have hE60z := Ex.size hE60
   obtain ⟨_, hx61, rfl⟩ := hgk59.val 0 12 rfl rfl
   exact OpR.op' rfl (Yl.sameG (yl_load1 ty9 rfl hx61 (((Box.ex q28 hE60).cell 0).trans rfl) kI))
  ·intro L64 w65 G63 hgk66
   have hE67 := hgk66.st.ex.ex (fun b h => h.elim (fun h => h.elim) (fun h => h))
   have hE67z := Ex.size hE67
   obtain ⟨_, hx68, rfl⟩ := hgk66.val 1 13 rfl rfl
   exact OpR.op' rfl (Yl.sameG (yl_sslice_lo un9 (a := p_w.Key) (l := 2) rfl hx68 rfl (by omega) kI))
  ·intro L70 w71 G69 hgk72
   have hE73 := hgk72.st.ex.ex (fun b h => h.elim (fun h => h.elim) (fun h => h))
   have hE73z := Ex.size hE73
   obtain ⟨_, hx74, rfl⟩ := hgk72.val 2 14 rfl rfl
   refine OpR.op' rfl (yl_buildSlice (cs := [.string (bs ((p_w.Key.drop 2)))]) un22 ty9 (by decide) rfl (oc hx74 oz) (by kernel_rfl) ?_)
   intro b75 w76 hs77 hz78 hB79 hE80
   have hO81 : OwnL w76 b75 (b75 + 1) 9 1 (RF e_Str) (some ⟨b75, 0, none⟩) 1 1 ([(p_w.Key.drop 2)] : List Str) := OwnL.of_box (S := fun _ => False) hB79 (Nat.le_refl _) (Nat.lt_succ_self _) (EncL.cons (c := [.string (bs ((p_w.Key.drop 2)))]) rfl rfl EncL.nil) (Nat.le_of_ble_eq_true rfl) (fun h => h) (fun _ h => False.elim h)
   exact ⟨Chg.of_ex hE80, (some ⟨b75, 0, none⟩), rfl, fun _ => OwnL.more (lo' := w71.heap.size) (hi' := w76.heap.size) hO81 (by omega) (by omega)⟩
  ·intro L83 w84 G82 hgk85
   have hE86 := hgk85.st.ex.ex (fun b h => h.elim (fun h => h.elim) (fun h => h))
   have hE86z := Ex.size hE86
   exact OpR.op' rfl (Yl.sameG (yl_fieldAddr fd57_1 rfl (hgk85.old 3 _ rfl rfl) kI))
  ·intro L89 w90 G88 hgk91
   have hE92 := hgk91.st.ex.ex (fun b h => h.elim (fun h => h.elim) (fun h => h))
   have hE92z := Ex.size hE92
   obtain ⟨_, hx93, rfl⟩ := hgk91.val 4 16 rfl rfl
   exact OpR.op' rfl (Yl.sameG (yl_load1 ty9 rfl hx93 (((Box.ex q28 hE92).cell 1).trans rfl) kI))
  ·intro L96 w97 G95 hgk98
   have hE99 := hgk98.st.ex.ex (fun b h => h.elim (fun h => h.elim) (fun h => h))
   have hE99z := Ex.size hE99
   obtain ⟨_, hx100, rfl⟩ := hgk98.val 5 17 rfl rfl
   refine OpR.op' rfl (yl_call en86 rfl (oc hx100 (oc rfl oz)) (Cal.mono (c_s_l1Split p_w.Val 44 o4.2) ?_))
   rintro v104 w101 ⟨A102, c102, lo102, hi102, rfl, h102, ho103, hrn106, hE105⟩
   exact ⟨Chg.of_ex hE105, A102, c102, lo102, hi102, rfl, h102, ho103, hrn106⟩
  ·intro L108 w109 G107 hgk110
   have hE111 := hgk110.st.ex.ex (fun b h => h.elim (fun h => h.elim) (fun h => h))
   have hE111z := Ex.size hE111
   obtain ⟨_, hx112, A38_113, rfl, h114⟩ := hgk110.val 3 15 rfl rfl
   have h114 := h114 hgk110.new
   obtain ⟨_, hx115, A42_116, c42_117, lo42_118, hi42_119, rfl, h120, h121, hrn122⟩ := hgk110.val 6 18 rfl rfl
   have hr123 := hgk110.st.rng 3 (hgk110.has 3 rfl)
   have hr124 := hgk110.st.rng 6 (hgk110.has 6 rfl)
   have hsp125 := hgk110.st.sep 3 6 (hgk110.has 3 rfl) (hgk110.has 6 rfl) rfl
   have hol126 : (s_l1Split p_w.Val 44).length ≤ 2147483648 := h121.1
   refine OpR.op' rfl (yl_appendF (lo := w109.heap.size) (xs := ([(p_w.Key.drop 2)] : List Str)) (ys := (s_l1Split p_w.Val 44)) good_Str un22 ty9 rfl (Nat.le_of_ble_eq_true rfl) rfl hx112 hx115 (by first | omega | (simp only [List.length_append, List.length_cons, List.length_nil, List.length_take, List.length_drop, List.length_replicate, List.length_set, toS_length]; omega)) (OwnL.rd good_Str h114) (OwnL.rd good_Str h120) (by first | omega | (simp only [List.length_append, List.length_cons, List.length_nil, List.length_take, List.length_drop, List.length_replicate, List.length_set, toS_length]; omega)) (by first | omega | (simp only [List.length_append, List.length_cons, List.length_nil, List.length_take, List.length_drop, List.length_replicate, List.length_set, toS_length]; omega)) (by first | omega | (simp only [List.length_append, List.length_cons, List.length_nil, List.length_take, List.length_drop, List.length_replicate, List.length_set, toS_length]; omega)) (Nat.le_refl _) (fun _ _ h => h) (fun _ _ h => h) ?_)
   intro A129 c130 w131 hO132 hE133 hrg134
   have hE133z := hE133.size
   exact ⟨Chg.of_ex hE133, A129, c130, rfl, OwnL.more (lo' := w109.heap.size) (hi' := w131.heap.size) hO132 (by omega) (by omega)⟩
  ·intro L136 w137 G135 hgk138
   have hE139 := hgk138.st.ex.ex (fun b h => h.elim (fun h => h.elim) (fun h => h))
   have hE139z := Ex.size hE139
   obtain ⟨_, hx140, A44_141, c45_142, rfl, h143⟩ := hgk138.val 7 19 rfl rfl
   have hr144 := hgk138.st.rng 7 (hgk138.has 7 rfl)
   exact OpR.op' rfl (Yl.sameG (yl_build (cs := [.slice A44_141 ((([(p_w.Key.drop 2)] : List Str) ++ (s_l1Split p_w.Val 44)).length) c45_142]) rfl (oc hx140 oz) (by kernel_rfl) ⟨fun _ _ => ⟨A44_141, c45_142, rfl, (OwnL.more (lo' := (G135.fl 7)) (hi' := (G135.fh 7)) h143 (by omega) (by omega))⟩, rfl⟩))
  ·intro L146 w147 G145 hgk148
   have hE149 := hgk148.st.ex.ex (fun b h => h.elim (fun h => h.elim) (fun h => h))
   have hE149z := Ex.size hE149
   refine OpR.op' rfl (yl_alloc ty61 (cs := [.slice none 0 0]) rfl rfl ?_)
   intro b150 w151 hs152 hz153 hB154 hE155
   subst hs152
   exact ⟨Chg.of_ex hE155, rfl, hB154, by rw [Gh.sfl, Gh.sfh]; omega⟩
  ·intro G156 L157 w158 hgp159
   have hE160 := hgp159.st.ex.ex (fun b h => h.elim (fun h => h.elim) (fun h => h))
   have hE160z := Ex.size hE160
   obtain ⟨_, hx164, A42_165, c42_166, lo42_167, hi42_168, rfl, h169, h170, hrn171⟩ := hgp159.val 6 18 rfl rfl
   obtain ⟨_, hx172, A44_173, c45_174, rfl, h175⟩ := hgp159.val 7 19 rfl rfl
   obtain ⟨_, hx176, A44_177, c45_178, rfl, h179⟩ := hgp159.val 8 20 rfl rfl
   obtain ⟨_, hx180, rfl, h181, he182⟩ := hgp159.val 9 6 rfl rfl
   have hr183 := hgp159.st.rng 6 (hgp159.has 6 rfl)
   have hr184 := hgp159.st.rng 7 (hgp159.has 7 rfl)
   have hr185 := hgp159.st.rng 8 (hgp159.has 8 rfl)
   have hr186 := hgp159.st.rng 9 (hgp159.has 9 rfl)
   have hsp187 := hgp159.st.ord 7 6 (hgp159.has 7 rfl) rfl
   have hsp188 := hgp159.st.ord 8 6 (hgp159.has 8 rfl) rfl
   have hsp189 := hgp159.st.sep 6 9 (hgp159.has 6 rfl) (hgp159.has 9 rfl) rfl
   have hsp190 := hgp159.st.ord 8 7 (hgp159.has 8 rfl) rfl
   have hsp191 := hgp159.st.sep 7 9 (hgp159.has 7 rfl) (hgp159.has 9 rfl) rfl
   have hsp192 := hgp159.st.sep 8 9 (hgp159.has 8 rfl) (hgp159.has 9 rfl) rfl
   refine SeqR.u rfl rfl (yl_store (vs := [.slice A44_177 ((([(p_w.Key.drop 2)] : List Str) ++ (s_l1Split p_w.Val 44)).length) c45_178]) ty61 rfl hx180 hx176 rfl rfl rfl h181 (Nat.le_of_ble_eq_true rfl) ?_)
   intro w193 hB194 hO195
   have hB194 : Box w193 (G156.fl 9) 61 [.slice A44_177 ((([(p_w.Key.drop 2)] : List Str) ++ (s_l1Split p_w.Val 44)).length) c45_178] := hB194
   have hO195z := hO195.size
   refine dn (CW.sub (Sub.cons (d := 2) (hgp159.old 2 _ rfl rfl) (Sub.cons (d := 3) (hgp159.old 3 _ rfl rfl) (Sub.cons (d := 4) (hgp159.old 4 _ rfl rfl) (Sub.cons (d := 6) hx180 (Sub.nil _))))) (CW.seq ?_))
   have hol209 : (s_l1Split p_w.Val 44).length ≤ 2147483648 := h170.1
   refine bcase (s_l25Good p_t (⟨(([(p_w.Key.drop 2)] : List Str) ++ (s_l1Split p_w.Val 44))⟩ : DRow)) (fun hb211 => ?_) (fun hb211 => ?_)
   ·obtain ⟨hb211p0, hb211p1⟩ := f_s_l25Good hb211
    have q215 := Box.only (Box.ex (Box.ex (Box.ex hB14 hE21) hE27) hE160) hO195 (by omega)
    have q220 := Below.only (Ex.trans (Ex.trans (Ex.trans (Ex.trans (Ex.refl w) hE15) hE21) hE27) hE160) hO195 (by omega)
    have q224 := OwnL.only good_Str h179 hO195 (by omega)
    have hol225 : (s_l1Split p_w.Val 44).length ≤ 2147483648 := h170.1
    have hol228 : (s_l1Split p_w.Val 44).length ≤ 2147483648 := h170.1
    have q231 := Box.only (Box.ex q28 hE160) hO195 (by omega)
    refine CW.drawsG 13 (fun G b => G.dn 11 = true ∧ InR [(b22, b22 + 1)] b) (fun i G b => (i = 11 ∧ b22 ≤ b ∧ b < b22 + 1)) (vgetG [DetG (.agg #[.slice A44_177 ((([(p_w.Key.drop 2)] : List Str) ++ (s_l1Split p_w.Val 44)).length) c45_178]), DetG (.agg #[.string (bs (p_t.Name)), .slice A1 p_t.Cols.length c1, .slice A2 p_t.Idxs.length c2]), DetG (.agg #[.slice A44_177 ((([(p_w.Key.drop 2)] : List Str) ++ (s_l1Split p_w.Val 44)).length) c45_178]), DetG (.bool ((s_l25Good p_t (⟨(([(p_w.Key.drop 2)] : List Str) ++ (s_l1Split p_w.Val 44))⟩ : DRow)))), DetG (.bool ((s_l25Good p_t (⟨(([(p_w.Key.drop 2)] : List Str) ++ (s_l1Split p_w.Val 44))⟩ : DRow)))), DetG (.agg #[.string (bs (p_t.Name)), .slice A1 p_t.Cols.length c1, .slice A2 p_t.Idxs.length c2]), DetG (.agg #[.slice A44_177 ((([(p_w.Key.drop 2)] : List Str) ++ (s_l1Split p_w.Val 44)).length) c45_178]), DetG (.agg #[.string (bs ((s_l25Write p_t (⟨(([(p_w.Key.drop 2)] : List Str) ++ (s_l1Split p_w.Val 44))⟩ : DRow)).Key)), .string (bs ((s_l25Write p_t (⟨(([(p_w.Key.drop 2)] : List Str) ++ (s_l1Split p_w.Val 44))⟩ : DRow)).Val)), .bool ((s_l25Write p_t (⟨(([(p_w.Key.drop 2)] : List Str) ++ (s_l1Split p_w.Val 44))⟩ : DRow)).Gone)]), DetG (.agg #[.string (bs (p_w.Key)), .string (bs (p_w.Val)), .bool (p_w.Gone)]), DetG (.bool (((((s_l25Write p_t (⟨(([(p_w.Key.drop 2)] : List Str) ++ (s_l1Split p_w.Val 44))⟩ : DRow)).Key) == p_w.Key) && ((((s_l25Write p_t (⟨(([(p_w.Key.drop 2)] : List Str) ++ (s_l1Split p_w.Val 44))⟩ : DRow)).Val) == p_w.Val) && (((s_l25Write p_t (⟨(([(p_w.Key.drop 2)] : List Str) ++ (s_l1Split p_w.Val 44))⟩ : DRow)).Gone) == p_w.Gone))))), DetG (.bool (((((s_l25Write p_t (⟨(([(p_w.Key.drop 2)] : List Str) ++ (s_l1Split p_w.Val 44))⟩ : DRow)).Key) == p_w.Key) && ((((s_l25Write p_t (⟨(([(p_w.Key.drop 2)] : List Str) ++ (s_l1Split p_w.Val 44))⟩ : DRow)).Val) == p_w.Val) && (((s_l25Write p_t (⟨(([(p_w.Key.drop 2)] : List Str) ++ (s_l1Split p_w.Val 44))⟩ : DRow)).Gone) == p_w.Gone))))), fun G v wq => Box wq b22 61 [.slice A44_177 ((([(p_w.Key.drop 2)] : List Str) ++ (s_l1Split p_w.Val 44)).length) c45_178], DetG (.bool (((((s_l25Write p_t (⟨(([(p_w.Key.drop 2)] : List Str) ++ (s_l1Split p_w.Val 44))⟩ : DRow)).Key) == p_w.Key) && ((((s_l25Write p_t (⟨(([(p_w.Key.drop 2)] : List Str) ++ (s_l1Split p_w.Val 44))⟩ : DRow)).Val) == p_w.Val) && (((s_l25Write p_t (⟨(([(p_w.Key.drop 2)] : List Str) ++ (s_l1Split p_w.Val 44))⟩ : DRow)).Gone) == p_w.Gone)))))]) Tryz.follows rfl rfl rfl rfl rfl rfl (fun _ _ _ _ _ h => ⟨Gh.udn h.1, h.2⟩) (fun i G w lo hi b K hn hh hp => by exact (match hp with | ⟨e, q1, q2⟩ => by subst e; exact .inl ⟨Gh.sdn, .inl ⟨q1, q2⟩⟩)) (vgetG_kept ⟨(KeptG.det _), (KeptG.det _), (KeptG.det _), (KeptG.det _), (KeptG.det _), (KeptG.det _), (KeptG.det _), (KeptG.det _), (KeptG.det _), (KeptG.det _), (KeptG.det _), (by rintro i G v w w' K hn hh hj h0 e; exact (by exact Box.chg h0 e (fun hp => by obtain ⟨rfl, q1, q2⟩ := hp; rw [hj] at hn; cases hn))), (KeptG.det _), trivial⟩) ⟨?_, ?_, ?_, ?_, ?_, ?_, ?_, ?_, ?_, ?_, ?_, ?_, ?_, trivial⟩ ?_
    ·intro L234 w235 G233 hgk236
     have hE237 := hgk236.st.ex.ex (fun b h => h.elim (fun h => hgk236.no rfl h) (fun h => h))
     have hE237z := Ex.size hE237
     exact OpR.op' rfl (Yl.sameG (yl_loadN ty61 rfl (hgk236.old 6 _ rfl rfl) ((Box.ex hB194 hE237).cells (n := 1) rfl) rfl kI))
    ·intro L241 w242 G240 hgk243
     have hE244 := hgk243.st.ex.ex (fun b h => h.elim (fun h => hgk243.no rfl h) (fun h => h))
     have hE244z := Ex.size hE244
     exact OpR.op' rfl (Yl.sameG (yl_loadN ty34 rfl (hgk243.old 2 _ rfl rfl) ((Box.ex q215 hE244).cells (n := 3) rfl) rfl kI))
    ·intro L248 w249 G247 hgk250
     have hE251 := hgk250.st.ex.ex (fun b h => h.elim (fun h => hgk250.no rfl h) (fun h => h))
     have hE251z := Ex.size hE251
     exact OpR.op' rfl (Yl.sameG (yl_loadN ty61 rfl (hgk250.old 6 _ rfl rfl) ((Box.ex hB194 hE251).cells (n := 1) rfl) rfl kI))
    ·intro L255 w256 G254 hgk257
     have hE258 := hgk257.st.ex.ex (fun b h => h.elim (fun h => hgk257.no rfl h) (fun h => h))
     have hE258z := Ex.size hE258
     obtain ⟨_, hx259, rfl⟩ := hgk257.val 1 22 rfl rfl
     obtain ⟨_, hx260, rfl⟩ := hgk257.val 2 23 rfl rfl
     have q261 := Ex.trans q220 hE258
     have hol266 : (s_l1Split p_w.Val 44).length ≤ 2147483648 := h170.1
     refine OpR.op' rfl (yl_call en87 rfl (oc hx259 (oc hx260 oz)) (Cal.mono (c_s_l25Good p_t (⟨(([(p_w.Key.drop 2)] : List Str) ++ (s_l1Split p_w.Val 44))⟩ : DRow) (RdS.up (RdS.ex good_Str h1 q261) good_Str) (RdS.up (RdS.ex good_Idx h2 q261) good_Idx) (RdS.up (OwnL.rd good_Str (OwnL.ex good_Str q224 hE258)) good_Str) o3 (okL.mk (xs := (([(p_w.Key.drop 2)] : List Str) ++ (s_l1Split p_w.Val 44))) (by first | omega | (simp only [List.length_append, List.length_cons, List.length_nil, List.length_take, List.length_drop, List.length_replicate, List.length_set, toS_length]; omega)) (okE.append ((okL.mk (Nat.le_of_ble_eq_true rfl) (okE.cons (okS.drop o4.1 _) okE.nil))).2 (h170).2))) ?_))
     rintro v268 w267 ⟨rfl, hE269⟩
     exact ⟨Chg.of_ex hE269, rfl⟩
    ·intro L271 w272 G270 hgk273
     have hE274 := hgk273.st.ex.ex (fun b h => h.elim (fun h => hgk273.no rfl h) (fun h => h))
     have hE274z := Ex.size hE274
     obtain ⟨_, hx275, rfl⟩ := hgk273.val 3 24 rfl rfl
     exact OpR.op' rfl (Yl.sameG (yl_move rfl hx275 kI))
    ·intro L277 w278 G276 hgk279
     have hE280 := hgk279.st.ex.ex (fun b h => h.elim (fun h => hgk279.no rfl h) (fun h => h))
     have hE280z := Ex.size hE280
     obtain ⟨_, hx281, rfl⟩ := hgk279.val 4 25 rfl rfl
     exact OpR.want rfl rfl hx281 hb211 (Yl.sameG (yl_loadN ty34 rfl (hgk279.old 2 _ rfl rfl) ((Box.ex q215 hE280).cells (n := 3) rfl) rfl kI))
    ·intro L285 w286 G284 hgk287
     have hE288 := hgk287.st.ex.ex (fun b h => h.elim (fun h => hgk287.no rfl h) (fun h => h))
     have hE288z := Ex.size hE288
     obtain ⟨_, hx289, rfl⟩ := hgk287.val 4 25 rfl rfl
     exact OpR.want rfl rfl hx289 hb211 (Yl.sameG (yl_loadN ty61 rfl (hgk287.old 6 _ rfl rfl) ((Box.ex hB194 hE288).cells (n := 1) rfl) rfl kI))
    ·intro L293 w294 G292 hgk295
     have hE296 := hgk295.st.ex.ex (fun b h => h.elim (fun h => hgk295.no rfl h) (fun h => h))
     have hE296z := Ex.size hE296
     obtain ⟨_, hx297, rfl⟩ := hgk295.val 4 25 rfl rfl
     obtain ⟨_, hx298, rfl⟩ := hgk295.val 5 26 rfl rfl
     obtain ⟨_, hx299, rfl⟩ := hgk295.val 6 27 rfl rfl
     have q300 := Ex.trans q220 hE296
     have hol305 : (s_l1Split p_w.Val 44).length ≤ 2147483648 := h170.1
     refine OpR.want rfl rfl hx297 hb211 (yl_call en88 rfl (oc hx298 (oc hx299 oz)) (Cal.mono (c_s_l25Write p_t (⟨(([(p_w.Key.drop 2)] : List Str) ++ (s_l1Split p_w.Val 44))⟩ : DRow) (RdS.up (RdS.ex good_Str h1 q300) good_Str) (RdS.up (RdS.ex good_Idx h2 q300) good_Idx) (RdS.up (OwnL.rd good_Str (OwnL.ex good_Str q224 hE296)) good_Str) o3 (okL.mk (xs := (([(p_w.Key.drop 2)] : List Str) ++ (s_l1Split p_w.Val 44))) (by first | omega | (simp only [List.length_append, List.length_cons, List.length_nil, List.length_take, List.length_drop, List.length_replicate, List.length_set, toS_length]; omega)) (okE.append ((okL.mk (Nat.le_of_ble_eq_true rfl) (okE.cons (okS.drop o4.1 _) okE.nil))).2 (h170).2)) (by first | omega | assumption | (simp only [wI] at *; omega) | (simp only [List.length_append, List.length_cons, List.length_nil]; omega))) ?_))
     rintro v307 w306 ⟨rfl, hE308⟩
     exact ⟨Chg.of_ex hE308, rfl⟩
    ·intro L310 w311 G309 hgk312
     have hE313 : Chg (fun b => InR [(b22, b22 + 1)] b ∨ w193.heap.size ≤ b) w193 w311 := hgk312.st.ex.imp (fun b _ h => h.imp (fun h => h.2) (fun h => h))
     have hE313z := Chg.size hE313
     obtain ⟨_, hx314, rfl⟩ := hgk312.val 4 25 rfl rfl
     exact OpR.want rfl rfl hx314 hb211 (Yl.sameG (yl_loadN ty57 rfl (hgk312.old 3 _ rfl rfl) ((Box.chg q231 hE313 (by have := Box.lt q231; simp only [InR, or_false]; omega)).cells (n := 3) rfl) rfl kI))
    ·intro L318 w319 G317 hgk320
     have hE321 : Chg (fun b => InR [(b22, b22 + 1)] b ∨ w193.heap.size ≤ b) w193 w319 := hgk320.st.ex.imp (fun b _ h => h.imp (fun h => h.2) (fun h => h))
     have hE321z := Chg.size hE321
     obtain ⟨_, hx322, rfl⟩ := hgk320.val 4 25 rfl rfl
     obtain ⟨_, hx323, rfl⟩ := hgk320.val 7 28 rfl rfl
     obtain ⟨_, hx324, rfl⟩ := hgk320.val 8 29 rfl rfl
     exact OpR.want rfl rfl hx322 hb211 (Yl.sameG (yl_aeql (xs := [.string (bs ((s_l25Write p_t (⟨(([(p_w.Key.drop 2)] : List Str) ++ (s_l1Split p_w.Val 44))⟩ : DRow)).Key)), .string (bs ((s_l25Write p_t (⟨(([(p_w.Key.drop 2)] : List Str) ++ (s_l1Split p_w.Val 44))⟩ : DRow)).Val)), .bool ((s_l25Write p_t (⟨(([(p_w.Key.drop 2)] : List Str) ++ (s_l1Split p_w.Val 44))⟩ : DRow)).Gone)]) (ys := [.string (bs (p_w.Key)), .string (bs (p_w.Val)), .bool (p_w.Gone)]) Tryz.ae57 rfl hx323 hx324 kI))
    ·intro L326 w327 G325 hgk328
     have hE329 : Chg (fun b => InR [(b22, b22 + 1)] b ∨ w193.heap.size ≤ b) w193 w327 := hgk328.st.ex.imp (fun b _ h => h.imp (fun h => h.2) (fun h => h))
     have hE329z := Chg.size hE329
     obtain ⟨_, hx330, rfl⟩ := hgk328.val 9 30 rfl rfl
     obtain ⟨_, hx331, rfl⟩ := hgk328.val 4 25 rfl rfl
     exact OpR.op' rfl (Yl.sameG (yl_pick_t rfl hx331 hb211 hx330 kI))
    ·intro L333 w334 G332 hgk335
     have hE336 := hgk335.st.ex.ex (fun b h => h.elim (fun h => hgk335.nw h) (fun h => h))
     have hE336z := Ex.size hE336
     obtain ⟨_, hx338, rfl⟩ := hgk335.val 0 21 rfl rfl
     refine OpR.op' rfl (yl_store (vs := [.slice A44_177 ((([(p_w.Key.drop 2)] : List Str) ++ (s_l1Split p_w.Val 44)).length) c45_178]) ty61 rfl (hgk335.old 4 _ rfl rfl) hx338 rfl rfl rfl (Box.ex (Box.only (Box.ex hB26 hE160) hO195 (by omega)) hE336) (Nat.le_of_ble_eq_true rfl) ?_)
     intro w342 hB343 hO344
     have hO344z := hO344.size
     exact ⟨Chg.of_only hO344 (⟨rfl, Nat.le_refl _, by omega⟩), hB343⟩
    ·intro L346 w347 G345 hgk348
     have hE349 : Chg (fun b => InR [(b22, b22 + 1)] b ∨ w193.heap.size ≤ b) w193 w347 := hgk348.st.ex.imp (fun b _ h => h.imp (fun h => h.2) (fun h => h))
     have hE349z := Chg.size hE349
     obtain ⟨_, hx350, rfl⟩ := hgk348.val 10 31 rfl rfl
     exact OpR.op' rfl (Yl.sameG (yl_assign rfl hx350 kI))
    ·intro G351 L352 w353 hgp354
     have hE355 : Chg (fun b => InR [(b22, b22 + 1)] b ∨ w193.heap.size ≤ b) w193 w353 := hgp354.st.ex.imp (fun b _ h => h.imp (fun h => h.2) (fun h => h))
     have hE355z := Chg.size hE355
     obtain ⟨_, h357⟩ := hgp354.fact 11 rfl
     obtain ⟨_, hx358, rfl⟩ := hgp354.val 12 5 rfl rfl
     have hr359 := hgp354.st.rng 11 (hgp354.has 11 rfl)
     refine dn (CW.sub (Sub.cons (d := 4) (hgp354.old 4 _ rfl rfl) (Sub.cons (d := 5) hx358 (Sub.nil _))) (CW.ret (rr rfl (.cons ⟨_, rfl, run_loadN ty61 (cs := [.slice A44_177 ((([(p_w.Key.drop 2)] : List Str) ++ (s_l1Split p_w.Val 44)).length) c45_178]) rfl (h357.cells (n := 1) rfl)⟩ (.cons rfl .nil)) ?_)))
     have hol362 : (s_l1Split p_w.Val 44).length ≤ 2147483648 := h170.1
     rw [show (s_l25Read p_t p_w) = (((⟨(([(p_w.Key.drop 2)] : List Str) ++ (s_l1Split p_w.Val 44))⟩ : DRow), ((((s_l25Write p_t (⟨(([(p_w.Key.drop 2)] : List Str) ++ (s_l1Split p_w.Val 44))⟩ : DRow)).Key) == p_w.Key) && ((((s_l25Write p_t (⟨(([(p_w.Key.drop 2)] : List Str) ++ (s_l1Split p_w.Val 44))⟩ : DRow)).Val) == p_w.Val) && (((s_l25Write p_t (⟨(([(p_w.Key.drop 2)] : List Str) ++ (s_l1Split p_w.Val 44))⟩ : DRow)).Gone) == p_w.Gone))))) by simp only [s_l25Read, hb29, hb211, cL]]
     exact ⟨A44_177, c45_178, (G156.fl 7), (G156.fh 7), rfl, (OwnL.chg good_Str q224 hE355 (fun k hl hk => by simp only [InR, or_false] at hk; omega)), (okL.mk (xs := (([(p_w.Key.drop 2)] : List Str) ++ (s_l1Split p_w.Val 44))) (by first | omega | (simp only [List.length_append, List.length_cons, List.length_nil, List.length_take, List.length_drop, List.length_replicate, List.length_set, toS_length]; omega)) (okE.append ((okL.mk (Nat.le_of_ble_eq_true rfl) (okE.cons (okS.drop o4.1 _) okE.nil))).2 (h170).2)), (by omega), (Ex.chg q220 hE355 kR)⟩
   ·have q372 := Below.only (Ex.trans (Ex.trans (Ex.trans (Ex.trans (Ex.refl w) hE15) hE21) hE27) hE160) hO195 (by omega)
    have q376 := OwnL.only good_Str h179 hO195 (by omega)
    have hol377 : (s_l1Split p_w.Val 44).length ≤ 2147483648 := h170.1
    refine CW.drawsG 13 (fun G b => G.dn 11 = true ∧ InR [(b22, b22 + 1)] b) (fun i G b => (i = 11 ∧ b22 ≤ b ∧ b < b22 + 1)) (vgetG [DetG (.agg #[.slice A44_177 ((([(p_w.Key.drop 2)] : List Str) ++ (s_l1Split p_w.Val 44)).length) c45_178]), DetG (.agg #[.string (bs (p_t.Name)), .slice A1 p_t.Cols.length c1, .slice A2 p_t.Idxs.length c2]), DetG (.agg #[.slice A44_177 ((([(p_w.Key.drop 2)] : List Str) ++ (s_l1Split p_w.Val 44)).length) c45_178]), DetG (.bool ((s_l25Good p_t (⟨(([(p_w.Key.drop 2)] : List Str) ++ (s_l1Split p_w.Val 44))⟩ : DRow)))), DetG (.bool ((s_l25Good p_t (⟨(([(p_w.Key.drop 2)] : List Str) ++ (s_l1Split p_w.Val 44))⟩ : DRow)))), DetG (undef), DetG (undef), DetG (undef), DetG (undef), DetG (undef), DetG (.bool (false)), fun G v wq => Box wq b22 61 [.slice A44_177 ((([(p_w.Key.drop 2)] : List Str) ++ (s_l1Split p_w.Val 44)).length) c45_178], DetG (.bool (false))]) Tryz.follows rfl rfl rfl rfl rfl rfl (fun _ _ _ _ _ h => ⟨Gh.udn h.1, h.2⟩) (fun i G w lo hi b K hn hh hp => by exact (match hp with | ⟨e, q1, q2⟩ => by subst e; exact .inl ⟨Gh.sdn, .inl ⟨q1, q2⟩⟩)) (vgetG_kept ⟨(KeptG.det _), (KeptG.det _), (KeptG.det _), (KeptG.det _), (KeptG.det _), (KeptG.det _), (KeptG.det _), (KeptG.det _), (KeptG.det _), (KeptG.det _), (KeptG.det _), (by rintro i G v w w' K hn hh hj h0 e; exact (by exact Box.chg h0 e (fun hp => by obtain ⟨rfl, q1, q2⟩ := hp; rw [hj] at hn; cases hn))), (KeptG.det _), trivial⟩) ⟨?_, ?_, ?_, ?_, ?_, ?_, ?_, ?_, ?_, ?_, ?_, ?_, ?_, trivial⟩ ?_
    ·intro L381 w382 G380 hgk383
     have hE384 := hgk383.st.ex.ex (fun b h => h.elim (fun h => hgk383.no rfl h) (fun h => h))
     have hE384z := Ex.size hE384
     exact OpR.op' rfl (Yl.sameG (yl_loadN ty61 rfl (hgk383.old 6 _ rfl rfl) ((Box.ex hB194 hE384).cells (n := 1) rfl) rfl kI))
    ·intro L388 w389 G387 hgk390
     have hE391 := hgk390.st.ex.ex (fun b h => h.elim (fun h => hgk390.no rfl h) (fun h => h))
     have hE391z := Ex.size hE391
     exact OpR.op' rfl (Yl.sameG (yl_loadN ty34 rfl (hgk390.old 2 _ rfl rfl) ((Box.ex (Box.only (Box.ex (Box.ex (Box.ex hB14 hE21) hE27) hE160) hO195 (by omega)) hE391).cells (n := 3) rfl) rfl kI))
    ·intro L395 w396 G394 hgk397
     have hE398 := hgk397.st.ex.ex (fun b h => h.elim (fun h => hgk397.no rfl h) (fun h => h))
     have hE398z := Ex.size hE398
     exact OpR.op' rfl (Yl.sameG (yl_loadN ty61 rfl (hgk397.old 6 _ rfl rfl) ((Box.ex hB194 hE398).cells (n := 1) rfl) rfl kI))
    ·intro L402 w403 G401 hgk404
     have hE405 := hgk404.st.ex.ex (fun b h => h.elim (fun h => hgk404.no rfl h) (fun h => h))
     have hE405z := Ex.size hE405
     obtain ⟨_, hx406, rfl⟩ := hgk404.val 1 22 rfl rfl
     obtain ⟨_, hx407, rfl⟩ := hgk404.val 2 23 rfl rfl
     have q408 := Ex.trans q372 hE405
     have hol413 : (s_l1Split p_w.Val 44).length ≤ 2147483648 := h170.1
     refine OpR.op' rfl (yl_call en87 rfl (oc hx406 (oc hx407 oz)) (Cal.mono (c_s_l25Good p_t (⟨(([(p_w.Key.drop 2)] : List Str) ++ (s_l1Split p_w.Val 44))⟩ : DRow) (RdS.up (RdS.ex good_Str h1 q408) good_Str) (RdS.up (RdS.ex good_Idx h2 q408) good_Idx) (RdS.up (OwnL.rd good_Str (OwnL.ex good_Str q376 hE405)) good_Str) o3 (okL.mk (xs := (([(p_w.Key.drop 2)] : List Str) ++ (s_l1Split p_w.Val 44))) (by first | omega | (simp only [List.length_append, List.length_cons, List.length_nil, List.length_take, List.length_drop, List.length_replicate, List.length_set, toS_length]; omega)) (okE.append ((okL.mk (Nat.le_of_ble_eq_true rfl) (okE.cons (okS.drop o4.1 _) okE.nil))).2 (h170).2))) ?_))
     rintro v415 w414 ⟨rfl, hE416⟩
     exact ⟨Chg.of_ex hE416, rfl⟩
    ·intro L418 w419 G417 hgk420
     have hE421 := hgk420.st.ex.ex (fun b h => h.elim (fun h => hgk420.no rfl h) (fun h => h))
     have hE421z := Ex.size hE421
     obtain ⟨_, hx422, rfl⟩ := hgk420.val 3 24 rfl rfl
     exact OpR.op' rfl (Yl.sameG (yl_move rfl hx422 kI))
    ·intro L424 w425 G423 hgk426
     have hE427 := hgk426.st.ex.ex (fun b h => h.elim (fun h => hgk426.no rfl h) (fun h => h))
     have hE427z := Ex.size hE427
     obtain ⟨_, hx428, rfl⟩ := hgk426.val 4 25 rfl rfl
     exact OpR.skip rfl rfl hx428 hb211 ⟨Chg.refl _ _, rfl⟩
    ·intro L430 w431 G429 hgk432
     have hE433 := hgk432.st.ex.ex (fun b h => h.elim (fun h => hgk432.no rfl h) (fun h => h))
     have hE433z := Ex.size hE433
     obtain ⟨_, hx434, rfl⟩ := hgk432.val 4 25 rfl rfl
     exact OpR.skip rfl rfl hx434 hb211 ⟨Chg.refl _ _, rfl⟩
    ·intro L436 w437 G435 hgk438
     have hE439 := hgk438.st.ex.ex (fun b h => h.elim (fun h => hgk438.no rfl h) (fun h => h))
     have hE439z := Ex.size hE439
     obtain ⟨_, hx440, rfl⟩ := hgk438.val 4 25 rfl rfl
     exact OpR.skip rfl rfl hx440 hb211 ⟨Chg.refl _ _, rfl⟩
    ·intro L442 w443 G441 hgk444
     have hE445 : Chg (fun b => InR [(b22, b22 + 1)] b ∨ w193.heap.size ≤ b) w193 w443 := hgk444.st.ex.imp (fun b _ h => h.imp (fun h => h.2) (fun h => h))
     have hE445z := Chg.size hE445
     obtain ⟨_, hx446, rfl⟩ := hgk444.val 4 25 rfl rfl
     exact OpR.skip rfl rfl hx446 hb211 ⟨Chg.refl _ _, rfl⟩
    ·intro L448 w449 G447 hgk450
     have hE451 : Chg (fun b => InR [(b22, b22 + 1)] b ∨ w193.heap.size ≤ b) w193 w449 := hgk450.st.ex.imp (fun b _ h => h.imp (fun h => h.2) (fun h => h))
     have hE451z := Chg.size hE451
     obtain ⟨_, hx452, rfl⟩ := hgk450.val 4 25 rfl rfl
     exact OpR.skip rfl rfl hx452 hb211 ⟨Chg.refl _ _, rfl⟩
    ·intro L454 w455 G453 hgk456
     have hE457 : Chg (fun b => InR [(b22, b22 + 1)] b ∨ w193.heap.size ≤ b) w193 w455 := hgk456.st.ex.imp (fun b _ h => h.imp (fun h => h.2) (fun h => h))
     have hE457z := Chg.size hE457
     obtain ⟨_, hx458, rfl⟩ := hgk456.val 9 30 rfl rfl
     obtain ⟨_, hx459, rfl⟩ := hgk456.val 4 25 rfl rfl
     exact OpR.op' rfl (Yl.sameG (yl_pick_f rfl hx459 hb211 rfl kI))
    ·intro L461 w462 G460 hgk463
     have hE464 := hgk463.st.ex.ex (fun b h => h.elim (fun h => hgk463.nw h) (fun h => h))
     have hE464z := Ex.size hE464
     obtain ⟨_, hx466, rfl⟩ := hgk463.val 0 21 rfl rfl
     refine OpR.op' rfl (yl_store (vs := [.slice A44_177 ((([(p_w.Key.drop 2)] : List Str) ++ (s_l1Split p_w.Val 44)).length) c45_178]) ty61 rfl (hgk463.old 4 _ rfl rfl) hx466 rfl rfl rfl (Box.ex (Box.only (Box.ex hB26 hE160) hO195 (by omega)) hE464) (Nat.le_of_ble_eq_true rfl) ?_)
     intro w470 hB471 hO472
     have hO472z := hO472.size
     exact ⟨Chg.of_only hO472 (⟨rfl, Nat.le_refl _, by omega⟩), hB471⟩
    ·intro L474 w475 G473 hgk476
     have hE477 : Chg (fun b => InR [(b22, b22 + 1)] b ∨ w193.heap.size ≤ b) w193 w475 := hgk476.st.ex.imp (fun b _ h => h.imp (fun h => h.2) (fun h => h))
     have hE477z := Chg.size hE477
     obtain ⟨_, hx478, rfl⟩ := hgk476.val 10 31 rfl rfl
     exact OpR.op' rfl (Yl.sameG (yl_assign rfl hx478 kI))
    ·intro G479 L480 w481 hgp482
     have hE483 : Chg (fun b => InR [(b22, b22 + 1)] b ∨ w193.heap.size ≤ b) w193 w481 := hgp482.st.ex.imp (fun b _ h => h.imp (fun h => h.2) (fun h => h))
     have hE483z := Chg.size hE483
     obtain ⟨_, h485⟩ := hgp482.fact 11 rfl
     obtain ⟨_, hx486, rfl⟩ := hgp482.val 12 5 rfl rfl
     have hr487 := hgp482.st.rng 11 (hgp482.has 11 rfl)
     refine dn (CW.sub (Sub.cons (d := 4) (hgp482.old 4 _ rfl rfl) (Sub.cons (d := 5) hx486 (Sub.nil _))) (CW.ret (rr rfl (.cons ⟨_, rfl, run_loadN ty61 (cs := [.slice A44_177 ((([(p_w.Key.drop 2)] : List Str) ++ (s_l1Split p_w.Val 44)).length) c45_178]) rfl (h485.cells (n := 1) rfl)⟩ (.cons rfl .nil)) ?_)))
     have hol490 : (s_l1Split p_w.Val 44).length ≤ 2147483648 := h170.1
     rw [show (s_l25Read p_t p_w) = (((⟨(([(p_w.Key.drop 2)] : List Str) ++ (s_l1Split p_w.Val 44))⟩ : DRow), false)) by simp only [s_l25Read, hb29, hb211, cL]]
     exact ⟨A44_177, c45_178, (G156.fl 7), (G156.fh 7), rfl, (OwnL.chg good_Str q376 hE483 (fun k hl hk => by simp only [InR, or_false] at hk; omega)), (okL.mk (xs := (([(p_w.Key.drop 2)] : List Str) ++ (s_l1Split p_w.Val 44))) (by first | omega | (simp only [List.length_append, List.length_cons, List.length_nil, List.length_take, List.length_drop, List.length_replicate, List.length_set, toS_length]; omega)) (okE.append ((okL.mk (Nat.le_of_ble_eq_true rfl) (okE.cons (okS.drop o4.1 _) okE.nil))).2 (h170).2)), (by omega), (Ex.chg q372 hE483 kR)⟩
theorem c_s_l25Rows {A1 : Option Addr} {c1 : Nat} {A2 : Option Addr} {c2 : Nat} {A4 : Option Addr} {c4 : Nat} {w : World} (p_t : DTable) (p_store : List DWrite) (h1 : RdS w (Iv 0 w.heap.size) (RF e_Str) 1 A1 p_t.Cols.length c1 p_t.Cols) (h2 : RdS w (Iv 0 w.heap.size) (RF e_Idx) 3 A2 p_t.Idxs.length c2 p_t.Idxs) (h4 : RdS w (Iv 0 w.heap.size) (RF e_Write) 3 A4 p_store.length c4 p_store) (o3 : ok_Table p_t) (o5 : (okL ok_Write) p_store) : Cal Tryz.prog 52 #[.agg #[.string (bs (p_t.Name)), .slice A1 p_t.Cols.length c1, .slice A2 p_t.Idxs.length c2], .slice A4 p_store.length c4] w fun v w' => ∃ A_1 c_1 lo_1 hi_1, v = .slice A_1 ((s_l25Rows p_t p_store).length) c_1 ∧ OwnD w' lo_1 hi_1 61 1 RO_Row A_1 ((s_l25Rows p_t p_store).length) c_1 (s_l25Rows p_t p_store) ∧ (okL ok_Row) (s_l25Rows p_t p_store) ∧ (w.heap.size ≤ lo_1 ∧ lo_1 ≤ hi_1 ∧ hi_1 ≤ w'.heap.size) ∧ Ex w w' := by
 have hol6 : p_t.Name.length ≤ 1073741824 := o3.1
 have hol7 := o3.2.1.1
 have hol8 := o3.2.2.1
 have hol9 := o5.1
 refine Cal.of func52 rfl ntmps52 rfl (CW.seq (CW.region (sd rfl (yl_box rfl rfl rfl ?_))))
 intro b10 w11 hs12 hz13 hB14 hE15
 refine sd rfl (yl_assign rfl rfl (dn (CW.seq (CW.region (sd rfl (yl_assign rfl rfl (dn (CW.seq ?_))))))))
 refine CW.seq (CW.region (sd rfl (yl_move rfl rfl (sd rfl (yl_len un36 rfl rfl (sd rfl (yl_move rfl rfl (dn (CW.block (CW.loop (fun m102 L103 w104 => ∃ (k16 : Nat) (x98 : List DRow) (A99 : Option Addr) (c100 : Nat) (u101 : Nat), m102 = p_store.length - k16 ∧ k16 ≤ p_store.length ∧ w11.heap.size ≤ w104.heap.size ∧ Sub [(2, .pointer (some ⟨b10, 0, none⟩)), (5, .slice A99 x98.length c100), (10, .slice A4 p_store.length c4), (11, .int .i64 ((p_store.length : Int))), (12, .int .i64 ((k16 : Int)))] L103 ∧ Box w104 b10 34 [.string (bs (p_t.Name)), .slice A1 p_t.Cols.length c1, .slice A2 p_t.Idxs.length c2] ∧ OwnD w104 w11.heap.size u101 61 1 RO_Row A99 x98.length c100 x98 ∧ Ex w w104 ∧ (w11.heap.size ≤ u101 ∧ u101 ≤ w104.heap.size) ∧ x98.length ≤ 0 + 1 * (k16 - 0) ∧ (∀ y ∈ x98, ok_Row y) ∧ loopM (B_s_l25Rows_0 p_t p_store) (p_store.length - k16) k16 (x98) = loopM (B_s_l25Rows_0 p_t p_store) (p_store.length - 0) 0 (([] : List DRow))) (p_store.length - 0) ?_ ?_))))))))))
 ·exact ⟨0, ([] : List DRow), none, 0, w11.heap.size, rfl, (by omega), Nat.le_refl _, (sR rfl), hB14, (OwnD.nil w11 w11.heap.size w11.heap.size 61 1 RO_Row), (Ex.trans (Ex.refl w) hE15), (by omega), (by first | (simp; done) | (first | omega | (simp only [List.length_append, List.length_cons, List.length_nil, List.length_set, toS_length]; omega))), okE.nil, rfl⟩
 ·rintro m106 L107 w108 ⟨k16, x98, A99, c100, u101, rfl, hk109, hsz111, hl112, hf113, hf114, hf115, hu116, hln117, hok118, hI110⟩
  refine CW.sub hl112 ?_
  have hf113z := Box.lt hf113
  have hf115z := Ex.size hf115
  have q120 := RdS.ex good_Write h4 hf115
  have hbg119 := RdS.big q120
  rcases Nat.lt_or_ge k16 p_store.length with hlt121 | hlt121
  ·refine CW.seq (CW.region (sd rfl (yl_lss rfl rfl rfl (dn (CW.seq (CW.cond_t rfl (lt_t hlt121) (CW.skip (tn ?_))))))))
   refine CW.seq (CW.block (CW.seq (CW.region ?_)))
   obtain ⟨_, _, _, eA122, _, ebl122, _, eR122, eC122⟩ := RdS.aD q120 d_Write (i := k16)
   obtain rfl := eR122
   refine sd rfl (yl_ixN un36 ty57 rfl rfl rfl eA122 (sd rfl (yl_loadN ty57 rfl rfl eC122 rfl (sd rfl (yl_alloc ty57 (cs := [.string (bs (([] : Str))), .string (bs (([] : Str))), .bool (false)]) rfl rfl ?_)))))
   intro b123 w124 hs125 hz126 hB127 hE128
   refine SeqR.u rfl rfl (yl_storeA (vs := [.string (bs ((p_store.getD k16 d_Write).Key)), .string (bs ((p_store.getD k16 d_Write).Val)), .bool ((p_store.getD k16 d_Write).Gone)]) ty57 rfl rfl rfl rfl rfl rfl hB127 rfl ?_)
   intro w129 hB130 hO131
   have hO131z := hO131.size
   refine dn (CW.seq (CW.region ?_))
   have q133 := Box.only (Box.ex hf113 hE128) hO131 (by omega)
   refine sd rfl (yl_loadN ty34 rfl rfl (q133.cells (n := 3) rfl) rfl (sd rfl (yl_loadN ty57 rfl rfl (hB130.cells (n := 3) rfl) rfl ?_)))
   have q135 := Below.only (Ex.trans hf115 hE128) hO131 (by omega)
   refine sd rfl (yl_call en69 rfl (oc rfl (oc rfl oz)) (Cal.mono (c_s_l25Read p_t (p_store.getD k16 d_Write) (RdS.up (RdS.ex good_Str h1 q135) good_Str) (RdS.up (RdS.ex good_Idx h2 q135) good_Idx) o3 (okL.getD o5 ok_d_Write _)) ?_))
   rintro v141 w138 ⟨A139, c139, lo139, hi139, rfl, h139, ho140, hrn143, hE142⟩
   have hE142z := Ex.size hE142
   refine sd rfl (yl_move rfl rfl (sd rfl (yl_extract rfl rfl rfl (sd rfl (yl_extract rfl rfl rfl (sd rfl (yl_alloc ty61 (cs := [.slice none 0 0]) rfl rfl ?_)))))))
   intro b144 w145 hs146 hz147 hB148 hE149
   refine SeqR.u rfl rfl (yl_storeA (vs := [.slice A139 (((s_l25Read p_t (p_store.getD k16 d_Write)).1.Vals).length) c139]) ty61 rfl rfl rfl rfl rfl rfl hB148 rfl ?_)
   intro w150 hB151 hO152
   have hO152z := hO152.size
   refine sd rfl (yl_assign rfl rfl (dn (CW.seq (CW.region (sd rfl (yl_move rfl rfl (dn (bcase ((s_l25Read p_t (p_store.getD k16 d_Write)).2) (fun hb153 => ?_) (fun hb153 => ?_)))))))))
   ·refine CW.cond_t rfl hb153 (CW.region (sd rfl (yl_move rfl rfl (sd rfl (yl_loadN ty61 rfl rfl (hB151.cells (n := 1) rfl) rfl (sd rfl (yl_buildSlice (cs := [.slice A139 (((s_l25Read p_t (p_store.getD k16 d_Write)).1.Vals).length) c139]) un29 ty61 (by decide) rfl (oc rfl oz) (by kernel_rfl) ?_)))))))
    intro b154 w155 hs156 hz157 hB158 hE159
    have hO160 : OwnD w155 w129.heap.size (b154 + 1) 61 1 RO_Row (some ⟨b154, 0, none⟩) 1 1 ([(s_l25Read p_t (p_store.getD k16 d_Write)).1] : List DRow) := OwnD.of_box (b := b154) (xs := ([(s_l25Read p_t (p_store.getD k16 d_Write)).1] : List DRow)) (cells := [[.slice A139 (((s_l25Read p_t (p_store.getD k16 d_Write)).1.Vals).length) c139]]) (by rw [List.flatten_singleton]; exact hB158) (by omega) (Nat.lt_succ_self _) (.cons (l := w129.heap.size) (h := b154) (Nat.le_refl _) (by omega) rfl (fun k hk => by cases hk; exact .inr (Nat.le_refl _)) (mkO_Row (l := w129.heap.size) (h := b154) (OwnL.ex good_Str (OwnL.only good_Str (OwnL.ex good_Str h139 hE149) hO152 (by omega)) hE159) (by omega)) (.nil (Nat.le_succ _))) (Nat.le_of_ble_eq_true rfl)
    refine sd rfl (yl_appendD (xs := x98) (ys := ([(s_l25Read p_t (p_store.getD k16 d_Write)).1] : List DRow)) goodO_Row un29 ty61 rfl (Nat.le_of_ble_eq_true rfl) rfl rfl rfl (OwnD.ex goodO_Row (OwnD.only goodO_Row (OwnD.ex goodO_Row (OwnD.ex goodO_Row (OwnD.only goodO_Row (OwnD.ex goodO_Row hf114 hE128) hO131 (by omega)) hE142) hE149) hO152 (by omega)) hE159) hO160 (by first | omega | (simp only [List.length_append, List.length_cons, List.length_nil, List.length_take, List.length_drop, List.length_replicate, List.length_set, toS_length]; omega)) (by first | omega | (simp only [List.length_append, List.length_cons, List.length_nil, List.length_take, List.length_drop, List.length_replicate, List.length_set, toS_length]; omega)) (by omega) (by omega) (by omega) (by omega) ?_)
    intro A169 c170 w171 row172 hO173 hG174 hrg175
    have hG174z := hG174.size
    refine sd rfl (yl_assign rfl rfl (SeqR.done (bn (tn (CW.region (sd rfl (yl_inc rfl rfl rfl (by omega) (sd rfl (yl_move rfl rfl (dn ?_))))))))))
    have hB176 : B_s_l25Rows_0 p_t p_store k16 (x98) = .cont ((x98 ++ ([(s_l25Read p_t (p_store.getD k16 d_Write)).1] : List DRow))) := by simp only [B_s_l25Rows_0, hb153, cL]
    exact ⟨p_store.length - (k16 + 1), by omega, k16 + 1, (x98 ++ ([(s_l25Read p_t (p_store.getD k16 d_Write)).1] : List DRow)), A169, c170, w171.heap.size, rfl, hlt121, (by omega), (sR rfl), (Box.grown (Box.ex (Box.only (Box.ex (Box.ex q133 hE142) hE149) hO152 (by omega)) hE159) hG174 (hW hrg175)), hO173, (Below.grown (Ex.trans (Below.only (Ex.trans (Ex.trans q135 hE142) hE149) hO152 (by omega)) hE159) hG174 (by omega) (hW hrg175)), (by omega), (by first | omega | (simp only [List.length_append, List.length_cons, List.length_nil, List.length_set, toS_length]; omega)), (okE.append hok118 ((okL.mk (Nat.le_of_ble_eq_true rfl) (okE.cons (show ok_Row ((s_l25Read p_t (p_store.getD k16 d_Write)).1) from ho140) okE.nil))).2), (loopM.cont hlt121 hB176).symm.trans hI110⟩
   ·refine CW.cond_f rfl hb153 (CW.skip (bn (tn (CW.region (sd rfl (yl_inc rfl rfl rfl (by omega) (sd rfl (yl_move rfl rfl (dn ?_)))))))))
    have hB187 : B_s_l25Rows_0 p_t p_store k16 (x98) = .cont (x98) := by simp only [B_s_l25Rows_0, hb153, cL]
    exact ⟨p_store.length - (k16 + 1), by omega, k16 + 1, x98, A99, c100, u101, rfl, hlt121, (by omega), (sR rfl), (Box.only (Box.ex (Box.ex q133 hE142) hE149) hO152 (by omega)), (OwnD.only goodO_Row (OwnD.ex goodO_Row (OwnD.ex goodO_Row (OwnD.only goodO_Row (OwnD.ex goodO_Row hf114 hE128) hO131 (by omega)) hE142) hE149) hO152 (by omega)), (Below.only (Ex.trans (Ex.trans q135 hE142) hE149) hO152 (by omega)), (by omega), (by first | omega | (simp only [List.length_append, List.length_cons, List.length_nil, List.length_set, toS_length]; omega)), hok118, (loopM.cont hlt121 hB187).symm.trans hI110⟩
  ·refine CW.seq (CW.region (sd rfl (yl_lss rfl rfl rfl (dn (CW.seq (CW.cond_f rfl (lt_f hlt121) (CW.exit (tx ?_))))))))
   refine tx ?_
   have hL199 : loopM (B_s_l25Rows_0 p_t p_store) (p_store.length - 0) 0 (([] : List DRow)) = .done (x98) := hI110.symm.trans (loopM.stop hlt121)
   refine bx (tn (CW.seq (CW.region (sd rfl (yl_move rfl rfl (sd rfl (yl_assign rfl rfl (dn (CW.ret ?_)))))))))
   refine rr rfl (.cons rfl .nil) ?_
   rw [show (s_l25Rows p_t p_store) = (x98) by simp only [s_l25Rows, hL199, cL]]
   exact ⟨A99, c100, w11.heap.size, u101, rfl, hf114, (okL.mk (xs := x98) (by first | omega | (simp only [List.length_append, List.length_cons, List.length_nil, List.length_take, List.length_drop, List.length_replicate, List.length_set, toS_length]; omega)) hok118), (by omega), hf115⟩
theorem c_s_l30Less {A1 : Option Addr} {c1 : Nat} {A3 : Option Addr} {c3 : Nat} {w : World} (p_a : DRow) (p_b : DRow) (p_col : Int) (h1 : RdS w (Iv 0 w.heap.size) (RF e_Str) 1 A1 p_a.Vals.length c1 p_a.Vals) (h3 : RdS w (Iv 0 w.heap.size) (RF e_Str) 1 A3 p_b.Vals.length c3 p_b.Vals) (o2 : ok_Row p_a) (o4 : ok_Row p_b) (pre0 : (0 ≤ p_col ∧ p_col < (p_a.Vals.length : Int) ∧ p_col < (p_b.Vals.length : Int))) : Cal Tryz.prog 53 #[.agg #[.slice A1 p_a.Vals.length c1], .agg #[.slice A3 p_b.Vals.length c3], .int .i64 (p_col)] w fun v w' => v = .bool ((s_l30Less p_a p_b p_col)) ∧ Ex w w' := by
 have hol5 := o2.1
 have hol6 := o4.1
 obtain ⟨hp01, hp02, hp03⟩ := pre0
 refine Cal.of func53 rfl ntmps53 rfl (CW.seq (CW.region (sd rfl (yl_box rfl rfl rfl ?_))))
 intro b7 w8 hs9 hz10 hB11 hE12
 refine sd rfl (yl_box rfl rfl rfl ?_)
 intro b13 w14 hs15 hz16 hB17 hE18
 refine sd rfl (yl_assign rfl rfl (dn (CW.seq (CW.seq ?_))))
 have q19 := Box.ex hB11 hE18
 have q21 := Ex.trans (Ex.trans (Ex.refl w) hE12) hE18
 obtain ⟨eb23, eo23, _, eA23, _, ebl23, _, eR23, eC23⟩ := RdS.atD (RdS.ex good_Str h1 q21) d_Str (i := (p_col).toNat) (by first | omega | assumption | (simp only [wI] at *; omega))
 obtain rfl := eR23
 obtain ⟨eb25, eo25, _, eA25, _, ebl25, _, eR25, eC25⟩ := RdS.atD (RdS.ex good_Str h3 q21) d_Str (i := (p_col).toNat) (by first | omega | assumption | (simp only [wI] at *; omega))
 obtain rfl := eR25
 refine drJ 11 [.pointer (some ⟨b7, 0 + 0, none⟩), .slice A1 p_a.Vals.length c1, .int .i64 (p_col), .pointer (some ⟨eb23, eo23 + ((p_col).toNat) * 1, none⟩), .string (bs ((p_a.Vals.getD ((p_col).toNat) d_Str))), .pointer (some ⟨b13, 0 + 0, none⟩), .slice A3 p_b.Vals.length c3, .int .i64 (p_col), .pointer (some ⟨eb25, eo25 + ((p_col).toNat) * 1, none⟩), .string (bs ((p_b.Vals.getD ((p_col).toNat) d_Str))), .bool (!((p_a.Vals.getD ((p_col).toNat) d_Str) == (p_b.Vals.getD ((p_col).toNat) d_Str)))] Tryz.follows rfl ⟨oI rfl fun h => yl_fieldAddr fd61_0 rfl (h.g 3 rfl) kI, oI rfl fun h => yl_load1 ty22 rfl (h.g 7 rfl) (((Box.ex q19 h.ex).cell 0).trans rfl) kI, oI rfl fun h => yl_move rfl (h.g 2 rfl) kI, ?_, oI rfl fun h => yl_load1 ty9 rfl (h.g 10 rfl) ((Cells.ex eC23 h.ex) 0 _ rfl) kI, oI rfl fun h => yl_fieldAddr fd61_0 rfl (h.g 4 rfl) kI, oI rfl fun h => yl_load1 ty22 rfl (h.g 12 rfl) (((Box.ex hB17 h.ex).cell 0).trans rfl) kI, oI rfl fun h => yl_move rfl (h.g 2 rfl) kI, ?_, oI rfl fun h => yl_load1 ty9 rfl (h.g 15 rfl) ((Cells.ex eC25 h.ex) 0 _ rfl) kI, oI rfl fun h => yl_sneq (a := (p_a.Vals.getD ((p_col).toNat) d_Str)) (b := (p_b.Vals.getD ((p_col).toNat) d_Str)) rfl (h.g 11 rfl) (h.g 16 rfl) kI, trivial⟩ ?_
 ·intro L42 w43 hi44
  have hE45 := hi44.ex
  have hE45z := Ex.size hE45
  exact os rfl ((yl_indexAddr un22 ty9 rfl (hi44.g 8 rfl) (hi44.g 9 rfl) eA23 (by first | omega | assumption | (simp only [wI] at *; omega)) (by first | omega | assumption | (simp only [wI] at *; omega)) kI))
 ·intro L70 w71 hi72
  have hE73 := hi72.ex
  have hE73z := Ex.size hE73
  exact os rfl ((yl_indexAddr un22 ty9 rfl (hi72.g 13 rfl) (hi72.g 14 rfl) eA25 (by first | omega | assumption | (simp only [wI] at *; omega)) (by first | omega | assumption | (simp only [wI] at *; omega)) kI))
 ·intro fl91 fh92 L88 w89 hp90
  have hE93 := hp90.ex
  have hE93z := Ex.size hE93
  refine dn (CW.sub (hp90.ss [2, 3, 4, 17] rfl) (bcase ((p_a.Vals.getD ((p_col).toNat) d_Str) == (p_b.Vals.getD ((p_col).toNat) d_Str)) (fun hb98 => ?_) (fun hb98 => ?_)))
  ·refine CW.cond_f rfl (not_t hb98) (CW.skip (tn (CW.seq ?_)))
   have q100 := Ex.trans q21 hE93
   obtain ⟨eb102, eo102, _, eA102, _, ebl102, _, eR102, eC102⟩ := RdS.aD (RdS.ex good_Str h1 q100) d_Str (i := 0)
   obtain rfl := eR102
   obtain ⟨eb105, eo105, _, eA105, _, ebl105, _, eR105, eC105⟩ := RdS.aD (RdS.ex good_Str h3 q100) d_Str (i := 0)
   obtain rfl := eR105
   refine drJ 10 [.pointer (some ⟨b7, 0 + 0, none⟩), .slice A1 p_a.Vals.length c1, .pointer (some ⟨eb102, eo102 + 0 * 1, none⟩), .string (bs ((p_a.Vals.getD 0 d_Str))), .pointer (some ⟨b13, 0 + 0, none⟩), .slice A3 p_b.Vals.length c3, .pointer (some ⟨eb105, eo105 + 0 * 1, none⟩), .string (bs ((p_b.Vals.getD 0 d_Str))), .bool (sLt (p_a.Vals.getD 0 d_Str) (p_b.Vals.getD 0 d_Str)), .bool (sLt (p_a.Vals.getD 0 d_Str) (p_b.Vals.getD 0 d_Str))] Tryz.follows rfl ⟨oI rfl fun h => yl_fieldAddr fd61_0 rfl (h.g 3 rfl) kI, oI rfl fun h => yl_load1 ty22 rfl (h.g 29 rfl) (((Box.ex (Box.ex q19 hE93) h.ex).cell 0).trans rfl) kI, ?_, oI rfl fun h => yl_load1 ty9 rfl (h.g 31 rfl) ((Cells.ex eC102 h.ex) 0 _ rfl) kI, oI rfl fun h => yl_fieldAddr fd61_0 rfl (h.g 4 rfl) kI, oI rfl fun h => yl_load1 ty22 rfl (h.g 33 rfl) (((Box.ex (Box.ex hB17 hE93) h.ex).cell 0).trans rfl) kI, ?_, oI rfl fun h => yl_load1 ty9 rfl (h.g 35 rfl) ((Cells.ex eC105 h.ex) 0 _ rfl) kI, oI rfl fun h => yl_slss (a := (p_a.Vals.getD 0 d_Str)) (b := (p_b.Vals.getD 0 d_Str)) rfl (h.g 32 rfl) (h.g 36 rfl) kI, oI rfl fun h => yl_assign rfl (h.g 37 rfl) kI, trivial⟩ ?_
   ·intro L117 w118 hi119
    have hE120 := hi119.ex
    have hE120z := Ex.size hE120
    exact os rfl ((yl_ixN un22 ty9 rfl (hi119.g 30 rfl) rfl eA102 kI))
   ·intro L139 w140 hi141
    have hE142 := hi141.ex
    have hE142z := Ex.size hE142
    exact os rfl ((yl_ixN un22 ty9 rfl (hi141.g 34 rfl) rfl eA105 kI))
   ·intro fl164 fh165 L161 w162 hp163
    have hE166 := hp163.ex
    have hE166z := Ex.size hE166
    refine dn (CW.sub (hp163.ss [6] rfl) (CW.ret (rr rfl (.cons rfl .nil) ?_)))
    rw [show (s_l30Less p_a p_b p_col) = (sLt (p_a.Vals.getD 0 d_Str) (p_b.Vals.getD 0 d_Str)) by simp only [s_l30Less, hb98, cL]]
    exact ⟨rfl, (Ex.trans q100 hE166)⟩
  ·refine CW.cond_t rfl (not_f hb98) (CW.seq (drJ 12 [.pointer (some ⟨b7, 0 + 0, none⟩), .slice A1 p_a.Vals.length c1, .int .i64 (p_col), .pointer (some ⟨eb23, eo23 + ((p_col).toNat) * 1, none⟩), .string (bs ((p_a.Vals.getD ((p_col).toNat) d_Str))), .pointer (some ⟨b13, 0 + 0, none⟩), .slice A3 p_b.Vals.length c3, .int .i64 (p_col), .pointer (some ⟨eb25, eo25 + ((p_col).toNat) * 1, none⟩), .string (bs ((p_b.Vals.getD ((p_col).toNat) d_Str))), .bool (sLt (p_a.Vals.getD ((p_col).toNat) d_Str) (p_b.Vals.getD ((p_col).toNat) d_Str)), .bool (sLt (p_a.Vals.getD ((p_col).toNat) d_Str) (p_b.Vals.getD ((p_col).toNat) d_Str))] Tryz.follows rfl ⟨?_, ?_, ?_, ?_, ?_, ?_, ?_, ?_, ?_, ?_, ?_, ?_, trivial⟩ ?_))
   ·exact oI rfl fun h => yl_fieldAddr fd61_0 rfl (h.g 3 rfl) kI
   ·exact oI rfl fun h => yl_load1 ty22 rfl (h.g 18 rfl) (((Box.ex (Box.ex q19 hE93) h.ex).cell 0).trans rfl) kI
   ·exact oI rfl fun h => yl_move rfl (h.g 2 rfl) kI
   ·intro L190 w191 hi192
    have hE193 := hi192.ex
    have hE193z := Ex.size hE193
    exact os rfl ((yl_indexAddr un22 ty9 rfl (hi192.g 19 rfl) (hi192.g 20 rfl) eA23 (by first | omega | assumption | (simp only [wI] at *; omega)) (by first | omega | assumption | (simp only [wI] at *; omega)) kI))
   ·exact oI rfl fun h => yl_load1 ty9 rfl (h.g 21 rfl) ((Cells.ex (Cells.ex eC23 hE93) h.ex) 0 _ rfl) kI
   ·exact oI rfl fun h => yl_fieldAddr fd61_0 rfl (h.g 4 rfl) kI
   ·exact oI rfl fun h => yl_load1 ty22 rfl (h.g 23 rfl) (((Box.ex (Box.ex hB17 hE93) h.ex).cell 0).trans rfl) kI
   ·exact oI rfl fun h => yl_move rfl (h.g 2 rfl) kI
   ·intro L218 w219 hi220
    have hE221 := hi220.ex
    have hE221z := Ex.size hE221
    exact os rfl ((yl_indexAddr un22 ty9 rfl (hi220.g 24 rfl) (hi220.g 25 rfl) eA25 (by first | omega | assumption | (simp only [wI] at *; omega)) (by first | omega | assumption | (simp only [wI] at *; omega)) kI))
   ·exact oI rfl fun h => yl_load1 ty9 rfl (h.g 26 rfl) ((Cells.ex (Cells.ex eC25 hE93) h.ex) 0 _ rfl) kI
   ·exact oI rfl fun h => yl_slss (a := (p_a.Vals.getD ((p_col).toNat) d_Str)) (b := (p_b.Vals.getD ((p_col).toNat) d_Str)) rfl (h.g 22 rfl) (h.g 27 rfl) kI
   ·exact oI rfl fun h => yl_assign rfl (h.g 28 rfl) kI
   ·intro fl244 fh245 L241 w242 hp243
    have hE246 := hp243.ex
    have hE246z := Ex.size hE246
    refine dn (CW.sub (hp243.ss [6] rfl) (CW.ret (tr (rr rfl (.cons rfl .nil) ?_))))
    rw [show (s_l30Less p_a p_b p_col) = (sLt (p_a.Vals.getD ((p_col).toNat) d_Str) (p_b.Vals.getD ((p_col).toNat) d_Str)) by simp only [s_l30Less, hb98, cL]]
    exact ⟨rfl, (Ex.trans (Ex.trans q21 hE93) hE246)⟩
theorem c_s_l30Scan {A1 : Option Addr} {c1 : Nat} {A2 : Option Addr} {c2 : Nat} {A4 : Option Addr} {c4 : Nat} {w : World} (p_0 : DTable) (p_1 : List DWrite) (p_2 : Int) (p_3 : Str) (p_4 : Str) (h1 : RdS w (Iv 0 w.heap.size) (RF e_Str) 1 A1 p_0.Cols.length c1 p_0.Cols) (h2 : RdS w (Iv 0 w.heap.size) (RF e_Idx) 3 A2 p_0.Idxs.length c2 p_0.Idxs) (h4 : RdS w (Iv 0 w.heap.size) (RF e_Write) 3 A4 p_1.length c4 p_1) (o3 : ok_Table p_0) (o5 : (okL ok_Write) p_1) (o6 : okS p_3) (o7 : okS p_4) (pre0 : s_GoodTable p_0 = true) (pre1 : p_1.length ≤ 24) (pre2 : (1 ≤ p_2 ∧ p_2 < (p_0.Cols.length : Int))) : Cal Tryz.prog 24 #[.agg #[.string (bs (p_0.Name)), .slice A1 p_0.Cols.length c1, .slice A2 p_0.Idxs.length c2], .slice A4 p_1.length c4, .int .i64 (p_2), .string (bs (p_3)), .string (bs (p_4))] w fun v w' => ∃ A_1 c_1 lo_1 hi_1, v = .slice A_1 ((s_l30Scan p_0 p_1 p_2 p_3 p_4).length) c_1 ∧ OwnL w' lo_1 hi_1 61 1 R_Row A_1 ((s_l30Scan p_0 p_1 p_2 p_3 p_4).length) c_1 (s_l30Scan p_0 p_1 p_2 p_3 p_4) ∧ (okL ok_Row) (s_l30Scan p_0 p_1 p_2 p_3 p_4) ∧ (w.heap.size ≤ lo_1 ∧ lo_1 ≤ hi_1 ∧ hi_1 ≤ w'.heap.size) ∧ Ex w w' := by
 have hol8 : p_0.Name.length ≤ 1073741824 := o3.1
 have hol9 := o3.2.1.1
 have hol10 := o3.2.2.1
 have hol11 := o5.1
 have hol12 : p_3.length ≤ 1073741824 := o6
 have hol13 : p_4.length ≤ 1073741824 := o7
 have hrl := (rows_good p_0 p_1).1
 refine Cal.of func24 rfl ntmps24 rfl (CW.seq (CW.region (sd rfl (yl_box rfl rfl rfl ?_))))
 intro b14 w15 hs16 hz17 hB18 hE19
 refine sd rfl (yl_assign rfl rfl (dn (CW.seq (CW.region (sd rfl (yl_assign rfl rfl (dn (CW.seq ?_))))))))
 refine CW.seq (CW.region (sd rfl (yl_loadN ty34 rfl rfl (hB18.cells (n := 3) rfl) rfl (sd rfl (yl_move rfl rfl ?_)))))
 have q20 := Ex.trans (Ex.refl w) hE19
 refine sd rfl (yl_call en52 rfl (oc rfl (oc rfl oz)) (Cal.mono (c_s_l25Rows p_0 p_1 (RdS.up (RdS.ex good_Str h1 q20) good_Str) (RdS.up (RdS.ex good_Idx h2 q20) good_Idx) (RdS.up (RdS.ex good_Write h4 q20) good_Write) o3 o5) ?_))
 rintro v27 w24 ⟨A25, c25, lo25, hi25, rfl, h25, ho26, hrn29, hE28⟩
 have hE28z := Ex.size hE28
 refine sd rfl (yl_len un29 rfl rfl (sd rfl (yl_move rfl rfl (dn (CW.block (CW.loop (fun m172 L173 w174 => ∃ (k30 : Nat) (x168 : List DRow) (A169 : Option Addr) (c170 : Nat) (u171 : Nat), m172 = (s_l25Rows p_0 p_1).length - k30 ∧ k30 ≤ (s_l25Rows p_0 p_1).length ∧ w24.heap.size ≤ w174.heap.size ∧ Sub [(2, .int .i64 (p_2)), (3, .string (bs (p_3))), (4, .string (bs (p_4))), (11, .slice A169 x168.length c170), (17, .slice A25 ((s_l25Rows p_0 p_1).length) c25), (18, .int .i64 (((s_l25Rows p_0 p_1).length : Int))), (19, .int .i64 ((k30 : Int)))] L173 ∧ OwnL w174 w.heap.size u171 61 1 R_Row A169 x168.length c170 x168 ∧ OwnD w174 lo25 hi25 61 1 RO_Row A25 ((s_l25Rows p_0 p_1).length) c25 (s_l25Rows p_0 p_1) ∧ Ex w w174 ∧ (w.heap.size ≤ u171 ∧ u171 ≤ w174.heap.size) ∧ x168.length ≤ 0 + 1 * (k30 - 0) ∧ (∀ k, blk A169 = some k → w24.heap.size ≤ k) ∧ (∀ y ∈ x168, ok_Row y) ∧ wdN p_0.Cols.length x168 ∧ loopM (B_s_l30Scan_0 p_0 p_1 p_2 p_3 p_4) ((s_l25Rows p_0 p_1).length - k30) k30 (x168) = loopM (B_s_l30Scan_0 p_0 p_1 p_2 p_3 p_4) ((s_l25Rows p_0 p_1).length - 0) 0 (([] : List DRow))) ((s_l25Rows p_0 p_1).length - 0) ?_ ?_))))))
 ·exact ⟨0, ([] : List DRow), none, 0, w.heap.size, rfl, (by omega), Nat.le_refl _, (sR rfl), (OwnL.nil w24 w.heap.size w.heap.size 61 1 R_Row), h25, (Ex.trans q20 hE28), (by omega), (by first | (simp; done) | (first | omega | (simp only [List.length_append, List.length_cons, List.length_nil, List.length_set, toS_length]; omega))), (fun k h => by cases h), okE.nil, (by first | omega | assumption | (simp only [List.length_append, List.length_cons, List.length_nil, List.length_set]; omega) | exact wdN.nil | exact wdN.app ‹wdN _ _› hrw.1 | exact wdN.set ‹wdN _ _› (wdN.at ‹wdN _ _› (by first | omega | (simp only [wI] at *; omega) | (simp only [List.length_append, List.length_cons, List.length_nil, wI] at *; omega))) _ | exact wdN.set ‹wdN _ _› hrw.1 _ | (simp only [wI] at *; omega) | (simp only [List.length_append, List.length_cons, List.length_nil, List.length_set, wI] at *; omega)), rfl⟩
 ·rintro m176 L177 w178 ⟨k30, x168, A169, c170, u171, rfl, hk179, hsz181, hl182, hf183, hf184, hf185, hu186, hln187, hok188, hok189, hv190, hI180⟩
  refine CW.sub hl182 ?_
  have hf185z := Ex.size hf185
  have hbg191 := RdS.big (OwnL.rd good_Row (OwnD.own goodO_Row good_Row hf184))
  rcases Nat.lt_or_ge k30 ((s_l25Rows p_0 p_1).length) with hlt193 | hlt193
  ·have hrw := rows_at' p_0 p_1 hlt193
   refine CW.seq (CW.region (sd rfl (yl_lss rfl rfl rfl (dn (CW.seq (CW.cond_t rfl (lt_t hlt193) (CW.skip (tn ?_))))))))
   refine CW.seq (CW.block (CW.seq (CW.region ?_)))
   obtain ⟨_, _, _, eA195, _, ebl195, _, eR195, eC195⟩ := RdS.atD (OwnL.rdI good_Row (OwnD.own goodO_Row good_Row hf184)) d_Row (i := k30) (by first | omega | assumption | (simp only [wI] at *; omega) | (simp only [List.length_append, List.length_cons, List.length_nil, wI] at *; omega))
   obtain ⟨A196, c196, rfl, h196⟩ := eR195
   refine sd rfl (yl_indexAddrN un29 ty61 rfl rfl rfl eA195 (by first | omega | assumption | (simp only [wI] at *; omega) | (simp only [List.length_append, List.length_cons, List.length_nil, wI] at *; omega)) (sd rfl (yl_loadN ty61 rfl rfl eC195 rfl (sd rfl (yl_alloc ty61 (cs := [.slice none 0 0]) rfl rfl ?_)))))
   intro b197 w198 hs199 hz200 hB201 hE202
   refine SeqR.u rfl rfl (yl_storeA (vs := [.slice A196 ((((s_l25Rows p_0 p_1).getD k30 d_Row).Vals).length) c196]) ty61 rfl rfl rfl rfl rfl rfl hB201 rfl ?_)
   intro w203 hB204 hO205
   have hO205z := hO205.size
   refine dn (CW.seq (CW.seq (CW.region (sd rfl (yl_fieldAddr fd61_0 rfl rfl (sd rfl (yl_load1 ty22 rfl rfl ((hB204.cell 0).trans rfl) (sd rfl (yl_move rfl rfl ?_)))))))))
   have q207 := RdS.only good_Str (RdS.ex good_Str h196 hE202) hO205 iV
   obtain ⟨_, _, _, eA208, _, ebl208, _, eR208, eC208⟩ := RdS.atD q207 d_Str (i := (p_2).toNat) (by first | omega | assumption | (simp only [wI] at *; omega) | (simp only [List.length_append, List.length_cons, List.length_nil, wI] at *; omega))
   obtain rfl := eR208
   refine sd rfl (yl_indexAddr un22 ty9 rfl rfl rfl eA208 (by first | omega | assumption | (simp only [wI] at *; omega) | (simp only [List.length_append, List.length_cons, List.length_nil, wI] at *; omega)) (by first | omega | assumption | (simp only [wI] at *; omega) | (simp only [List.length_append, List.length_cons, List.length_nil, wI] at *; omega)) (sd rfl (yl_load1 ty9 rfl rfl (eC208 0 _ rfl) (sd rfl (yl_move rfl rfl (sd rfl (yl_slss (a := ((((s_l25Rows p_0 p_1).getD k30 d_Row).Vals).getD ((p_2).toNat) d_Str)) (b := p_3) rfl rfl rfl (sd rfl (yl_move rfl rfl (bcase (sLt ((((s_l25Rows p_0 p_1).getD k30 d_Row).Vals).getD ((p_2).toNat) d_Str) p_3) (fun hb209 => ?_) (fun hb209 => ?_)))))))))))
   ·refine sz rfl rfl hb209 (sz rfl rfl hb209 (sz rfl rfl hb209 (sz rfl rfl hb209 (sz rfl rfl hb209 (sz rfl rfl hb209 (sz rfl rfl hb209 (sd rfl (yl_pick_t rfl rfl hb209 rfl (SeqR.done ?_)))))))))
    refine tn (CW.cond_t rfl rfl (CW.exit (tx (bx (tn (CW.region (sd rfl (yl_inc rfl rfl rfl (by omega) (sd rfl (yl_move rfl rfl ?_))))))))))
    refine dn ?_
    have hB210 : B_s_l30Scan_0 p_0 p_1 p_2 p_3 p_4 k30 (x168) = .cont (x168) := by simp only [B_s_l30Scan_0, hb209, cL]
    exact ⟨(s_l25Rows p_0 p_1).length - (k30 + 1), by omega, k30 + 1, x168, A169, c170, u171, rfl, hlt193, (by omega), (sR rfl), (OwnL.only good_Row (OwnL.ex good_Row hf183 hE202) hO205 (by omega)), (OwnD.only goodO_Row (OwnD.ex goodO_Row hf184 hE202) hO205 (by omega)), (Below.only (Ex.trans hf185 hE202) hO205 (by omega)), (by omega), (by first | omega | (simp only [List.length_append, List.length_cons, List.length_nil, List.length_set, toS_length]; omega)), hok188, hok189, (by first | omega | assumption | (simp only [List.length_append, List.length_cons, List.length_nil, List.length_set]; omega) | exact wdN.nil | exact wdN.app ‹wdN _ _› hrw.1 | exact wdN.set ‹wdN _ _› (wdN.at ‹wdN _ _› (by first | omega | (simp only [wI] at *; omega) | (simp only [List.length_append, List.length_cons, List.length_nil, wI] at *; omega))) _ | exact wdN.set ‹wdN _ _› hrw.1 _ | (simp only [wI] at *; omega) | (simp only [List.length_append, List.length_cons, List.length_nil, List.length_set, wI] at *; omega)), (loopM.cont hlt193 hB210).symm.trans hI180⟩
   ·refine sy rfl rfl hb209 (yl_fieldAddr fd61_0 rfl rfl (sy rfl rfl hb209 (yl_load1 ty22 rfl rfl ((hB204.cell 0).trans rfl) (sy rfl rfl hb209 (yl_move rfl rfl (sy rfl rfl hb209 (yl_indexAddr un22 ty9 rfl rfl rfl eA208 (by first | omega | assumption | (simp only [wI] at *; omega) | (simp only [List.length_append, List.length_cons, List.length_nil, wI] at *; omega)) (by first | omega | assumption | (simp only [wI] at *; omega) | (simp only [List.length_append, List.length_cons, List.length_nil, wI] at *; omega)) (sy rfl rfl hb209 (yl_load1 ty9 rfl rfl (eC208 0 _ rfl) (sy rfl rfl hb209 (yl_move rfl rfl (sy rfl rfl hb209 (yl_sgtr (a := ((((s_l25Rows p_0 p_1).getD k30 d_Row).Vals).getD ((p_2).toNat) d_Str)) (b := p_4) rfl rfl rfl (sd rfl (yl_pick_f rfl rfl hb209 rfl (SeqR.done ?_))))))))))))))))
    refine tn (bcase (sLe ((((s_l25Rows p_0 p_1).getD k30 d_Row).Vals).getD ((p_2).toNat) d_Str) p_4) (fun hb217 => ?_) (fun hb217 => ?_))
    ·refine CW.cond_f rfl (not_t hb217) (CW.skip (tn (CW.seq (CW.region (sd rfl (yl_move rfl rfl (sd rfl (yl_len un29 rfl rfl (sd rfl (yl_assign rfl rfl (SeqR.done ?_)))))))))))
     refine tn (CW.seq (CW.region (sd rfl (yl_move rfl rfl (sd rfl (yl_loadN ty61 rfl rfl (hB204.cells (n := 1) rfl) rfl (sd rfl (yl_buildSlice (cs := [.slice A196 ((((s_l25Rows p_0 p_1).getD k30 d_Row).Vals).length) c196]) un29 ty61 (by decide) rfl (oc rfl oz) (by kernel_rfl) ?_))))))))
     intro b218 w219 hs220 hz221 hB222 hE223
     have hO224 : OwnL w219 lo25 (b218 + 1) 61 1 R_Row (some ⟨b218, 0, none⟩) 1 1 ([((s_l25Rows p_0 p_1).getD k30 d_Row)] : List DRow) := OwnL.of_box (S := Iv lo25 b218) hB222 (by omega) (Nat.lt_succ_self _) (EncL.cons (c := [.slice A196 ((((s_l25Rows p_0 p_1).getD k30 d_Row).Vals).length) c196]) rfl ⟨A196, c196, rfl, (RdS.ex good_Str (RdS.wide good_Str q207 (fun b hh hl => ⟨by first | exact Nat.zero_le _ | (have := hh.1; omega), by omega⟩)) hE223)⟩ EncL.nil) (Nat.le_of_ble_eq_true rfl) (fun h => Nat.lt_irrefl _ h.2) (fun _ h => ⟨h.1, Nat.lt_succ_of_lt h.2⟩)
     have q228 := RdS.ex good_Str q207 hE223
     refine sd rfl (yl_appendMB (M := w24.heap.size) (S := (Iv w.heap.size w24.heap.size)) (lo := w.heap.size) (hi := u171) (xs := x168) (ys := ([((s_l25Rows p_0 p_1).getD k30 d_Row)] : List DRow)) good_Row un29 ty61 rfl (Nat.le_of_ble_eq_true rfl) rfl rfl rfl (OwnL.ex good_Row (OwnL.only good_Row (OwnL.ex good_Row hf183 hE202) hO205 (by omega)) hE223) (EncL.cons (c := [.slice A196 ((((s_l25Rows p_0 p_1).getD k30 d_Row).Vals).length) c196]) rfl ⟨A196, c196, rfl, (RdS.wide good_Str q228 (fun b hh hl => ⟨by have := hh.1; omega, by have := hh.2; omega⟩))⟩ EncL.nil) (Or.inr ⟨_, _, rfl, rfl, hB222.cells (o := 0) (n := 1) rfl⟩) rfl (by first | omega | (simp only [List.length_append, List.length_cons, List.length_nil, List.length_take, List.length_drop, List.length_replicate, List.length_set, toS_length]; omega)) (by first | omega | (simp only [List.length_append, List.length_cons, List.length_nil, List.length_take, List.length_drop, List.length_replicate, List.length_set, toS_length]; omega)) (by omega) (by omega) (fun k h _ => ⟨h.1, Or.inr h.2⟩) hok188 (by omega) (by omega) (Nat.le_of_ble_eq_true rfl) ?_)
     intro A229 c230 w231 row232 hO233 hG234 hrg235 hbk236
     have hG234z := hG234.size
     refine sd rfl (yl_assign rfl rfl (dn (CW.seq (CW.block (CW.loop (fun m255 L256 w257 => ∃ (x252 : Int) (x253 : List DRow) (u254 : Nat), ((x252).toNat) < m255 ∧ w231.heap.size ≤ w257.heap.size ∧ Sub [(2, .int .i64 (p_2)), (3, .string (bs (p_3))), (4, .string (bs (p_4))), (11, .slice A229 ((x168 ++ ([((s_l25Rows p_0 p_1).getD k30 d_Row)] : List DRow)).length) c230), (13, .pointer (some ⟨b197, 0, none⟩)), (14, .int .i64 (x252)), (17, .slice A25 ((s_l25Rows p_0 p_1).length) c25), (18, .int .i64 (((s_l25Rows p_0 p_1).length : Int))), (19, .int .i64 ((k30 : Int)))] L256 ∧ OwnL w257 w.heap.size u254 61 1 R_Row A229 ((x168 ++ ([((s_l25Rows p_0 p_1).getD k30 d_Row)] : List DRow)).length) c230 x253 ∧ Box w257 b197 61 [.slice A196 ((((s_l25Rows p_0 p_1).getD k30 d_Row).Vals).length) c196] ∧ RdS w257 (Iv lo25 hi25) (RF e_Str) 1 A196 (((s_l25Rows p_0 p_1).getD k30 d_Row).Vals).length c196 (((s_l25Rows p_0 p_1).getD k30 d_Row).Vals) ∧ OwnD w257 lo25 hi25 61 1 RO_Row A25 ((s_l25Rows p_0 p_1).length) c25 (s_l25Rows p_0 p_1) ∧ Ex w w257 ∧ (w.heap.size ≤ u254 ∧ u254 ≤ w257.heap.size) ∧ x253.length + 0 * ((x252).toNat) ≤ x168.length + 1 + 0 * (((x168.length : Int)).toNat) ∧ (∀ y ∈ x253, ok_Row y) ∧ (0 ≤ x252 ∧ x252 + 1 ≤ (x253.length : Int)) ∧ wdN p_0.Cols.length x253 ∧ loopW (B_s_l30Scan_1 p_0 p_1 p_2 p_3 p_4 k30 x168) m255 (x252, x253) = loopW (B_s_l30Scan_1 p_0 p_1 p_2 p_3 p_4 k30 x168) ((((x168.length : Int)).toNat) + 1) ((x168.length : Int), (x168 ++ ([((s_l25Rows p_0 p_1).getD k30 d_Row)] : List DRow)))) ((((x168.length : Int)).toNat) + 1) ?_ ?_)))))
     ·exact ⟨(x168.length : Int), (x168 ++ ([((s_l25Rows p_0 p_1).getD k30 d_Row)] : List DRow)), w231.heap.size, Nat.lt_succ_self _, Nat.le_refl _, (sR rfl), hO233, (Box.grown (Box.ex hB204 hE223) hG234 (hW hrg235)), (RdS.grown good_Str q228 hG234 (hV hrg235)), (OwnD.grown goodO_Row (OwnD.ex goodO_Row (OwnD.only goodO_Row (OwnD.ex goodO_Row hf184 hE202) hO205 (by omega)) hE223) hG234 (hW hrg235)), (Below.grown (Ex.trans (Below.only (Ex.trans hf185 hE202) hO205 (by omega)) hE223) hG234 (by omega) (hW hrg235)), (by omega), (by first | (simp; done) | (first | omega | (simp only [List.length_append, List.length_cons, List.length_nil, List.length_set, toS_length]; omega))), (okE.append hok189 ((okL.mk (Nat.le_of_ble_eq_true rfl) (okE.cons (show ok_Row ((s_l25Rows p_0 p_1).getD k30 d_Row) from (okL.getD ho26 ok_d_Row _)) okE.nil))).2), (by first | omega | assumption | (simp only [List.length_append, List.length_cons, List.length_nil, List.length_set]; omega) | exact wdN.nil | exact wdN.app ‹wdN _ _› hrw.1 | exact wdN.set ‹wdN _ _› (wdN.at ‹wdN _ _› (by first | omega | (simp only [wI] at *; omega) | (simp only [List.length_append, List.length_cons, List.length_nil, wI] at *; omega))) _ | exact wdN.set ‹wdN _ _› hrw.1 _ | (simp only [wI] at *; omega) | (simp only [List.length_append, List.length_cons, List.length_nil, List.length_set, wI] at *; omega)), (by first | omega | assumption | (simp only [List.length_append, List.length_cons, List.length_nil, List.length_set]; omega) | exact wdN.nil | exact wdN.app ‹wdN _ _› hrw.1 | exact wdN.set ‹wdN _ _› (wdN.at ‹wdN _ _› (by first | omega | (simp only [wI] at *; omega) | (simp only [List.length_append, List.length_cons, List.length_nil, wI] at *; omega))) _ | exact wdN.set ‹wdN _ _› hrw.1 _ | (simp only [wI] at *; omega) | (simp only [List.length_append, List.length_cons, List.length_nil, List.length_set, wI] at *; omega)), rfl⟩
     ·rintro m269 L270 w271 ⟨x252, x253, u254, hk272, hsz274, hl275, hf276, hf277, hf278, hf279, hf280, hu281, hln282, hok283, hv284, hv285, hI273⟩
      refine CW.sub hl275 ?_
      have hf277z := Box.lt hf277
      have hf280z := Ex.size hf280
      refine CW.seq (CW.seq (bcD (q := 0 < x252) (fun hb286 hb286p => ?_) (fun hb286 hb286p => ?_)))
      ·obtain ⟨eb287, eo287, ec287, eA287, eS287, ebl287, el287, eR287, eC287⟩ := OwnL.atN good_Row hf276 d_Row (i := (IntKind.wrap .i64 (x252 - 1)).toNat) (by first | omega | assumption | (simp only [wI] at *; omega) | (simp only [List.length_append, List.length_cons, List.length_nil, wI] at *; omega))
       have hnb288 := hbk236 eb287 (by rw [eA287]; rfl)
       obtain ⟨A289, c289, rfl, h289⟩ := eR287
       refine drJ 12 [.int .i64 (x252), .bool (decide (0 < x252)), .bool (decide (0 < x252)), .agg #[.slice A196 ((((s_l25Rows p_0 p_1).getD k30 d_Row).Vals).length) c196], .slice A229 ((x168 ++ ([((s_l25Rows p_0 p_1).getD k30 d_Row)] : List DRow)).length) c230, .int .i64 (x252), .int .i64 (IntKind.wrap .i64 (x252 - 1)), .pointer (some ⟨eb287, eo287 + ((IntKind.wrap .i64 (x252 - 1)).toNat) * 1, none⟩), .agg #[.slice A289 (((x253.getD ((IntKind.wrap .i64 (x252 - 1)).toNat) d_Row).Vals).length) c289], .int .i64 (p_2), .bool ((s_l30Less ((s_l25Rows p_0 p_1).getD k30 d_Row) (x253.getD ((IntKind.wrap .i64 (x252 - 1)).toNat) d_Row) p_2)), .bool ((s_l30Less ((s_l25Rows p_0 p_1).getD k30 d_Row) (x253.getD ((IntKind.wrap .i64 (x252 - 1)).toNat) d_Row) p_2))] Tryz.follows rfl ⟨oI rfl fun h => yl_move rfl (h.g 14 rfl) kI, oI rfl fun h => yl_gtr rfl (h.g 45 rfl) rfl kI, oI rfl fun h => yl_move rfl (h.g 46 rfl) kI, oW rfl rfl rfl rfl hb286 fun h => yl_loadN ty61 rfl (h.g 13 rfl) ((Box.ex hf277 h.ex).cells (n := 1) rfl) rfl kI, oW rfl rfl rfl rfl hb286 fun h => yl_move rfl (h.g 11 rfl) kI, oW rfl rfl rfl rfl hb286 fun h => yl_move rfl (h.g 14 rfl) kI, oW rfl rfl rfl rfl hb286 fun h => yl_sub rfl (h.g 50 rfl) rfl kI, ?_, oW rfl rfl rfl rfl hb286 fun h => yl_loadN ty61 rfl (h.g 52 rfl) (Cells.ex eC287 h.ex) rfl kI, oW rfl rfl rfl rfl hb286 fun h => yl_move rfl (h.g 2 rfl) kI, ?_, oI rfl fun h => yl_pick_t rfl (h.g 47 rfl) hb286 (h.g 55 rfl) kI, trivial⟩ ?_
       ·intro L331 w332 hi333
        have hE334 := hi333.ex
        have hE334z := Ex.size hE334
        exact OpR.want rfl rfl (hi333.g 47 rfl) hb286 (Yl.sameI (yl_indexAddr un29 ty61 rfl (hi333.g 49 rfl) (hi333.g 51 rfl) eA287 (by first | omega | assumption | (simp only [wI] at *; omega) | (simp only [List.length_append, List.length_cons, List.length_nil, wI] at *; omega)) (by first | omega | assumption | (simp only [wI] at *; omega) | (simp only [List.length_append, List.length_cons, List.length_nil, wI] at *; omega)) kI))
       ·intro L351 w352 hi353
        have hE354 := hi353.ex
        have hE354z := Ex.size hE354
        exact OpR.want rfl rfl (hi353.g 47 rfl) hb286 (yl_call en53 rfl (oc (hi353.g 48 rfl) (oc (hi353.g 53 rfl) (oc (hi353.g 54 rfl) oz))) (Cal.mono (c_s_l30Less ((s_l25Rows p_0 p_1).getD k30 d_Row) (x253.getD ((IntKind.wrap .i64 (x252 - 1)).toNat) d_Row) p_2 (RdS.up (RdS.ex good_Str hf278 hE354) good_Str) (RdS.up (RdS.ex good_Str h289 hE354) good_Str) (okL.getD ho26 ok_d_Row _) (okL.getD (okL.mk (xs := x253) (by first | omega | (simp only [List.length_append, List.length_cons, List.length_nil, List.length_take, List.length_drop, List.length_replicate, List.length_set, toS_length]; omega)) hok283) ok_d_Row _) (less_preN hrw.1 ‹wdN _ _› pre2 (by first | omega | assumption | (simp only [wI] at *; omega) | (simp only [List.length_append, List.length_cons, List.length_nil, wI] at *; omega)))) fun _ _ h => h))
       ·intro fl373 fh374 L370 w371 hp372
        have hE375 := hp372.ex
        have hE375z := Ex.size hE375
        refine dn (CW.sub (hp372.ss [2, 3, 4, 11, 13, 14, 17, 18, 19, 56] rfl) (bcase (s_l30Less ((s_l25Rows p_0 p_1).getD k30 d_Row) (x253.getD ((IntKind.wrap .i64 (x252 - 1)).toNat) d_Row) p_2) (fun hb386 => ?_) (fun hb386 => ?_)))
        ·refine CW.cond_t rfl hb386 (CW.skip (tn (CW.block (CW.seq (CW.region (sd rfl (yl_move rfl rfl (sd rfl (yl_move rfl rfl (sd rfl (yl_move rfl rfl ?_)))))))))))
         refine sd rfl (yl_move rfl rfl (sd rfl (yl_sub rfl rfl rfl (sd rfl (yl_indexAddr un29 ty61 rfl rfl rfl eA287 (by first | omega | assumption | (simp only [wI] at *; omega) | (simp only [List.length_append, List.length_cons, List.length_nil, wI] at *; omega)) (by first | omega | assumption | (simp only [wI] at *; omega) | (simp only [List.length_append, List.length_cons, List.length_nil, wI] at *; omega)) (sd rfl (yl_loadN ty61 rfl rfl (Cells.ex eC287 hE375) rfl ?_)))))))
         have q388 := OwnL.ex good_Row hf276 hE375
         obtain ⟨eb389, eo389, ec389, eA389, eS389, ebl389, el389, eR389, eC389⟩ := OwnL.atN good_Row q388 d_Row (i := (x252).toNat) (by first | omega | assumption | (simp only [wI] at *; omega) | (simp only [List.length_append, List.length_cons, List.length_nil, wI] at *; omega))
         have hnb390 := hbk236 eb389 (by rw [eA389]; rfl)
         obtain ⟨A391, c391, rfl, h391⟩ := eR389
         refine sd rfl (yl_indexAddr un29 ty61 rfl rfl rfl eA389 (by first | omega | assumption | (simp only [wI] at *; omega) | (simp only [List.length_append, List.length_cons, List.length_nil, wI] at *; omega)) (by first | omega | assumption | (simp only [wI] at *; omega) | (simp only [List.length_append, List.length_cons, List.length_nil, wI] at *; omega)) ?_)
         have hrg392 := OwnL.rng q388 (i := (x252).toNat) (by first | omega | assumption | (simp only [wI] at *; omega) | (simp only [List.length_append, List.length_cons, List.length_nil, wI] at *; omega)) eb389 (by rw [eA389]; rfl)
         refine SeqR.u rfl rfl (yl_storeW (off := eo389) (i := (x252).toNat) (x' := (x253.getD ((IntKind.wrap .i64 (x252 - 1)).toNat) d_Row)) (vs := [.slice A289 (((x253.getD ((IntKind.wrap .i64 (x252 - 1)).toNat) d_Row).Vals).length) c289]) (S' := (IvN w.heap.size u254 A229)) good_Row ty61 rfl q388 eA389 rfl rfl rfl rfl (by first | omega | assumption | (simp only [wI] at *; omega) | (simp only [List.length_append, List.length_cons, List.length_nil, wI] at *; omega)) ⟨A289, c289, rfl, (RdS.ex good_Str h289 hE375)⟩ (fun b hh _ => ⟨hh.1, fun e => hh.2.2 (by rw [eA389, e]; rfl)⟩) (by omega) ?_)
         intro w393 hB394 hO395
         have hO395z := hO395.size
         refine dn (CW.region (sd rfl (yl_move rfl rfl (sd rfl (yl_sub rfl rfl rfl (sd rfl (yl_assign rfl rfl (SeqR.done (bn (tn ?_))))))))))
         have hB397 : B_s_l30Scan_1 p_0 p_1 p_2 p_3 p_4 k30 x168 (x252, x253) = .cont (IntKind.wrap .i64 (x252 - 1), (x253.set ((x252).toNat) (x253.getD ((IntKind.wrap .i64 (x252 - 1)).toNat) d_Row))) := by simp only [B_s_l30Scan_1, hb209, hb217, hb286, hb386, cL]
         have hmu406 : ((IntKind.wrap .i64 (x252 - 1)).toNat) < ((x252).toNat) := by first | omega | assumption | (simp only [List.length_append, List.length_cons, List.length_nil, List.length_set]; omega) | exact wdN.nil | exact wdN.app ‹wdN _ _› hrw.1 | exact wdN.set ‹wdN _ _› (wdN.at ‹wdN _ _› (by first | omega | (simp only [wI] at *; omega) | (simp only [List.length_append, List.length_cons, List.length_nil, wI] at *; omega))) _ | exact wdN.set ‹wdN _ _› hrw.1 _ | (simp only [wI] at *; omega) | (simp only [List.length_append, List.length_cons, List.length_nil, List.length_set, wI] at *; omega)
         exact ⟨m269 - 1, by omega, IntKind.wrap .i64 (x252 - 1), (x253.set ((x252).toNat) (x253.getD ((IntKind.wrap .i64 (x252 - 1)).toNat) d_Row)), w393.heap.size, (by omega), (by omega), (sR rfl), hB394, (Box.only (Box.ex hf277 hE375) hO395 (by omega)), (RdS.only good_Str (RdS.ex good_Str hf278 hE375) hO395 iV), (OwnD.only goodO_Row (OwnD.ex goodO_Row hf279 hE375) hO395 (by omega)), (Below.only (Ex.trans hf280 hE375) hO395 (by omega)), (by omega), (by first | omega | (simp only [List.length_append, List.length_cons, List.length_nil, List.length_set, toS_length]; omega)), (okE.set hok283 (okL.getD (okL.mk (xs := x253) (by first | omega | (simp only [List.length_append, List.length_cons, List.length_nil, List.length_take, List.length_drop, List.length_replicate, List.length_set, toS_length]; omega)) hok283) ok_d_Row _)), (by first | omega | assumption | (simp only [List.length_append, List.length_cons, List.length_nil, List.length_set]; omega) | exact wdN.nil | exact wdN.app ‹wdN _ _› hrw.1 | exact wdN.set ‹wdN _ _› (wdN.at ‹wdN _ _› (by first | omega | (simp only [wI] at *; omega) | (simp only [List.length_append, List.length_cons, List.length_nil, wI] at *; omega))) _ | exact wdN.set ‹wdN _ _› hrw.1 _ | (simp only [wI] at *; omega) | (simp only [List.length_append, List.length_cons, List.length_nil, List.length_set, wI] at *; omega)), (by first | omega | assumption | (simp only [List.length_append, List.length_cons, List.length_nil, List.length_set]; omega) | exact wdN.nil | exact wdN.app ‹wdN _ _› hrw.1 | exact wdN.set ‹wdN _ _› (wdN.at ‹wdN _ _› (by first | omega | (simp only [wI] at *; omega) | (simp only [List.length_append, List.length_cons, List.length_nil, wI] at *; omega))) _ | exact wdN.set ‹wdN _ _› hrw.1 _ | (simp only [wI] at *; omega) | (simp only [List.length_append, List.length_cons, List.length_nil, List.length_set, wI] at *; omega)), (loopW.cont hk272 hB397).symm.trans hI273⟩
        ·refine CW.cond_f rfl hb386 (CW.exit (tx (tx ?_)))
         have hB408 : B_s_l30Scan_1 p_0 p_1 p_2 p_3 p_4 k30 x168 (x252, x253) = .brk (x252, x253) := by simp only [B_s_l30Scan_1, hb209, hb217, hb286, hb386, cL]
         have hL407 : loopW (B_s_l30Scan_1 p_0 p_1 p_2 p_3 p_4 k30 x168) ((((x168.length : Int)).toNat) + 1) ((x168.length : Int), (x168 ++ ([((s_l25Rows p_0 p_1).getD k30 d_Row)] : List DRow))) = .done (x252, x253) := hI273.symm.trans (loopW.brk hk272 hB408)
         refine bx (tn (CW.region (sd rfl (yl_move rfl rfl (sd rfl (yl_move rfl rfl (sd rfl (yl_loadN ty61 rfl rfl ((Box.ex hf277 hE375).cells (n := 1) rfl) rfl ?_))))))))
         have q410 := OwnL.ex good_Row hf276 hE375
         obtain ⟨eb411, eo411, ec411, eA411, eS411, ebl411, el411, eR411, eC411⟩ := OwnL.atN good_Row q410 d_Row (i := (x252).toNat) (by first | omega | assumption | (simp only [wI] at *; omega) | (simp only [List.length_append, List.length_cons, List.length_nil, wI] at *; omega))
         have hnb412 := hbk236 eb411 (by rw [eA411]; rfl)
         obtain ⟨A413, c413, rfl, h413⟩ := eR411
         refine sd rfl (yl_indexAddr un29 ty61 rfl rfl rfl eA411 (by first | omega | assumption | (simp only [wI] at *; omega) | (simp only [List.length_append, List.length_cons, List.length_nil, wI] at *; omega)) (by first | omega | assumption | (simp only [wI] at *; omega) | (simp only [List.length_append, List.length_cons, List.length_nil, wI] at *; omega)) ?_)
         have hrg414 := OwnL.rng q410 (i := (x252).toNat) (by first | omega | assumption | (simp only [wI] at *; omega) | (simp only [List.length_append, List.length_cons, List.length_nil, wI] at *; omega)) eb411 (by rw [eA411]; rfl)
         refine SeqR.u rfl rfl (yl_storeW (off := eo411) (i := (x252).toNat) (x' := ((s_l25Rows p_0 p_1).getD k30 d_Row)) (vs := [.slice A196 ((((s_l25Rows p_0 p_1).getD k30 d_Row).Vals).length) c196]) (S' := (Iv lo25 hi25)) good_Row ty61 rfl q410 eA411 rfl rfl rfl rfl (by first | omega | assumption | (simp only [wI] at *; omega) | (simp only [List.length_append, List.length_cons, List.length_nil, wI] at *; omega)) ⟨A196, c196, rfl, (RdS.ex good_Str hf278 hE375)⟩ (fun b hh _ => ⟨by have := hh.1; omega, by have := hh.1; have := hh.2; omega⟩) (by omega) ?_)
         intro w415 hB416 hO417
         have hO417z := hO417.size
         refine SeqR.done (bn (tn (CW.region (sd rfl (yl_inc rfl rfl rfl (by omega) (sd rfl (yl_move rfl rfl (dn ?_))))))))
         have hB419 : B_s_l30Scan_0 p_0 p_1 p_2 p_3 p_4 k30 (x168) = .cont ((x253.set ((x252).toNat) ((s_l25Rows p_0 p_1).getD k30 d_Row))) := by simp only [B_s_l30Scan_0, hb209, hb217, hb286, hb386, hL407, cL]
         have hz424 := OwnL.len hB416
         exact ⟨(s_l25Rows p_0 p_1).length - (k30 + 1), by omega, k30 + 1, (x253.set ((x252).toNat) ((s_l25Rows p_0 p_1).getD k30 d_Row)), A229, c230, w415.heap.size, rfl, hlt193, (by omega), (Sub.cons (d := 2) rfl (Sub.cons (d := 3) rfl (Sub.cons (d := 4) rfl (Sub.cons (d := 11) (by rw [← hz424]; exact rfl) (Sub.cons (d := 17) rfl (Sub.cons (d := 18) rfl (Sub.cons (d := 19) rfl (Sub.nil _)))))))), (OwnL.fix hB416), (OwnD.only goodO_Row (OwnD.ex goodO_Row hf279 hE375) hO417 (by omega)), (Below.only (Ex.trans hf280 hE375) hO417 (by omega)), (by omega), (by first | omega | (simp only [List.length_append, List.length_cons, List.length_nil, List.length_set, toS_length]; omega)), (fun k h => (hbk236 k h).1), (okE.set hok283 (okL.getD ho26 ok_d_Row _)), (by first | omega | assumption | (simp only [List.length_append, List.length_cons, List.length_nil, List.length_set]; omega) | exact wdN.nil | exact wdN.app ‹wdN _ _› hrw.1 | exact wdN.set ‹wdN _ _› (wdN.at ‹wdN _ _› (by first | omega | (simp only [wI] at *; omega) | (simp only [List.length_append, List.length_cons, List.length_nil, wI] at *; omega))) _ | exact wdN.set ‹wdN _ _› hrw.1 _ | (simp only [wI] at *; omega) | (simp only [List.length_append, List.length_cons, List.length_nil, List.length_set, wI] at *; omega)), (loopM.cont hlt193 hB419).symm.trans hI180⟩
      ·refine drJ 12 [.int .i64 (x252), .bool (decide (0 < x252)), .bool (decide (0 < x252)), undef, undef, undef, undef, undef, undef, undef, undef, .bool (false)] Tryz.follows rfl ⟨oI rfl fun h => yl_move rfl (h.g 14 rfl) kI, oI rfl fun h => yl_gtr rfl (h.g 45 rfl) rfl kI, oI rfl fun h => yl_move rfl (h.g 46 rfl) kI, oS rfl rfl rfl rfl rfl hb286, oS rfl rfl rfl rfl rfl hb286, oS rfl rfl rfl rfl rfl hb286, oS rfl rfl rfl rfl rfl hb286, oS rfl rfl rfl rfl rfl hb286, oS rfl rfl rfl rfl rfl hb286, oS rfl rfl rfl rfl rfl hb286, oS rfl rfl rfl rfl rfl hb286, oI rfl fun h => yl_pick_f rfl (h.g 47 rfl) hb286 rfl kI, trivial⟩ ?_
       ·intro fl489 fh490 L486 w487 hp488
        have hE491 := hp488.ex
        have hE491z := Ex.size hE491
        refine dn (CW.sub (hp488.ss [2, 3, 4, 11, 13, 14, 17, 18, 19, 56] rfl) (CW.cond_f rfl rfl (CW.exit (tx (tx ?_)))))
        have hB503 : B_s_l30Scan_1 p_0 p_1 p_2 p_3 p_4 k30 x168 (x252, x253) = .brk (x252, x253) := by simp only [B_s_l30Scan_1, hb209, hb217, hb286, cL]
        have hL502 : loopW (B_s_l30Scan_1 p_0 p_1 p_2 p_3 p_4 k30 x168) ((((x168.length : Int)).toNat) + 1) ((x168.length : Int), (x168 ++ ([((s_l25Rows p_0 p_1).getD k30 d_Row)] : List DRow))) = .done (x252, x253) := hI273.symm.trans (loopW.brk hk272 hB503)
        refine bx (tn (CW.region (sd rfl (yl_move rfl rfl (sd rfl (yl_move rfl rfl (sd rfl (yl_loadN ty61 rfl rfl ((Box.ex hf277 hE491).cells (n := 1) rfl) rfl ?_))))))))
        have q505 := OwnL.ex good_Row hf276 hE491
        obtain ⟨eb506, eo506, ec506, eA506, eS506, ebl506, el506, eR506, eC506⟩ := OwnL.atN good_Row q505 d_Row (i := (x252).toNat) (by first | omega | assumption | (simp only [wI] at *; omega) | (simp only [List.length_append, List.length_cons, List.length_nil, wI] at *; omega))
        have hnb507 := hbk236 eb506 (by rw [eA506]; rfl)
        obtain ⟨A508, c508, rfl, h508⟩ := eR506
        refine sd rfl (yl_indexAddr un29 ty61 rfl rfl rfl eA506 (by first | omega | assumption | (simp only [wI] at *; omega) | (simp only [List.length_append, List.length_cons, List.length_nil, wI] at *; omega)) (by first | omega | assumption | (simp only [wI] at *; omega) | (simp only [List.length_append, List.length_cons, List.length_nil, wI] at *; omega)) ?_)
        have hrg509 := OwnL.rng q505 (i := (x252).toNat) (by first | omega | assumption | (simp only [wI] at *; omega) | (simp only [List.length_append, List.length_cons, List.length_nil, wI] at *; omega)) eb506 (by rw [eA506]; rfl)
        refine SeqR.u rfl rfl (yl_storeW (off := eo506) (i := (x252).toNat) (x' := ((s_l25Rows p_0 p_1).getD k30 d_Row)) (vs := [.slice A196 ((((s_l25Rows p_0 p_1).getD k30 d_Row).Vals).length) c196]) (S' := (Iv lo25 hi25)) good_Row ty61 rfl q505 eA506 rfl rfl rfl rfl (by first | omega | assumption | (simp only [wI] at *; omega) | (simp only [List.length_append, List.length_cons, List.length_nil, wI] at *; omega)) ⟨A196, c196, rfl, (RdS.ex good_Str hf278 hE491)⟩ (fun b hh _ => ⟨by have := hh.1; omega, by have := hh.1; have := hh.2; omega⟩) (by omega) ?_)
        intro w510 hB511 hO512
        have hO512z := hO512.size
        refine SeqR.done (bn (tn (CW.region (sd rfl (yl_inc rfl rfl rfl (by omega) (sd rfl (yl_move rfl rfl (dn ?_))))))))
        have hB514 : B_s_l30Scan_0 p_0 p_1 p_2 p_3 p_4 k30 (x168) = .cont ((x253.set ((x252).toNat) ((s_l25Rows p_0 p_1).getD k30 d_Row))) := by simp only [B_s_l30Scan_0, hb209, hb217, hb286, hL502, cL]
        have hz519 := OwnL.len hB511
        exact ⟨(s_l25Rows p_0 p_1).length - (k30 + 1), by omega, k30 + 1, (x253.set ((x252).toNat) ((s_l25Rows p_0 p_1).getD k30 d_Row)), A229, c230, w510.heap.size, rfl, hlt193, (by omega), (Sub.cons (d := 2) rfl (Sub.cons (d := 3) rfl (Sub.cons (d := 4) rfl (Sub.cons (d := 11) (by rw [← hz519]; exact rfl) (Sub.cons (d := 17) rfl (Sub.cons (d := 18) rfl (Sub.cons (d := 19) rfl (Sub.nil _)))))))), (OwnL.fix hB511), (OwnD.only goodO_Row (OwnD.ex goodO_Row hf279 hE491) hO512 (by omega)), (Below.only (Ex.trans hf280 hE491) hO512 (by omega)), (by omega), (by first | omega | (simp only [List.length_append, List.length_cons, List.length_nil, List.length_set, toS_length]; omega)), (fun k h => (hbk236 k h).1), (okE.set hok283 (okL.getD ho26 ok_d_Row _)), (by first | omega | assumption | (simp only [List.length_append, List.length_cons, List.length_nil, List.length_set]; omega) | exact wdN.nil | exact wdN.app ‹wdN _ _› hrw.1 | exact wdN.set ‹wdN _ _› (wdN.at ‹wdN _ _› (by first | omega | (simp only [wI] at *; omega) | (simp only [List.length_append, List.length_cons, List.length_nil, wI] at *; omega))) _ | exact wdN.set ‹wdN _ _› hrw.1 _ | (simp only [wI] at *; omega) | (simp only [List.length_append, List.length_cons, List.length_nil, List.length_set, wI] at *; omega)), (loopM.cont hlt193 hB514).symm.trans hI180⟩
    ·refine CW.cond_t rfl (not_f hb217) (CW.exit (tx (bx (tn (CW.region (sd rfl (yl_inc rfl rfl rfl (by omega) (sd rfl (yl_move rfl rfl (SeqR.done ?_))))))))))
     refine tn ?_
     have hB520 : B_s_l30Scan_0 p_0 p_1 p_2 p_3 p_4 k30 (x168) = .cont (x168) := by simp only [B_s_l30Scan_0, hb209, hb217, cL]
     exact ⟨(s_l25Rows p_0 p_1).length - (k30 + 1), by omega, k30 + 1, x168, A169, c170, u171, rfl, hlt193, (by omega), (sR rfl), (OwnL.only good_Row (OwnL.ex good_Row hf183 hE202) hO205 (by omega)), (OwnD.only goodO_Row (OwnD.ex goodO_Row hf184 hE202) hO205 (by omega)), (Below.only (Ex.trans hf185 hE202) hO205 (by omega)), (by omega), (by first | omega | (simp only [List.length_append, List.length_cons, List.length_nil, List.length_set, toS_length]; omega)), hok188, hok189, (by first | omega | assumption | (simp only [List.length_append, List.length_cons, List.length_nil, List.length_set]; omega) | exact wdN.nil | exact wdN.app ‹wdN _ _› hrw.1 | exact wdN.set ‹wdN _ _› (wdN.at ‹wdN _ _› (by first | omega | (simp only [wI] at *; omega) | (simp only [List.length_append, List.length_cons, List.length_nil, wI] at *; omega))) _ | exact wdN.set ‹wdN _ _› hrw.1 _ | (simp only [wI] at *; omega) | (simp only [List.length_append, List.length_cons, List.length_nil, List.length_set, wI] at *; omega)), (loopM.cont hlt193 hB520).symm.trans hI180⟩
  ·refine CW.seq (CW.region (sd rfl (yl_lss rfl rfl rfl (dn (CW.seq (CW.cond_f rfl (lt_f hlt193) (CW.exit (tx ?_))))))))
   refine tx ?_
   have hL527 : loopM (B_s_l30Scan_0 p_0 p_1 p_2 p_3 p_4) ((s_l25Rows p_0 p_1).length - 0) 0 (([] : List DRow)) = .done (x168) := hI180.symm.trans (loopM.stop hlt193)
   refine bx (tn (CW.seq (CW.region (sd rfl (yl_move rfl rfl (sd rfl (yl_assign rfl rfl (dn (CW.ret ?_)))))))))
   refine rr rfl (.cons rfl .nil) ?_
   rw [show (s_l30Scan p_0 p_1 p_2 p_3 p_4) = (x168) by simp only [s_l30Scan, hL527, cL]]
   exact ⟨A169, c170, w.heap.size, u171, rfl, hf183, (okL.mk (xs := x168) (by first | omega | (simp only [List.length_append, List.length_cons, List.length_nil, List.length_take, List.length_drop, List.length_replicate, List.length_set, toS_length]; omega)) hok189), (by omega), hf185⟩
theorem c_s_ScanRange {A1 : Option Addr} {c1 : Nat} {A2 : Option Addr} {c2 : Nat} {A4 : Option Addr} {c4 : Nat} {w : World} (p_t : DTable) (p_store : List DWrite) (p_col : Int) (p_low : Str) (p_high : Str) (h1 : RdS w (Iv 0 w.heap.size) (RF e_Str) 1 A1 p_t.Cols.length c1 p_t.Cols) (h2 : RdS w (Iv 0 w.heap.size) (RF e_Idx) 3 A2 p_t.Idxs.length c2 p_t.Idxs) (h4 : RdS w (Iv 0 w.heap.size) (RF e_Write) 3 A4 p_store.length c4 p_store) (o3 : ok_Table p_t) (o5 : (okL ok_Write) p_store) (o6 : okS p_low) (o7 : okS p_high) : Cal Tryz.prog 6 #[.agg #[.string (bs (p_t.Name)), .slice A1 p_t.Cols.length c1, .slice A2 p_t.Idxs.length c2], .slice A4 p_store.length c4, .int .i64 (p_col), .string (bs (p_low)), .string (bs (p_high))] w fun v w' => ∃ A_1 c_1 lo_1 hi_1, v = .tuple #[.slice A_1 (((s_ScanRange p_t p_store p_col p_low p_high).1).length) c_1, .bool ((s_ScanRange p_t p_store p_col p_low p_high).2)] ∧ OwnL w' lo_1 hi_1 61 1 R_Row A_1 (((s_ScanRange p_t p_store p_col p_low p_high).1).length) c_1 ((s_ScanRange p_t p_store p_col p_low p_high).1) ∧ (okL ok_Row) ((s_ScanRange p_t p_store p_col p_low p_high).1) ∧ (w.heap.size ≤ lo_1 ∧ lo_1 ≤ hi_1 ∧ hi_1 ≤ w'.heap.size) ∧ Ex w w' := by
 have hol8 : p_t.Name.length ≤ 1073741824 := o3.1
 have hol9 := o3.2.1.1
 have hol10 := o3.2.2.1
 have hol11 := o5.1
 have hol12 : p_low.length ≤ 1073741824 := o6
 have hol13 : p_high.length ≤ 1073741824 := o7
 refine Cal.of func6 rfl ntmps6 rfl (CW.seq (CW.region (sd rfl (yl_box rfl rfl rfl ?_))))
 intro b14 w15 hs16 hz17 hB18 hE19
 refine sd rfl (yl_assign rfl rfl (sd rfl (yl_assign rfl rfl (dn (CW.seq (CW.seq (CW.region (sd rfl (yl_loadN ty34 rfl rfl (hB18.cells (n := 3) rfl) rfl ?_)))))))))
 have q20 := Ex.trans (Ex.refl w) hE19
 refine sd rfl (yl_call en20 rfl (oc rfl oz) (Cal.mono (c_s_GoodTable p_t (RdS.up (RdS.ex good_Str h1 q20) good_Str) (RdS.up (RdS.ex good_Idx h2 q20) good_Idx) o3) ?_))
 rintro v24 w23 ⟨rfl, hE25⟩
 have hE25z := Ex.size hE25
 refine sd rfl (yl_not rfl rfl (sd rfl (yl_move rfl rfl (bcase (s_GoodTable p_t) (fun hb26 => ?_) (fun hb26 => ?_)))))
 ·have hb26p := f_s_GoodTable hb26
  refine sy rfl rfl (not_t hb26) (yl_move rfl rfl ?_)
  have q27 := Ex.trans q20 hE25
  refine sy rfl rfl (not_t hb26) (yl_call en21 rfl (oc rfl oz) (Cal.mono (c_s_l5Rows p_store (RdS.up (RdS.ex good_Write h4 q27) good_Write) o5) ?_))
  rintro v30 w29 ⟨rfl, hE31⟩
  have hE31z := Ex.size hE31
  refine sy rfl rfl (not_t hb26) (yl_not rfl rfl (sd rfl (yl_pick_f rfl rfl (not_t hb26) rfl (sd rfl (yl_move rfl rfl (bcase (s_l5Rows p_store) (fun hb32 => ?_) (fun hb32 => ?_)))))))
  ·have hb32p := l5Rows_len hb32
   refine sy rfl rfl (not_t hb32) (yl_move rfl rfl (sy rfl rfl (not_t hb32) (yl_fieldAddr fd34_1 rfl rfl ?_)))
   have q34 := Box.ex (Box.ex hB18 hE25) hE31
   refine sy rfl rfl (not_t hb32) (yl_load1 ty22 rfl rfl ((q34.cell 1).trans rfl) (sy rfl rfl (not_t hb32) (yl_len un22 rfl rfl (sy rfl rfl (not_t hb32) (yl_sub rfl rfl rfl (sy rfl rfl (not_t hb32) (yl_call en22 rfl (oc rfl (oc rfl (oc rfl oz))) (Cal.mono (c_s_l1In p_col 1 (IntKind.wrap .i64 ((p_t.Cols.length : Int) - 1))) ?_))))))))
   rintro v36 w35 ⟨rfl, hE37⟩
   have hE37z := Ex.size hE37
   refine sy rfl rfl (not_t hb32) (yl_not rfl rfl (sd rfl (yl_pick_f rfl rfl (not_t hb32) rfl (sd rfl (yl_move rfl rfl (bcase (s_l1In p_col 1 (IntKind.wrap .i64 ((p_t.Cols.length : Int) - 1))) (fun hb38 => ?_) (fun hb38 => ?_)))))))
   ·have hb38p := f_l1In hb38
    refine sy rfl rfl (not_t hb38) (yl_move rfl rfl (sy rfl rfl (not_t hb38) (yl_call en23 rfl (oc rfl oz) (Cal.mono (c_s_l25Field p_low o6) ?_))))
    rintro v40 w39 ⟨rfl, hE41⟩
    have hE41z := Ex.size hE41
    refine sy rfl rfl (not_t hb38) (yl_not rfl rfl (sd rfl (yl_pick_f rfl rfl (not_t hb38) rfl (sd rfl (yl_move rfl rfl (bcase (s_l25Field p_low) (fun hb42 => ?_) (fun hb42 => ?_)))))))
    ·refine sy rfl rfl (not_t hb42) (yl_move rfl rfl (sy rfl rfl (not_t hb42) (yl_call en23 rfl (oc rfl oz) (Cal.mono (c_s_l25Field p_high o7) ?_))))
     rintro v44 w43 ⟨rfl, hE45⟩
     have hE45z := Ex.size hE45
     refine sy rfl rfl (not_t hb42) (yl_not rfl rfl (sd rfl (yl_pick_f rfl rfl (not_t hb42) rfl (dn (bcase (s_l25Field p_high) (fun hb46 => ?_) (fun hb46 => ?_))))))
     ·refine CW.cond_f rfl (not_t hb46) (CW.skip (tn (CW.seq (CW.region (sd rfl (yl_loadN ty34 rfl rfl ((Box.ex (Box.ex (Box.ex q34 hE37) hE41) hE45).cells (n := 3) rfl) rfl (sd rfl (yl_move rfl rfl (sd rfl (yl_move rfl rfl (sd rfl (yl_move rfl rfl ?_))))))))))))
      refine sd rfl (yl_move rfl rfl ?_)
      have q53 := Ex.trans (Ex.trans (Ex.trans (Ex.trans q27 hE31) hE37) hE41) hE45
      refine sd rfl (yl_call en24 rfl (oc rfl (oc rfl (oc rfl (oc rfl (oc rfl oz))))) (Cal.mono (c_s_l30Scan p_t p_store p_col p_low p_high (RdS.up (RdS.ex good_Str h1 q53) good_Str) (RdS.up (RdS.ex good_Idx h2 q53) good_Idx) (RdS.up (RdS.ex good_Write h4 q53) good_Write) o3 o5 o6 o7 hb26 (rows24 hb32) (col_in' hb26 hb38)) ?_))
      rintro v60 w57 ⟨A58, c58, lo58, hi58, rfl, h58, ho59, hrn62, hE61⟩
      have hE61z := Ex.size hE61
      refine sd rfl (yl_assign rfl rfl (sd rfl (yl_assign rfl rfl (dn (CW.ret (rr rfl (.cons rfl (.cons rfl .nil)) ?_))))))
      rw [show (s_ScanRange p_t p_store p_col p_low p_high) = (((s_l30Scan p_t p_store p_col p_low p_high), true)) by simp only [s_ScanRange, hb26, hb32, hb38, hb42, hb46, cL]]
      exact ⟨A58, c58, lo58, hi58, rfl, h58, ho59, (by omega), (Ex.trans q53 hE61)⟩
     ·refine CW.cond_t rfl (not_f hb46) (CW.seq (CW.region (sd rfl (yl_assign rfl rfl (sd rfl (yl_assign rfl rfl (dn (CW.ret (tr ?_)))))))))
      refine rr rfl (.cons rfl (.cons rfl .nil)) ?_
      rw [show (s_ScanRange p_t p_store p_col p_low p_high) = ((([] : List DRow), false)) by simp only [s_ScanRange, hb26, hb32, hb38, hb42, hb46, cL]]
      exact ⟨none, 0, w43.heap.size, w43.heap.size, rfl, (OwnL.nil _ _ _ _ _ _), (okL.nil _), (by omega), (Ex.trans (Ex.trans (Ex.trans (Ex.trans q27 hE31) hE37) hE41) hE45)⟩
    ·refine sz rfl rfl (not_f hb42) (sz rfl rfl (not_f hb42) (sz rfl rfl (not_f hb42) (sd rfl (yl_pick_t rfl rfl (not_f hb42) rfl (dn (CW.cond_t rfl rfl (CW.seq (CW.region ?_))))))))
     refine sd rfl (yl_assign rfl rfl (sd rfl (yl_assign rfl rfl (dn (CW.ret (tr (rr rfl (.cons rfl (.cons rfl .nil)) ?_)))))))
     rw [show (s_ScanRange p_t p_store p_col p_low p_high) = ((([] : List DRow), false)) by simp only [s_ScanRange, hb26, hb32, hb38, hb42, cL]]
     exact ⟨none, 0, w39.heap.size, w39.heap.size, rfl, (OwnL.nil _ _ _ _ _ _), (okL.nil _), (by omega), (Ex.trans (Ex.trans (Ex.trans q27 hE31) hE37) hE41)⟩
   ·refine sz rfl rfl (not_f hb38) (sz rfl rfl (not_f hb38) (sz rfl rfl (not_f hb38) (sd rfl (yl_pick_t rfl rfl (not_f hb38) rfl (sd rfl (yl_move rfl rfl (sz rfl rfl rfl (sz rfl rfl rfl (sz rfl rfl rfl (sd rfl (yl_pick_t rfl rfl rfl rfl ?_)))))))))))
    refine dn (CW.cond_t rfl rfl (CW.seq (CW.region (sd rfl (yl_assign rfl rfl (sd rfl (yl_assign rfl rfl (dn ?_))))))))
    refine CW.ret (tr (rr rfl (.cons rfl (.cons rfl .nil)) ?_))
    rw [show (s_ScanRange p_t p_store p_col p_low p_high) = ((([] : List DRow), false)) by simp only [s_ScanRange, hb26, hb32, hb38, cL]]
    exact ⟨none, 0, w35.heap.size, w35.heap.size, rfl, (OwnL.nil _ _ _ _ _ _), (okL.nil _), (by omega), (Ex.trans (Ex.trans q27 hE31) hE37)⟩
  ·refine sz rfl rfl (not_f hb32) (sz rfl rfl (not_f hb32) (sz rfl rfl (not_f hb32) (sz rfl rfl (not_f hb32) (sz rfl rfl (not_f hb32) (sz rfl rfl (not_f hb32) (sz rfl rfl (not_f hb32) (sd rfl (yl_pick_t rfl rfl (not_f hb32) rfl (sd rfl (yl_move rfl rfl ?_))))))))))
   refine sz rfl rfl rfl (sz rfl rfl rfl (sz rfl rfl rfl (sd rfl (yl_pick_t rfl rfl rfl rfl (sd rfl (yl_move rfl rfl (sz rfl rfl rfl (sz rfl rfl rfl (sz rfl rfl rfl (sd rfl (yl_pick_t rfl rfl rfl rfl ?_)))))))))))
   refine dn (CW.cond_t rfl rfl (CW.seq (CW.region (sd rfl (yl_assign rfl rfl (sd rfl (yl_assign rfl rfl (dn ?_))))))))
   refine CW.ret (tr (rr rfl (.cons rfl (.cons rfl .nil)) ?_))
   rw [show (s_ScanRange p_t p_store p_col p_low p_high) = ((([] : List DRow), false)) by simp only [s_ScanRange, hb26, hb32, cL]]
   exact ⟨none, 0, w29.heap.size, w29.heap.size, rfl, (OwnL.nil _ _ _ _ _ _), (okL.nil _), (by omega), (Ex.trans q27 hE31)⟩
 ·refine sz rfl rfl (not_f hb26) (sz rfl rfl (not_f hb26) (sz rfl rfl (not_f hb26) (sd rfl (yl_pick_t rfl rfl (not_f hb26) rfl (sd rfl (yl_move rfl rfl (sz rfl rfl rfl (sz rfl rfl rfl (sz rfl rfl rfl (sz rfl rfl rfl ?_))))))))))
  refine sz rfl rfl rfl (sz rfl rfl rfl (sz rfl rfl rfl (sd rfl (yl_pick_t rfl rfl rfl rfl (sd rfl (yl_move rfl rfl (sz rfl rfl rfl (sz rfl rfl rfl (sz rfl rfl rfl (sd rfl (yl_pick_t rfl rfl rfl rfl ?_)))))))))))
  refine sd rfl (yl_move rfl rfl (sz rfl rfl rfl (sz rfl rfl rfl (sz rfl rfl rfl (sd rfl (yl_pick_t rfl rfl rfl rfl (dn (CW.cond_t rfl rfl (CW.seq ?_)))))))))
  refine CW.region (sd rfl (yl_assign rfl rfl (sd rfl (yl_assign rfl rfl (dn (CW.ret (tr (rr rfl (.cons rfl (.cons rfl .nil)) ?_))))))))
  rw [show (s_ScanRange p_t p_store p_col p_low p_high) = ((([] : List DRow), false)) by simp only [s_ScanRange, hb26, cL]]
  exact ⟨none, 0, w23.heap.size, w23.heap.size, rfl, (OwnL.nil _ _ _ _ _ _), (okL.nil _), (by omega), (Ex.trans q20 hE25)⟩
theorem c_l_toStringS {A1 : Option Addr} {c1 : Nat} {w : World} (p_a : List Str) (h1 : RdS w (Iv 0 w.heap.size) (RF e_Str) 1 A1 p_a.length c1 p_a) (o2 : (okL okS) p_a) : Cal Tryz.prog 25 #[.slice A1 p_a.length c1] w fun v w' => ∃ A_1 c_1 lo_1 hi_1, v = .slice A_1 p_a.length c_1 ∧ OwnL w' lo_1 hi_1 9 1 (RF e_Str) A_1 p_a.length c_1 p_a ∧ (w.heap.size ≤ lo_1 ∧ lo_1 ≤ hi_1 ∧ hi_1 ≤ w'.heap.size) ∧ Ex w w' := by
 have hol3 := o2.1
 refine Cal.of func25 rfl ntmps25 rfl (CW.seq (CW.region (sd rfl (yl_assign rfl rfl (dn (CW.seq (CW.region (sd rfl (yl_move rfl rfl ?_)))))))))
 refine sd rfl (yl_len un22 rfl rfl (sd rfl (yl_make (zs := [.string (bs (([] : Str)))]) (n := p_a.length) un22 ty9 rfl rfl (Nat.le_of_ble_eq_true rfl) rfl rfl rfl (by first | omega | assumption | (simp only [wI] at *; omega)) (by first | omega | assumption | (simp only [wI] at *; omega)) ?_)))
 intro b4 w5 hs6 hz7 hB8 hE9
 have hO10 : OwnL w5 b4 (b4 + 1) 9 1 (RF e_Str) (some ⟨b4, 0, none⟩) p_a.length p_a.length (List.replicate p_a.length d_Str) := by have := OwnL.of_boxF (lo := b4) (hi := b4 + 1) (xs := (List.replicate p_a.length d_Str)) hB8 (Nat.le_refl _) (Nat.lt_succ_self _) (EncL.zerosF (enc := e_Str) (d := d_Str) rfl p_a.length) (by rw [List.length_replicate]; omega); rwa [List.length_replicate] at this
 refine sd rfl (yl_assign rfl rfl (dn (CW.seq (CW.seq (CW.region (sd rfl (yl_assign rfl rfl (dn ?_))))))))
 refine CW.block (CW.loop (fun m20 L21 w22 => ∃ (k11 : Nat) (x19 : List Str), m20 = p_a.length - k11 ∧ k11 ≤ p_a.length ∧ w5.heap.size ≤ w22.heap.size ∧ Sub [(0, .slice A1 p_a.length c1), (3, .slice (some ⟨b4, 0, none⟩) p_a.length p_a.length), (4, .int .i64 ((k11 : Int)))] L21 ∧ OwnL w22 b4 (b4 + 1) 9 1 (RF e_Str) (some ⟨b4, 0, none⟩) p_a.length p_a.length x19 ∧ Ex w w22 ∧ loopM (B_l_toStringS_0 p_a) (p_a.length - k11) k11 (x19) = loopM (B_l_toStringS_0 p_a) (p_a.length - 0) 0 ((List.replicate p_a.length d_Str))) (p_a.length - 0) ?_ ?_)
 ·exact ⟨0, (List.replicate p_a.length d_Str), rfl, (by omega), Nat.le_refl _, (sR rfl), hO10, (Ex.trans (Ex.refl w) hE9), rfl⟩
 ·rintro m24 L25 w26 ⟨k11, x19, rfl, hk27, hsz29, hl30, hf31, hf32, hI28⟩
  refine CW.sub hl30 ?_
  have hf32z := Ex.size hf32
  have q34 := RdS.ex good_Str h1 hf32
  have hbg33 := RdS.big q34
  rcases Nat.lt_or_ge k11 p_a.length with hlt35 | hlt35
  ·refine CW.seq (CW.seq (CW.region (sd rfl (yl_move rfl rfl (sd rfl (yl_move rfl rfl (sd rfl (yl_len un22 rfl rfl (sd rfl (yl_lss rfl rfl rfl (dn ?_)))))))))))
   refine CW.cond_t rfl (lt_t hlt35) (CW.skip (tn (CW.seq (CW.block (CW.region (sd rfl (yl_move rfl rfl (sd rfl (yl_move rfl rfl (sd rfl (yl_move rfl rfl ?_)))))))))))
   refine sd rfl (yl_move rfl rfl ?_)
   obtain ⟨_, _, _, eA36, _, ebl36, _, eR36, eC36⟩ := RdS.aD q34 d_Str (i := k11)
   obtain rfl := eR36
   refine sd rfl (yl_ixN un22 ty9 rfl rfl rfl eA36 (sd rfl (yl_load1 ty9 rfl rfl (eC36 0 _ rfl) ?_)))
   obtain ⟨eb38, eo38, _, eA38, _, ebl38, _, eR38, _⟩ := RdS.aD (OwnL.rd good_Str hf31) d_Str (i := k11)
   obtain rfl := eR38
   refine sd rfl (yl_ixN un22 ty9 rfl rfl rfl eA38 ?_)
   have hrg39 := OwnL.rng hf31 (i := k11) (by first | omega | assumption | (simp only [wI] at *; omega)) eb38 (by rw [eA38]; rfl)
   refine SeqR.u rfl rfl (yl_storeF (off := eo38) (i := k11) (d := 0) (dx := d_Str) (x' := (p_a.getD k11 d_Str)) (vs := [.string (bs ((p_a.getD k11 d_Str)))]) ty9 rfl hf31 eA38 rfl rfl rfl rfl rfl (by first | omega | assumption | (simp only [wI] at *; omega)) (Nat.le_of_ble_eq_true rfl) rfl rfl ?_)
   intro w40 hB41 hO42
   have hO42z := hO42.size
   refine SeqR.done (bn (tn (CW.region (sd rfl (yl_move rfl rfl (sd rfl (yl_inc rfl rfl rfl (by omega) (sd rfl (yl_assign rfl rfl (dn ?_))))))))))
   have hB43 : B_l_toStringS_0 p_a k11 (x19) = .cont ((x19.set k11 (p_a.getD k11 d_Str))) := by simp only [B_l_toStringS_0, cL]
   exact ⟨p_a.length - (k11 + 1), by omega, k11 + 1, (x19.set k11 (p_a.getD k11 d_Str)), rfl, hlt35, (by omega), (sR rfl), hB41, (Below.only hf32 hO42 (by omega)), (loopM.cont hlt35 hB43).symm.trans hI28⟩
  ·refine CW.seq (CW.seq (CW.region (sd rfl (yl_move rfl rfl (sd rfl (yl_move rfl rfl (sd rfl (yl_len un22 rfl rfl (sd rfl (yl_lss rfl rfl rfl (dn ?_)))))))))))
   refine CW.cond_f rfl (lt_f hlt35) (CW.exit (tx (tx ?_)))
   have hL45 : loopM (B_l_toStringS_0 p_a) (p_a.length - 0) 0 ((List.replicate p_a.length d_Str)) = .done (x19) := hI28.symm.trans (loopM.stop hlt35)
   refine bx (tn (CW.seq (CW.region (sd rfl (yl_move rfl rfl (sd rfl (yl_assign rfl rfl (dn (CW.ret ?_)))))))))
   refine rr rfl (.cons rfl .nil) ?_
   have hM46 : p_a = (x19) := (to_StringS _).symm.trans <| by simp only [l_toStringS, hL45, cL]
   subst hM46
   exact ⟨(some ⟨b4, 0, none⟩), p_a.length, b4, (b4 + 1), rfl, hf31, (by omega), hf32⟩
theorem c_l_toIdx {w : World} (p_a : DIdx) (o1 : ok_Idx p_a) : Cal Tryz.prog 54 #[.agg #[.string (bs (p_a.Name)), .int .i64 (p_a.Col), .int .i64 (p_a.Stage)]] w fun v w' => v = .agg #[.string (bs (p_a.Name)), .int .i64 (p_a.Col), .int .i64 (p_a.Stage)] ∧ Ex w w' := by
 have hol2 : p_a.Name.length ≤ 1073741824 := o1
 refine Cal.of func54 rfl ntmps54 rfl (CW.seq (CW.region (sd rfl (yl_box rfl rfl rfl ?_))))
 intro b3 w4 hs5 hz6 hB7 hE8
 refine sd rfl (yl_alloc ty79 (cs := [.string (bs (([] : Str))), .int .i64 (0), .int .i64 (0)]) rfl rfl ?_)
 intro b9 w10 hs11 hz12 hB13 hE14
 refine dn (CW.seq (CW.region (sd rfl (yl_alloc ty79 (cs := [.string (bs (([] : Str))), .int .i64 (0), .int .i64 (0)]) rfl rfl ?_))))
 intro b15 w16 hs17 hz18 hB19 hE20
 refine dn (CW.seq (CW.region (sd rfl (yl_fieldAddr fd76_0 rfl rfl ?_))))
 have q22 := Box.ex (Box.ex hB7 hE14) hE20
 refine sd rfl (yl_load1 ty9 rfl rfl ((q22.cell 0).trans rfl) (sd rfl (yl_fieldAddr fd79_0 rfl rfl (SeqR.u rfl rfl (yl_store (vs := [.string (bs (p_a.Name))]) ty9 rfl rfl rfl rfl rfl rfl hB19 (Nat.le_of_ble_eq_true rfl) ?_)))))
 intro w23 hB24 hO25
 have hB24 : Box w23 b15 79 [.string (bs (p_a.Name)), .int .i64 (0), .int .i64 (0)] := hB24
 have hO25z := hO25.size
 refine dn (CW.seq (CW.region (sd rfl (yl_fieldAddr fd76_1 rfl rfl ?_))))
 have q26 := Box.only q22 hO25 (by omega)
 refine sd rfl (yl_load1 ty3 rfl rfl ((q26.cell 1).trans rfl) (sd rfl (yl_fieldAddr fd79_1 rfl rfl (SeqR.u rfl rfl (yl_store (vs := [.int .i64 (p_a.Col)]) ty3 rfl rfl rfl rfl rfl rfl hB24 (Nat.le_of_ble_eq_true rfl) ?_)))))
 intro w27 hB28 hO29
 have hB28 : Box w27 b15 79 [.string (bs (p_a.Name)), .int .i64 (p_a.Col), .int .i64 (0)] := hB28
 have hO29z := hO29.size
 refine dn (CW.seq (CW.region (sd rfl (yl_fieldAddr fd76_2 rfl rfl (sd rfl (yl_load1 ty3 rfl rfl (((Box.only q26 hO29 (by omega)).cell 2).trans rfl) (sd rfl (yl_fieldAddr fd79_2 rfl rfl (SeqR.u rfl rfl (yl_store (vs := [.int .i64 (p_a.Stage)]) ty3 rfl rfl rfl rfl rfl rfl hB28 (Nat.le_of_ble_eq_true rfl) ?_))))))))))
 intro w31 hB32 hO33
 have hB32 : Box w31 b15 79 [.string (bs (p_a.Name)), .int .i64 (p_a.Col), .int .i64 (p_a.Stage)] := hB32
 have hO33z := hO33.size
 refine dn (CW.seq (CW.region (sd rfl (yl_loadN ty79 rfl rfl (hB32.cells (n := 3) rfl) rfl (SeqR.u rfl rfl (yl_storeA (vs := [.string (bs (p_a.Name)), .int .i64 (p_a.Col), .int .i64 (p_a.Stage)]) ty79 rfl rfl rfl rfl rfl rfl (Box.only (Box.only (Box.only (Box.ex hB13 hE20) hO25 (by omega)) hO29 (by omega)) hO33 (by omega)) rfl ?_))))))
 intro w38 hB39 hO40
 have hO40z := hO40.size
 refine dn (CW.ret (rr rfl (.cons ⟨_, rfl, run_loadN ty79 (cs := [.string (bs (p_a.Name)), .int .i64 (p_a.Col), .int .i64 (p_a.Stage)]) rfl (hB39.cells (n := 3) rfl)⟩ .nil) ?_))
 have hM41 : p_a = (p_a) := (to_Idx _).symm.trans <| by simp only [l_toIdx, cL]
 rw [hM41]
 exact ⟨rfl, (Below.only (Below.only (Below.only (Below.only (Ex.trans (Ex.trans (Ex.trans (Ex.refl w) hE8) hE14) hE20) hO25 (by omega)) hO29 (by omega)) hO33 (by omega)) hO40 (by omega))⟩
theorem c_l_toIdxS {A1 : Option Addr} {c1 : Nat} {w : World} (p_a : List DIdx) (h1 : RdS w (Iv 0 w.heap.size) (RF e_Idx) 3 A1 p_a.length c1 p_a) (o2 : (okL ok_Idx) p_a) : Cal Tryz.prog 26 #[.slice A1 p_a.length c1] w fun v w' => ∃ A_1 c_1 lo_1 hi_1, v = .slice A_1 p_a.length c_1 ∧ OwnL w' lo_1 hi_1 79 3 (RF e_Idx) A_1 p_a.length c_1 p_a ∧ (w.heap.size ≤ lo_1 ∧ lo_1 ≤ hi_1 ∧ hi_1 ≤ w'.heap.size) ∧ Ex w w' := by
 have hol3 := o2.1
 refine Cal.of func26 rfl ntmps26 rfl (CW.seq (CW.region (sd rfl (yl_assign rfl rfl (dn (CW.seq (CW.region (sd rfl (yl_move rfl rfl ?_)))))))))
 refine sd rfl (yl_len un23 rfl rfl (sd rfl (yl_make (zs := [.string (bs (([] : Str))), .int .i64 (0), .int .i64 (0)]) (n := p_a.length) un32 ty79 rfl rfl (Nat.le_of_ble_eq_true rfl) rfl rfl rfl (by first | omega | assumption | (simp only [wI] at *; omega)) (by first | omega | assumption | (simp only [wI] at *; omega)) ?_)))
 intro b4 w5 hs6 hz7 hB8 hE9
 have hO10 : OwnL w5 b4 (b4 + 1) 79 3 (RF e_Idx) (some ⟨b4, 0, none⟩) p_a.length p_a.length (List.replicate p_a.length d_Idx) := by have := OwnL.of_boxF (lo := b4) (hi := b4 + 1) (xs := (List.replicate p_a.length d_Idx)) hB8 (Nat.le_refl _) (Nat.lt_succ_self _) (EncL.zerosF (enc := e_Idx) (d := d_Idx) rfl p_a.length) (by rw [List.length_replicate]; omega); rwa [List.length_replicate] at this
 refine sd rfl (yl_assign rfl rfl (dn (CW.seq (CW.seq (CW.region (sd rfl (yl_assign rfl rfl (dn ?_))))))))
 refine CW.block (CW.loop (fun m23 L24 w25 => ∃ (k11 : Nat) (x22 : List DIdx), m23 = p_a.length - k11 ∧ k11 ≤ p_a.length ∧ w5.heap.size ≤ w25.heap.size ∧ Sub [(0, .slice A1 p_a.length c1), (3, .slice (some ⟨b4, 0, none⟩) p_a.length p_a.length), (4, .int .i64 ((k11 : Int)))] L24 ∧ OwnL w25 b4 (b4 + 1) 79 3 (RF e_Idx) (some ⟨b4, 0, none⟩) p_a.length p_a.length x22 ∧ Ex w w25 ∧ loopM (B_l_toIdxS_0 p_a) (p_a.length - k11) k11 (x22) = loopM (B_l_toIdxS_0 p_a) (p_a.length - 0) 0 ((List.replicate p_a.length d_Idx))) (p_a.length - 0) ?_ ?_)
 ·exact ⟨0, (List.replicate p_a.length d_Idx), rfl, (by omega), Nat.le_refl _, (sR rfl), hO10, (Ex.trans (Ex.refl w) hE9), rfl⟩
 ·rintro m27 L28 w29 ⟨k11, x22, rfl, hk30, hsz32, hl33, hf34, hf35, hI31⟩
  refine CW.sub hl33 ?_
  have hf35z := Ex.size hf35
  have q37 := RdS.ex good_Idx h1 hf35
  have hbg36 := RdS.big q37
  rcases Nat.lt_or_ge k11 p_a.length with hlt38 | hlt38
  ·refine CW.seq (CW.seq (CW.region (sd rfl (yl_move rfl rfl (sd rfl (yl_move rfl rfl (sd rfl (yl_len un23 rfl rfl (sd rfl (yl_lss rfl rfl rfl (dn ?_)))))))))))
   refine CW.cond_t rfl (lt_t hlt38) (CW.skip (tn (CW.seq (CW.block (CW.region (sd rfl (yl_move rfl rfl (sd rfl (yl_move rfl rfl (sd rfl (yl_move rfl rfl ?_)))))))))))
   refine sd rfl (yl_move rfl rfl ?_)
   obtain ⟨_, _, _, eA39, _, ebl39, _, eR39, eC39⟩ := RdS.aD q37 d_Idx (i := k11)
   obtain rfl := eR39
   refine sd rfl (yl_ixN un23 ty76 rfl rfl rfl eA39 (sd rfl (yl_loadN ty76 rfl rfl eC39 rfl (sd rfl (yl_call en54 rfl (oc rfl oz) (Cal.mono (c_l_toIdx (p_a.getD k11 d_Idx) (okL.getD o2 ok_d_Idx _)) ?_))))))
   rintro v41 w40 ⟨rfl, hE42⟩
   have hE42z := Ex.size hE42
   have q44 := OwnL.ex good_Idx hf34 hE42
   obtain ⟨eb45, eo45, _, eA45, _, ebl45, _, eR45, _⟩ := RdS.aD (OwnL.rd good_Idx q44) d_Idx (i := k11)
   obtain rfl := eR45
   refine sd rfl (yl_ixN un32 ty79 rfl rfl rfl eA45 ?_)
   have hrg46 := OwnL.rng q44 (i := k11) (by first | omega | assumption | (simp only [wI] at *; omega)) eb45 (by rw [eA45]; rfl)
   refine SeqR.u rfl rfl (yl_storeF (off := eo45) (i := k11) (d := 0) (dx := d_Idx) (x' := (p_a.getD k11 d_Idx)) (vs := [.string (bs ((p_a.getD k11 d_Idx).Name)), .int .i64 ((p_a.getD k11 d_Idx).Col), .int .i64 ((p_a.getD k11 d_Idx).Stage)]) ty79 rfl q44 eA45 rfl rfl rfl rfl rfl (by first | omega | assumption | (simp only [wI] at *; omega)) (Nat.le_of_ble_eq_true rfl) rfl rfl ?_)
   intro w47 hB48 hO49
   have hO49z := hO49.size
   refine SeqR.done (bn (tn (CW.region (sd rfl (yl_move rfl rfl (sd rfl (yl_inc rfl rfl rfl (by omega) (sd rfl (yl_assign rfl rfl (dn ?_))))))))))
   have hB50 : B_l_toIdxS_0 p_a k11 (x22) = .cont ((x22.set k11 (p_a.getD k11 d_Idx))) := by simp only [B_l_toIdxS_0, cL]
   exact ⟨p_a.length - (k11 + 1), by omega, k11 + 1, (x22.set k11 (p_a.getD k11 d_Idx)), rfl, hlt38, (by omega), (sR rfl), hB48, (Below.only (Ex.trans hf35 hE42) hO49 (by omega)), (loopM.cont hlt38 hB50).symm.trans hI31⟩
  ·refine CW.seq (CW.seq (CW.region (sd rfl (yl_move rfl rfl (sd rfl (yl_move rfl rfl (sd rfl (yl_len un23 rfl rfl (sd rfl (yl_lss rfl rfl rfl (dn ?_)))))))))))
   refine CW.cond_f rfl (lt_f hlt38) (CW.exit (tx (tx ?_)))
   have hL53 : loopM (B_l_toIdxS_0 p_a) (p_a.length - 0) 0 ((List.replicate p_a.length d_Idx)) = .done (x22) := hI31.symm.trans (loopM.stop hlt38)
   refine bx (tn (CW.seq (CW.region (sd rfl (yl_move rfl rfl (sd rfl (yl_assign rfl rfl (dn (CW.ret ?_)))))))))
   refine rr rfl (.cons rfl .nil) ?_
   have hM54 : p_a = (x22) := (to_IdxS _).symm.trans <| by simp only [l_toIdxS, hL53, cL]
   subst hM54
   exact ⟨(some ⟨b4, 0, none⟩), p_a.length, b4, (b4 + 1), rfl, hf34, (by omega), hf35⟩
theorem c_l_toTable {A1 : Option Addr} {c1 : Nat} {A2 : Option Addr} {c2 : Nat} {w : World} (p_a : DTable) (h1 : RdS w (Iv 0 w.heap.size) (RF e_Str) 1 A1 p_a.Cols.length c1 p_a.Cols) (h2 : RdS w (Iv 0 w.heap.size) (RF e_Idx) 3 A2 p_a.Idxs.length c2 p_a.Idxs) (o3 : ok_Table p_a) : Cal Tryz.prog 7 #[.agg #[.string (bs (p_a.Name)), .slice A1 p_a.Cols.length c1, .slice A2 p_a.Idxs.length c2]] w fun v w' => ∃ A_1 c_1 lo_1 hi_1 A_2 c_2 lo_2 hi_2, v = .agg #[.string (bs (p_a.Name)), .slice A_1 p_a.Cols.length c_1, .slice A_2 p_a.Idxs.length c_2] ∧ OwnL w' lo_1 hi_1 9 1 (RF e_Str) A_1 p_a.Cols.length c_1 p_a.Cols ∧ OwnL w' lo_2 hi_2 79 3 (RF e_Idx) A_2 p_a.Idxs.length c_2 p_a.Idxs ∧ (w.heap.size ≤ lo_1 ∧ lo_1 ≤ hi_1 ∧ hi_1 ≤ w'.heap.size) ∧ (w.heap.size ≤ lo_2 ∧ lo_2 ≤ hi_2 ∧ hi_2 ≤ w'.heap.size) ∧ (hi_1 ≤ lo_2 ∨ hi_2 ≤ lo_1) ∧ Ex w w' := by
 have hol4 : p_a.Name.length ≤ 1073741824 := o3.1
 have hol5 := o3.2.1.1
 have hol6 := o3.2.2.1
 refine Cal.of func7 rfl ntmps7 rfl (CW.seq (CW.region (sd rfl (yl_box rfl rfl rfl ?_))))
 intro b7 w8 hs9 hz10 hB11 hE12
 refine sd rfl (yl_alloc ty34 (cs := [.string (bs (([] : Str))), .slice none 0 0, .slice none 0 0]) rfl rfl ?_)
 intro b13 w14 hs15 hz16 hB17 hE18
 refine dn (CW.seq (CW.region (sd rfl (yl_alloc ty34 (cs := [.string (bs (([] : Str))), .slice none 0 0, .slice none 0 0]) rfl rfl ?_))))
 intro b19 w20 hs21 hz22 hB23 hE24
 refine dn (CW.seq (CW.region (sd rfl (yl_fieldAddr fd25_0 rfl rfl ?_))))
 have q26 := Box.ex (Box.ex hB11 hE18) hE24
 refine sd rfl (yl_load1 ty9 rfl rfl ((q26.cell 0).trans rfl) (sd rfl (yl_fieldAddr fd34_0 rfl rfl (SeqR.u rfl rfl (yl_store (vs := [.string (bs (p_a.Name))]) ty9 rfl rfl rfl rfl rfl rfl hB23 (Nat.le_of_ble_eq_true rfl) ?_)))))
 intro w27 hB28 hO29
 have hB28 : Box w27 b19 34 [.string (bs (p_a.Name)), .slice none 0 0, .slice none 0 0] := hB28
 have hO29z := hO29.size
 refine dn (CW.seq (CW.region (sd rfl (yl_fieldAddr fd25_1 rfl rfl ?_))))
 have q30 := Box.only q26 hO29 (by omega)
 refine sd rfl (yl_load1 ty22 rfl rfl ((q30.cell 1).trans rfl) ?_)
 have q34 := Below.only (Ex.trans (Ex.trans (Ex.trans (Ex.refl w) hE12) hE18) hE24) hO29 (by omega)
 refine sd rfl (yl_call en25 rfl (oc rfl oz) (Cal.mono (c_l_toStringS p_a.Cols (RdS.up (RdS.ex good_Str h1 q34) good_Str) o3.2.1) ?_))
 rintro v38 w36 ⟨A37, c37, lo37, hi37, rfl, h37, hrn40, hE39⟩
 have hE39z := Ex.size hE39
 refine sd rfl (yl_fieldAddr fd34_1 rfl rfl (SeqR.u rfl rfl (yl_store (vs := [.slice A37 p_a.Cols.length c37]) ty22 rfl rfl rfl rfl rfl rfl (Box.ex hB28 hE39) (Nat.le_of_ble_eq_true rfl) ?_)))
 intro w42 hB43 hO44
 have hB43 : Box w42 b19 34 [.string (bs (p_a.Name)), .slice A37 p_a.Cols.length c37, .slice none 0 0] := hB43
 have hO44z := hO44.size
 refine dn (CW.seq (CW.region (sd rfl (yl_fieldAddr fd25_2 rfl rfl (sd rfl (yl_load1 ty23 rfl rfl (((Box.only (Box.ex q30 hE39) hO44 (by omega)).cell 2).trans rfl) ?_))))))
 have q48 := Below.only (Ex.trans q34 hE39) hO44 (by omega)
 refine sd rfl (yl_call en26 rfl (oc rfl oz) (Cal.mono (c_l_toIdxS p_a.Idxs (RdS.up (RdS.ex good_Idx h2 q48) good_Idx) o3.2.2) ?_))
 rintro v52 w50 ⟨A51, c51, lo51, hi51, rfl, h51, hrn54, hE53⟩
 have hE53z := Ex.size hE53
 refine sd rfl (yl_fieldAddr fd34_2 rfl rfl (SeqR.u rfl rfl (yl_store (vs := [.slice A51 p_a.Idxs.length c51]) ty32 rfl rfl rfl rfl rfl rfl (Box.ex hB43 hE53) (Nat.le_of_ble_eq_true rfl) ?_)))
 intro w56 hB57 hO58
 have hB57 : Box w56 b19 34 [.string (bs (p_a.Name)), .slice A37 p_a.Cols.length c37, .slice A51 p_a.Idxs.length c51] := hB57
 have hO58z := hO58.size
 refine dn (CW.seq (CW.region (sd rfl (yl_loadN ty34 rfl rfl (hB57.cells (n := 3) rfl) rfl (SeqR.u rfl rfl (yl_storeA (vs := [.string (bs (p_a.Name)), .slice A37 p_a.Cols.length c37, .slice A51 p_a.Idxs.length c51]) ty34 rfl rfl rfl rfl rfl rfl (Box.only (Box.ex (Box.only (Box.ex (Box.only (Box.ex hB17 hE24) hO29 (by omega)) hE39) hO44 (by omega)) hE53) hO58 (by omega)) rfl ?_))))))
 intro w65 hB66 hO67
 have hO67z := hO67.size
 refine dn (CW.ret (rr rfl (.cons ⟨_, rfl, run_loadN ty34 (cs := [.string (bs (p_a.Name)), .slice A37 p_a.Cols.length c37, .slice A51 p_a.Idxs.length c51]) rfl (hB66.cells (n := 3) rfl)⟩ .nil) ?_))
 have hM68 : p_a = (p_a) := (to_Table _).symm.trans <| by simp only [l_toTable, cL]
 rw [hM68]
 exact ⟨A37, c37, lo37, hi37, A51, c51, lo51, hi51, rfl, (OwnL.only good_Str (OwnL.only good_Str (OwnL.ex good_Str (OwnL.only good_Str h37 hO44 (by omega)) hE53) hO58 (by omega)) hO67 (by omega)), (OwnL.only good_Idx (OwnL.only good_Idx h51 hO58 (by omega)) hO67 (by omega)), (by omega), (by omega), (by omega), (Below.only (Below.only (Ex.trans q48 hE53) hO58 (by omega)) hO67 (by omega))⟩
theorem c_l_toWrite {w : World} (p_a : DWrite) (o1 : ok_Write p_a) : Cal Tryz.prog 27 #[.agg #[.string (bs (p_a.Key)), .string (bs (p_a.Val)), .bool (p_a.Gone)]] w fun v w' => v = .agg #[.string (bs (p_a.Key)), .string (bs (p_a.Val)), .bool (p_a.Gone)] ∧ Ex w w' := by
 have hol2 : p_a.Key.length ≤ 1073741824 := o1.1
 have hol3 : p_a.Val.length ≤ 1073741824 := o1.2
 refine Cal.of func27 rfl ntmps27 rfl (CW.seq (CW.region (sd rfl (yl_box rfl rfl rfl ?_))))
 intro b4 w5 hs6 hz7 hB8 hE9
 refine sd rfl (yl_alloc ty57 (cs := [.string (bs (([] : Str))), .string (bs (([] : Str))), .bool (false)]) rfl rfl ?_)
 intro b10 w11 hs12 hz13 hB14 hE15
 refine dn (CW.seq (CW.region (sd rfl (yl_alloc ty57 (cs := [.string (bs (([] : Str))), .string (bs (([] : Str))), .bool (false)]) rfl rfl ?_))))
 intro b16 w17 hs18 hz19 hB20 hE21
 refine dn (CW.seq (CW.region (sd rfl (yl_fieldAddr fd49_0 rfl rfl ?_))))
 have q23 := Box.ex (Box.ex hB8 hE15) hE21
 refine sd rfl (yl_load1 ty9 rfl rfl ((q23.cell 0).trans rfl) (sd rfl (yl_fieldAddr fd57_0 rfl rfl (SeqR.u rfl rfl (yl_store (vs := [.string (bs (p_a.Key))]) ty9 rfl rfl rfl rfl rfl rfl hB20 (Nat.le_of_ble_eq_true rfl) ?_)))))
 intro w24 hB25 hO26
 have hB25 : Box w24 b16 57 [.string (bs (p_a.Key)), .string (bs (([] : Str))), .bool (false)] := hB25
 have hO26z := hO26.size
 refine dn (CW.seq (CW.region (sd rfl (yl_fieldAddr fd49_1 rfl rfl ?_))))
 have q27 := Box.only q23 hO26 (by omega)
 refine sd rfl (yl_load1 ty9 rfl rfl ((q27.cell 1).trans rfl) (sd rfl (yl_fieldAddr fd57_1 rfl rfl (SeqR.u rfl rfl (yl_store (vs := [.string (bs (p_a.Val))]) ty9 rfl rfl rfl rfl rfl rfl hB25 (Nat.le_of_ble_eq_true rfl) ?_)))))
 intro w28 hB29 hO30
 have hB29 : Box w28 b16 57 [.string (bs (p_a.Key)), .string (bs (p_a.Val)), .bool (false)] := hB29
 have hO30z := hO30.size
 refine dn (CW.seq (CW.region (sd rfl (yl_fieldAddr fd49_2 rfl rfl (sd rfl (yl_load1 ty4 rfl rfl (((Box.only q27 hO30 (by omega)).cell 2).trans rfl) (sd rfl (yl_fieldAddr fd57_2 rfl rfl (SeqR.u rfl rfl (yl_store (vs := [.bool (p_a.Gone)]) ty4 rfl rfl rfl rfl rfl rfl hB29 (Nat.le_of_ble_eq_true rfl) ?_))))))))))
 intro w32 hB33 hO34
 have hB33 : Box w32 b16 57 [.string (bs (p_a.Key)), .string (bs (p_a.Val)), .bool (p_a.Gone)] := hB33
 have hO34z := hO34.size
 refine dn (CW.seq (CW.region (sd rfl (yl_loadN ty57 rfl rfl (hB33.cells (n := 3) rfl) rfl (SeqR.u rfl rfl (yl_storeA (vs := [.string (bs (p_a.Key)), .string (bs (p_a.Val)), .bool (p_a.Gone)]) ty57 rfl rfl rfl rfl rfl rfl (Box.only (Box.only (Box.only (Box.ex hB14 hE21) hO26 (by omega)) hO30 (by omega)) hO34 (by omega)) rfl ?_))))))
 intro w39 hB40 hO41
 have hO41z := hO41.size
 refine dn (CW.ret (rr rfl (.cons ⟨_, rfl, run_loadN ty57 (cs := [.string (bs (p_a.Key)), .string (bs (p_a.Val)), .bool (p_a.Gone)]) rfl (hB40.cells (n := 3) rfl)⟩ .nil) ?_))
 have hM42 : p_a = (p_a) := (to_Write _).symm.trans <| by simp only [l_toWrite, cL]
 rw [hM42]
 exact ⟨rfl, (Below.only (Below.only (Below.only (Below.only (Ex.trans (Ex.trans (Ex.trans (Ex.refl w) hE9) hE15) hE21) hO26 (by omega)) hO30 (by omega)) hO34 (by omega)) hO41 (by omega))⟩
end Go.Proofs.YtdhfokkkpcelpaaGreatDoor
