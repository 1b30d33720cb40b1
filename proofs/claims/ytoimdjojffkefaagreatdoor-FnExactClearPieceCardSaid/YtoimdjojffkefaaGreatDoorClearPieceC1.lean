/- Clear Piece: what each call returns, part 1. -/
import Derived.Test.YtoimdjojffkefaaGreatDoorClearPieceL
import Derived.Test.YtoimdjojffkefaaGreatDoorClearPieceF
import Derived.Test.YtoimdjojffkefaaGreatDoorClearPieceY
import Derived.Test.YtoimdjojffkefaaGreatDoorClearPieceU
set_option maxRecDepth 100000
set_option maxHeartbeats 2000000
open Go.Proofs.Tryz Go.Proofs.YtoimdjojffkefaaGreatDoor.Tryz
set_option linter.unusedVariables false
set_option linter.unusedSimpArgs false
namespace Go.Proofs.YtoimdjojffkefaaGreatDoor
open Go.RowKit Go.X
theorem c_l_szStringS {A1 : Option Addr} {c1 : Nat} {w : World} (p_a : List Str) (p_left : Int) (h1 : RdS w (Iv 0 w.heap.size) (RF e_Str) 1 A1 p_a.length c1 p_a) : Cal Tryz.prog 29 #[.slice A1 p_a.length c1, .int .i64 (p_left)] w fun v w' => v = .int .i64 ((l_szStringS p_a p_left)) ∧ Ex w w' := by
 refine Cal.of func29 rfl ntmps29 rfl (cR (sA rfl (dn (cR (sM rfl ?_)))))
 refine sM rfl (sd rfl (yL un22 rfl rfl (sd rfl (yl_sub rfl rfl rfl (sA rfl (dn (CW.seq (cR ?_))))))))
 refine sM rfl (sd rfl (yl_lss rfl rfl rfl (dn (bcD (q := (IntKind.wrap .i64 (p_left - (p_a.length : Int))) < 0) (fun hb2 hb2p => ?_) (fun hb2 hb2p => ?_)))))
 ·refine CW.cond_t rfl hb2 (cR (sA rfl (dn (CW.ret (tr (rr rfl (.cons rfl .nil) ?_))))))
  rw [show (l_szStringS p_a p_left) = (-1) by simp only [l_szStringS, hb2, cL]]
  exact ⟨rfl, (Ex.refl w)⟩
 ·refine CW.cond_f rfl hb2 (CW.skip (tn (CW.seq (cR (sA rfl (dn ?_))))))
  refine CW.block (CW.loop (fun m6 L7 w8 => ∃ (k4 : Nat) (x5 : Int), m6 = p_a.length - k4 ∧ k4 ≤ p_a.length ∧ w.heap.size ≤ w8.heap.size ∧ Sub [(0, .slice A1 p_a.length c1), (1, .int .i64 (x5)), (5, .int .i64 ((k4 : Int)))] L7 ∧ RdS w8 (Iv 0 w.heap.size) (RF e_Str) 1 A1 p_a.length c1 p_a ∧ Ex w w8 ∧ loopM (B_l_szStringS_0 p_a p_left) (p_a.length - k4) k4 (x5) = loopM (B_l_szStringS_0 p_a p_left) (p_a.length - 0) 0 (IntKind.wrap .i64 (p_left - (p_a.length : Int)))) (p_a.length - 0) ?_ ?_)
  ·exact ⟨0, IntKind.wrap .i64 (p_left - (p_a.length : Int)), rfl, oM, Nat.le_refl _, (sR rfl), h1, (Ex.refl w), rfl⟩
  ·rintro m9 L10 w11 ⟨k4, x5, rfl, hk12, hsz14, hl15, hf16, hf17, hI13⟩
   refine CW.sub hl15 ?_
   have hf17z := Ex.size hf17
   have hbg18 := RdS.big hf16
   rcases Nat.lt_or_ge k4 p_a.length with hlt19 | hlt19
   ·refine CW.seq (cR (sM rfl (sM rfl (sd rfl (yL un22 rfl rfl (sd rfl (yl_lss rfl rfl rfl (dn ?_))))))))
    refine CW.cond_t rfl (lt_t hlt19) (CW.skip (tn (CW.seq (CW.block (cR (sM rfl (sM rfl ?_)))))))
    refine sM rfl ?_
    obtain ⟨_, _, _, eA20, _, ebl20, _, eR20, eC20⟩ := RdS.aD hf16 d_Str (i := k4)
    obtain rfl := eR20
    refine sd rfl (yl_ixN un22 ty9 rfl rfl rfl eA20 (sd rfl (yl_load1 ty9 rfl rfl (eC20 0 _ rfl) (sd rfl (yl_slen un9 (a := (p_a.getD k4 d_Str)) rfl rfl (sd rfl (yl_sub rfl rfl rfl (sA rfl (dn (cR ?_))))))))))
    refine sM rfl (sd rfl (yl_lss rfl rfl rfl (dn (bcD (q := (IntKind.wrap .i64 (x5 - ((p_a.getD k4 d_Str).length : Int))) < 0) (fun hb21 hb21p => ?_) (fun hb21 hb21p => ?_)))))
    ·refine CW.cond_t rfl hb21 (cR (sA rfl (dn (CW.ret (br (tr ?_))))))
     refine tr ?_
     have hB23 : B_l_szStringS_0 p_a p_left k4 (x5) = .ret (-1) := by simp only [B_l_szStringS_0, hb2, hb21, cL]
     have hL22 : loopM (B_l_szStringS_0 p_a p_left) (p_a.length - 0) 0 (IntKind.wrap .i64 (p_left - (p_a.length : Int))) = .ret (-1) := hI13.symm.trans (loopM.ret hlt19 hB23)
     refine br (tr (rr rfl (.cons rfl .nil) ?_))
     rw [show (l_szStringS p_a p_left) = (-1) by simp only [l_szStringS, hb2, hb21, hL22, cL]]
     exact ⟨rfl, hf17⟩
    ·refine CW.cond_f rfl hb21 (CW.skip (bn (tn (CW.region (sM rfl (sd rfl (yl_inc rfl rfl rfl oM (sA rfl (SeqR.done ?_)))))))))
     refine tn ?_
     have hB25 : B_l_szStringS_0 p_a p_left k4 (x5) = .cont (IntKind.wrap .i64 (x5 - ((p_a.getD k4 d_Str).length : Int))) := by simp only [B_l_szStringS_0, hb2, hb21, cL]
     exact ⟨p_a.length - (k4 + 1), oM, k4 + 1, IntKind.wrap .i64 (x5 - ((p_a.getD k4 d_Str).length : Int)), rfl, hlt19, oM, (sR rfl), hf16, hf17, (loopM.cont hlt19 hB25).symm.trans hI13⟩
   ·refine CW.seq (cR (sM rfl (sM rfl (sd rfl (yL un22 rfl rfl (sd rfl (yl_lss rfl rfl rfl (dn ?_))))))))
    refine CW.cond_f rfl (lt_f hlt19) (CW.exit (tx (tx ?_)))
    have hL26 : loopM (B_l_szStringS_0 p_a p_left) (p_a.length - 0) 0 (IntKind.wrap .i64 (p_left - (p_a.length : Int))) = .done (x5) := hI13.symm.trans (loopM.stop hlt19)
    refine bx (tn (cR (sM rfl (sA rfl (dn (CW.ret ?_))))))
    refine rr rfl (.cons rfl .nil) ?_
    rw [show (l_szStringS p_a p_left) = (x5) by simp only [l_szStringS, hb2, hL26, cL]]
    exact ⟨rfl, hf17⟩
theorem c_l_szIdx {w : World} (p_a : DIdx) (p_left : Int) : Cal Tryz.prog 70 #[.agg #[.string (bs (p_a.Name)), .int .i64 (p_a.Col), .int .i64 (p_a.Stage)], .int .i64 (p_left)] w fun v w' => v = .int .i64 ((l_szIdx p_a p_left)) ∧ Ex w w' := by
 refine Cal.of func70 rfl ntmps70 rfl (cR (sd rfl (yl_box rfl rfl rfl ?_)))
 intro b1 w2 hs3 hz4 hB5 hE6
 refine sA rfl (dn (cR (sM rfl (sd rfl (yl_fieldAddr fd106_0 rfl rfl (sd rfl (yl_load1 ty9 rfl rfl ((hB5.cell 0).trans rfl) (sd rfl (yl_slen un9 (a := p_a.Name) rfl rfl ?_)))))))))
 refine sd rfl (yl_sub rfl rfl rfl (sA rfl (dn (CW.seq (cR (sM rfl (sd rfl (yl_lss rfl rfl rfl ?_))))))))
 refine dn (bcD (q := (IntKind.wrap .i64 (p_left - (p_a.Name.length : Int))) < 0) (fun hb7 hb7p => ?_) (fun hb7 hb7p => ?_))
 ·refine CW.cond_t rfl hb7 (cR (sA rfl (dn (CW.ret (tr (rr rfl (.cons rfl .nil) ?_))))))
  rw [show (l_szIdx p_a p_left) = (-1) by simp only [l_szIdx, hb7, cL]]
  exact ⟨rfl, (Ex.trans (Ex.refl w) hE6)⟩
 ·refine CW.cond_f rfl hb7 (CW.skip (tn (cR (sM rfl (sA rfl (dn ?_))))))
  refine CW.ret (rr rfl (.cons rfl .nil) ?_)
  rw [show (l_szIdx p_a p_left) = (IntKind.wrap .i64 (p_left - (p_a.Name.length : Int))) by simp only [l_szIdx, hb7, cL]]
  exact ⟨rfl, (Ex.trans (Ex.refl w) hE6)⟩
theorem c_l_szIdxS {A1 : Option Addr} {c1 : Nat} {w : World} (p_a : List DIdx) (p_left : Int) (h1 : RdS w (Iv 0 w.heap.size) (RF e_Idx) 3 A1 p_a.length c1 p_a) : Cal Tryz.prog 36 #[.slice A1 p_a.length c1, .int .i64 (p_left)] w fun v w' => v = .int .i64 ((l_szIdxS p_a p_left)) ∧ Ex w w' := by
 refine Cal.of func36 rfl ntmps36 rfl (cR (sA rfl (dn (cR (sM rfl ?_)))))
 refine sM rfl (sd rfl (yL un23 rfl rfl (sd rfl (yl_sub rfl rfl rfl (sA rfl (dn (CW.seq (cR ?_))))))))
 refine sM rfl (sd rfl (yl_lss rfl rfl rfl (dn (bcD (q := (IntKind.wrap .i64 (p_left - (p_a.length : Int))) < 0) (fun hb2 hb2p => ?_) (fun hb2 hb2p => ?_)))))
 ·refine CW.cond_t rfl hb2 (cR (sA rfl (dn (CW.ret (tr (rr rfl (.cons rfl .nil) ?_))))))
  rw [show (l_szIdxS p_a p_left) = (-1) by simp only [l_szIdxS, hb2, cL]]
  exact ⟨rfl, (Ex.refl w)⟩
 ·refine CW.cond_f rfl hb2 (CW.skip (tn (CW.seq (cR (sA rfl (dn ?_))))))
  refine CW.block (CW.loop (fun m6 L7 w8 => ∃ (k4 : Nat) (x5 : Int), m6 = p_a.length - k4 ∧ k4 ≤ p_a.length ∧ w.heap.size ≤ w8.heap.size ∧ Sub [(0, .slice A1 p_a.length c1), (1, .int .i64 (x5)), (5, .int .i64 ((k4 : Int)))] L7 ∧ RdS w8 (Iv 0 w.heap.size) (RF e_Idx) 3 A1 p_a.length c1 p_a ∧ Ex w w8 ∧ loopM (B_l_szIdxS_0 p_a p_left) (p_a.length - k4) k4 (x5) = loopM (B_l_szIdxS_0 p_a p_left) (p_a.length - 0) 0 (IntKind.wrap .i64 (p_left - (p_a.length : Int)))) (p_a.length - 0) ?_ ?_)
  ·exact ⟨0, IntKind.wrap .i64 (p_left - (p_a.length : Int)), rfl, oM, Nat.le_refl _, (sR rfl), h1, (Ex.refl w), rfl⟩
  ·rintro m9 L10 w11 ⟨k4, x5, rfl, hk12, hsz14, hl15, hf16, hf17, hI13⟩
   refine CW.sub hl15 ?_
   have hf17z := Ex.size hf17
   have hbg18 := RdS.big hf16
   rcases Nat.lt_or_ge k4 p_a.length with hlt19 | hlt19
   ·refine CW.seq (cR (sM rfl (sM rfl (sd rfl (yL un23 rfl rfl (sd rfl (yl_lss rfl rfl rfl (dn ?_))))))))
    refine CW.cond_t rfl (lt_t hlt19) (CW.skip (tn (CW.seq (CW.block (cR (sM rfl (sM rfl ?_)))))))
    obtain ⟨_, _, _, eA20, _, ebl20, _, eR20, eC20⟩ := RdS.aD hf16 d_Idx (i := k4)
    obtain rfl := eR20
    refine sd rfl (yl_ixN un23 ty106 rfl rfl rfl eA20 (sd rfl (yl_loadN ty106 rfl rfl eC20 rfl (sM rfl (sd rfl (yC en70 rfl (oc rfl (oc rfl oz)) (Cal.mono (c_l_szIdx (p_a.getD k4 d_Idx) x5) ?_)))))))
    rintro v22 w21 ⟨rfl, hE23⟩
    have hE23z := Ex.size hE23
    refine sA rfl (dn (cR (sM rfl (sd rfl (yl_lss rfl rfl rfl (dn ?_))))))
    refine bcD (q := (l_szIdx (p_a.getD k4 d_Idx) x5) < 0) (fun hb24 hb24p => ?_) (fun hb24 hb24p => ?_)
    ·refine CW.cond_t rfl hb24 (cR (sA rfl (dn (CW.ret (br (tr ?_))))))
     refine tr ?_
     have hB26 : B_l_szIdxS_0 p_a p_left k4 (x5) = .ret (-1) := by simp only [B_l_szIdxS_0, hb2, hb24, cL]
     have hL25 : loopM (B_l_szIdxS_0 p_a p_left) (p_a.length - 0) 0 (IntKind.wrap .i64 (p_left - (p_a.length : Int))) = .ret (-1) := hI13.symm.trans (loopM.ret hlt19 hB26)
     refine br (tr (rr rfl (.cons rfl .nil) ?_))
     rw [show (l_szIdxS p_a p_left) = (-1) by simp only [l_szIdxS, hb2, hb24, hL25, cL]]
     exact ⟨rfl, (Ex.trans hf17 hE23)⟩
    ·refine CW.cond_f rfl hb24 (CW.skip (bn (tn (CW.region (sM rfl (sd rfl (yl_inc rfl rfl rfl oM (sA rfl (SeqR.done ?_)))))))))
     refine tn ?_
     have hB29 : B_l_szIdxS_0 p_a p_left k4 (x5) = .cont ((l_szIdx (p_a.getD k4 d_Idx) x5)) := by simp only [B_l_szIdxS_0, hb2, hb24, cL]
     exact ⟨p_a.length - (k4 + 1), oM, k4 + 1, (l_szIdx (p_a.getD k4 d_Idx) x5), rfl, hlt19, oM, (sR rfl), (RdS.ex gI hf16 hE23), (Ex.trans hf17 hE23), (loopM.cont hlt19 hB29).symm.trans hI13⟩
   ·refine CW.seq (cR (sM rfl (sM rfl (sd rfl (yL un23 rfl rfl (sd rfl (yl_lss rfl rfl rfl (dn ?_))))))))
    refine CW.cond_f rfl (lt_f hlt19) (CW.exit (tx (tx ?_)))
    have hL32 : loopM (B_l_szIdxS_0 p_a p_left) (p_a.length - 0) 0 (IntKind.wrap .i64 (p_left - (p_a.length : Int))) = .done (x5) := hI13.symm.trans (loopM.stop hlt19)
    refine bx (tn (cR (sM rfl (sA rfl (dn (CW.ret ?_))))))
    refine rr rfl (.cons rfl .nil) ?_
    rw [show (l_szIdxS p_a p_left) = (x5) by simp only [l_szIdxS, hb2, hL32, cL]]
    exact ⟨rfl, hf17⟩
theorem c_l_szTable {A1 : Option Addr} {c1 : Nat} {A2 : Option Addr} {c2 : Nat} {w : World} (p_a : DTable) (p_left : Int) (h1 : RdS w (Iv 0 w.heap.size) (RF e_Str) 1 A1 p_a.Cols.length c1 p_a.Cols) (h2 : RdS w (Iv 0 w.heap.size) (RF e_Idx) 3 A2 p_a.Idxs.length c2 p_a.Idxs) : Cal Tryz.prog 7 #[.agg #[.string (bs (p_a.Name)), .slice A1 p_a.Cols.length c1, .slice A2 p_a.Idxs.length c2], .int .i64 (p_left)] w fun v w' => v = .int .i64 ((l_szTable p_a p_left)) ∧ Ex w w' := by
 refine Cal.of func7 rfl ntmps7 rfl (cR (sd rfl (yl_box rfl rfl rfl ?_)))
 intro b3 w4 hs5 hz6 hB7 hE8
 refine sA rfl (dn (cR (sM rfl (sd rfl (yl_fieldAddr fd25_0 rfl rfl (sd rfl (yl_load1 ty9 rfl rfl ((hB7.cell 0).trans rfl) (sd rfl (yl_slen un9 (a := p_a.Name) rfl rfl ?_)))))))))
 refine sd rfl (yl_sub rfl rfl rfl (sA rfl (dn (CW.seq (cR (sM rfl (sd rfl (yl_lss rfl rfl rfl ?_))))))))
 refine dn (bcD (q := (IntKind.wrap .i64 (p_left - (p_a.Name.length : Int))) < 0) (fun hb9 hb9p => ?_) (fun hb9 hb9p => ?_))
 ·refine CW.cond_t rfl hb9 (cR (sA rfl (dn (CW.ret (tr (rr rfl (.cons rfl .nil) ?_))))))
  rw [show (l_szTable p_a p_left) = (-1) by simp only [l_szTable, hb9, cL]]
  exact ⟨rfl, (Ex.trans (Ex.refl w) hE8)⟩
 ·refine CW.cond_f rfl hb9 (CW.skip (tn (cR (sd rfl (yl_fieldAddr fd25_1 rfl rfl (sd rfl (yl_load1 ty22 rfl rfl ((hB7.cell 1).trans rfl) (sM rfl (sd rfl (yC en29 rfl (oc rfl (oc rfl oz)) (Cal.mono (c_l_szStringS p_a.Cols (IntKind.wrap .i64 (p_left - (p_a.Name.length : Int))) (RdS.up (RdS.ex gS h1 hE8) gS)) ?_)))))))))))
  rintro v14 w13 ⟨rfl, hE15⟩
  refine sA rfl (dn (CW.seq (cR (sM rfl (sd rfl (yl_lss rfl rfl rfl (SeqR.done ?_)))))))
  refine tn (bcD (q := (l_szStringS p_a.Cols (IntKind.wrap .i64 (p_left - (p_a.Name.length : Int)))) < 0) (fun hb16 hb16p => ?_) (fun hb16 hb16p => ?_))
  ·refine CW.cond_t rfl hb16 (cR (sA rfl (dn (CW.ret (tr (rr rfl (.cons rfl .nil) ?_))))))
   rw [show (l_szTable p_a p_left) = (-1) by simp only [l_szTable, hb9, hb16, cL]]
   exact ⟨rfl, (Ex.trans (Ex.trans (Ex.refl w) hE8) hE15)⟩
  ·refine CW.cond_f rfl hb16 (CW.skip (tn (cR (sd rfl (yl_fieldAddr fd25_2 rfl rfl (sd rfl (yl_load1 ty23 rfl rfl (((Box.ex hB7 hE15).cell 2).trans rfl) (sM rfl (sd rfl (yC en36 rfl (oc rfl (oc rfl oz)) (Cal.mono (c_l_szIdxS p_a.Idxs (l_szStringS p_a.Cols (IntKind.wrap .i64 (p_left - (p_a.Name.length : Int)))) (RdS.up (RdS.ex gI (RdS.ex gI h2 hE8) hE15) gI)) ?_)))))))))))
   rintro v24 w23 ⟨rfl, hE25⟩
   refine sA rfl (dn (CW.seq (cR (sM rfl (sd rfl (yl_lss rfl rfl rfl (SeqR.done ?_)))))))
   refine tn (bcD (q := (l_szIdxS p_a.Idxs (l_szStringS p_a.Cols (IntKind.wrap .i64 (p_left - (p_a.Name.length : Int))))) < 0) (fun hb26 hb26p => ?_) (fun hb26 hb26p => ?_))
   ·refine CW.cond_t rfl hb26 (cR (sA rfl (dn (CW.ret (tr (rr rfl (.cons rfl .nil) ?_))))))
    rw [show (l_szTable p_a p_left) = (-1) by simp only [l_szTable, hb9, hb16, hb26, cL]]
    exact ⟨rfl, (Ex.trans (Ex.trans (Ex.trans (Ex.refl w) hE8) hE15) hE25)⟩
   ·refine CW.cond_f rfl hb26 (CW.skip (tn (cR (sM rfl (sA rfl (dn ?_))))))
    refine CW.ret (rr rfl (.cons rfl .nil) ?_)
    rw [show (l_szTable p_a p_left) = ((l_szIdxS p_a.Idxs (l_szStringS p_a.Cols (IntKind.wrap .i64 (p_left - (p_a.Name.length : Int)))))) by simp only [l_szTable, hb9, hb16, hb26, cL]]
    exact ⟨rfl, (Ex.trans (Ex.trans (Ex.trans (Ex.refl w) hE8) hE15) hE25)⟩
theorem c_l_szWrite {w : World} (p_a : DWrite) (p_left : Int) : Cal Tryz.prog 37 #[.agg #[.string (bs (p_a.Key)), .string (bs (p_a.Val)), .bool (p_a.Gone)], .int .i64 (p_left)] w fun v w' => v = .int .i64 ((l_szWrite p_a p_left)) ∧ Ex w w' := by
 refine Cal.of func37 rfl ntmps37 rfl (cR (sd rfl (yl_box rfl rfl rfl ?_)))
 intro b1 w2 hs3 hz4 hB5 hE6
 refine sA rfl (dn (cR (sM rfl (sd rfl (yl_fieldAddr fd71_0 rfl rfl (sd rfl (yl_load1 ty9 rfl rfl ((hB5.cell 0).trans rfl) (sd rfl (yl_slen un9 (a := p_a.Key) rfl rfl ?_)))))))))
 refine sd rfl (yl_sub rfl rfl rfl (sA rfl (dn (CW.seq (cR (sM rfl (sd rfl (yl_lss rfl rfl rfl ?_))))))))
 refine dn (bcD (q := (IntKind.wrap .i64 (p_left - (p_a.Key.length : Int))) < 0) (fun hb7 hb7p => ?_) (fun hb7 hb7p => ?_))
 ·refine CW.cond_t rfl hb7 (cR (sA rfl (dn (CW.ret (tr (rr rfl (.cons rfl .nil) ?_))))))
  rw [show (l_szWrite p_a p_left) = (-1) by simp only [l_szWrite, hb7, cL]]
  exact ⟨rfl, (Ex.trans (Ex.refl w) hE6)⟩
 ·refine CW.cond_f rfl hb7 (CW.skip (tn (cR (sM rfl (sd rfl (yl_fieldAddr fd71_1 rfl rfl (sd rfl (yl_load1 ty9 rfl rfl ((hB5.cell 1).trans rfl) (sd rfl (yl_slen un9 (a := p_a.Val) rfl rfl ?_))))))))))
  refine sd rfl (yl_sub rfl rfl rfl (sA rfl (dn (CW.seq (cR (sM rfl (sd rfl (yl_lss rfl rfl rfl ?_))))))))
  refine dn (bcD (q := (IntKind.wrap .i64 ((IntKind.wrap .i64 (p_left - (p_a.Key.length : Int))) - (p_a.Val.length : Int))) < 0) (fun hb10 hb10p => ?_) (fun hb10 hb10p => ?_))
  ·refine CW.cond_t rfl hb10 (cR (sA rfl (dn (CW.ret (tr (rr rfl (.cons rfl .nil) ?_))))))
   rw [show (l_szWrite p_a p_left) = (-1) by simp only [l_szWrite, hb7, hb10, cL]]
   exact ⟨rfl, (Ex.trans (Ex.refl w) hE6)⟩
  ·refine CW.cond_f rfl hb10 (CW.skip (tn (cR (sM rfl (sA rfl (dn ?_))))))
   refine CW.ret (rr rfl (.cons rfl .nil) ?_)
   rw [show (l_szWrite p_a p_left) = (IntKind.wrap .i64 ((IntKind.wrap .i64 (p_left - (p_a.Key.length : Int))) - (p_a.Val.length : Int))) by simp only [l_szWrite, hb7, hb10, cL]]
   exact ⟨rfl, (Ex.trans (Ex.refl w) hE6)⟩
theorem c_l_szWriteS {A1 : Option Addr} {c1 : Nat} {w : World} (p_a : List DWrite) (p_left : Int) (h1 : RdS w (Iv 0 w.heap.size) (RF e_Write) 3 A1 p_a.length c1 p_a) : Cal Tryz.prog 8 #[.slice A1 p_a.length c1, .int .i64 (p_left)] w fun v w' => v = .int .i64 ((l_szWriteS p_a p_left)) ∧ Ex w w' := by
 refine Cal.of func8 rfl ntmps8 rfl (cR (sA rfl (dn (cR (sM rfl ?_)))))
 refine sM rfl (sd rfl (yL un26 rfl rfl (sd rfl (yl_sub rfl rfl rfl (sA rfl (dn (CW.seq (cR ?_))))))))
 refine sM rfl (sd rfl (yl_lss rfl rfl rfl (dn (bcD (q := (IntKind.wrap .i64 (p_left - (p_a.length : Int))) < 0) (fun hb2 hb2p => ?_) (fun hb2 hb2p => ?_)))))
 ·refine CW.cond_t rfl hb2 (cR (sA rfl (dn (CW.ret (tr (rr rfl (.cons rfl .nil) ?_))))))
  rw [show (l_szWriteS p_a p_left) = (-1) by simp only [l_szWriteS, hb2, cL]]
  exact ⟨rfl, (Ex.refl w)⟩
 ·refine CW.cond_f rfl hb2 (CW.skip (tn (CW.seq (cR (sA rfl (dn ?_))))))
  refine CW.block (CW.loop (fun m6 L7 w8 => ∃ (k4 : Nat) (x5 : Int), m6 = p_a.length - k4 ∧ k4 ≤ p_a.length ∧ w.heap.size ≤ w8.heap.size ∧ Sub [(0, .slice A1 p_a.length c1), (1, .int .i64 (x5)), (5, .int .i64 ((k4 : Int)))] L7 ∧ RdS w8 (Iv 0 w.heap.size) (RF e_Write) 3 A1 p_a.length c1 p_a ∧ Ex w w8 ∧ loopM (B_l_szWriteS_0 p_a p_left) (p_a.length - k4) k4 (x5) = loopM (B_l_szWriteS_0 p_a p_left) (p_a.length - 0) 0 (IntKind.wrap .i64 (p_left - (p_a.length : Int)))) (p_a.length - 0) ?_ ?_)
  ·exact ⟨0, IntKind.wrap .i64 (p_left - (p_a.length : Int)), rfl, oM, Nat.le_refl _, (sR rfl), h1, (Ex.refl w), rfl⟩
  ·rintro m9 L10 w11 ⟨k4, x5, rfl, hk12, hsz14, hl15, hf16, hf17, hI13⟩
   refine CW.sub hl15 ?_
   have hf17z := Ex.size hf17
   have hbg18 := RdS.big hf16
   rcases Nat.lt_or_ge k4 p_a.length with hlt19 | hlt19
   ·refine CW.seq (cR (sM rfl (sM rfl (sd rfl (yL un26 rfl rfl (sd rfl (yl_lss rfl rfl rfl (dn ?_))))))))
    refine CW.cond_t rfl (lt_t hlt19) (CW.skip (tn (CW.seq (CW.block (cR (sM rfl (sM rfl ?_)))))))
    obtain ⟨_, _, _, eA20, _, ebl20, _, eR20, eC20⟩ := RdS.aD hf16 d_Write (i := k4)
    obtain rfl := eR20
    refine sd rfl (yl_ixN un26 ty71 rfl rfl rfl eA20 (sd rfl (yl_loadN ty71 rfl rfl eC20 rfl (sM rfl (sd rfl (yC en37 rfl (oc rfl (oc rfl oz)) (Cal.mono (c_l_szWrite (p_a.getD k4 d_Write) x5) ?_)))))))
    rintro v22 w21 ⟨rfl, hE23⟩
    have hE23z := Ex.size hE23
    refine sA rfl (dn (cR (sM rfl (sd rfl (yl_lss rfl rfl rfl (dn ?_))))))
    refine bcD (q := (l_szWrite (p_a.getD k4 d_Write) x5) < 0) (fun hb24 hb24p => ?_) (fun hb24 hb24p => ?_)
    ·refine CW.cond_t rfl hb24 (cR (sA rfl (dn (CW.ret (br (tr ?_))))))
     refine tr ?_
     have hB26 : B_l_szWriteS_0 p_a p_left k4 (x5) = .ret (-1) := by simp only [B_l_szWriteS_0, hb2, hb24, cL]
     have hL25 : loopM (B_l_szWriteS_0 p_a p_left) (p_a.length - 0) 0 (IntKind.wrap .i64 (p_left - (p_a.length : Int))) = .ret (-1) := hI13.symm.trans (loopM.ret hlt19 hB26)
     refine br (tr (rr rfl (.cons rfl .nil) ?_))
     rw [show (l_szWriteS p_a p_left) = (-1) by simp only [l_szWriteS, hb2, hb24, hL25, cL]]
     exact ⟨rfl, (Ex.trans hf17 hE23)⟩
    ·refine CW.cond_f rfl hb24 (CW.skip (bn (tn (CW.region (sM rfl (sd rfl (yl_inc rfl rfl rfl oM (sA rfl (SeqR.done ?_)))))))))
     refine tn ?_
     have hB29 : B_l_szWriteS_0 p_a p_left k4 (x5) = .cont ((l_szWrite (p_a.getD k4 d_Write) x5)) := by simp only [B_l_szWriteS_0, hb2, hb24, cL]
     exact ⟨p_a.length - (k4 + 1), oM, k4 + 1, (l_szWrite (p_a.getD k4 d_Write) x5), rfl, hlt19, oM, (sR rfl), (RdS.ex gW hf16 hE23), (Ex.trans hf17 hE23), (loopM.cont hlt19 hB29).symm.trans hI13⟩
   ·refine CW.seq (cR (sM rfl (sM rfl (sd rfl (yL un26 rfl rfl (sd rfl (yl_lss rfl rfl rfl (dn ?_))))))))
    refine CW.cond_f rfl (lt_f hlt19) (CW.exit (tx (tx ?_)))
    have hL32 : loopM (B_l_szWriteS_0 p_a p_left) (p_a.length - 0) 0 (IntKind.wrap .i64 (p_left - (p_a.length : Int))) = .done (x5) := hI13.symm.trans (loopM.stop hlt19)
    refine bx (tn (cR (sM rfl (sA rfl (dn (CW.ret ?_))))))
    refine rr rfl (.cons rfl .nil) ?_
    rw [show (l_szWriteS p_a p_left) = (x5) by simp only [l_szWriteS, hb2, hL32, cL]]
    exact ⟨rfl, hf17⟩
theorem c_l_toStringS {A1 : Option Addr} {c1 : Nat} {w : World} (p_a : List Str) (h1 : RdS w (Iv 0 w.heap.size) (RF e_Str) 1 A1 p_a.length c1 p_a) (o2 : (okL okS) p_a) : Cal Tryz.prog 31 #[.slice A1 p_a.length c1] w fun v w' => ∃ A_1 c_1 lo_1 hi_1, v = .slice A_1 p_a.length c_1 ∧ OwnL w' lo_1 hi_1 9 1 (RF e_Str) A_1 p_a.length c_1 p_a ∧ (w.heap.size ≤ lo_1 ∧ lo_1 ≤ hi_1 ∧ hi_1 ≤ w'.heap.size) ∧ Ex w w' := by
 have hol3 := o2.1
 refine Cal.of func31 rfl ntmps31 rfl (cR (sA rfl (dn (cR (sM rfl ?_)))))
 refine sd rfl (yL un22 rfl rfl (sd rfl (yl_make (zs := [.string (bs (([] : Str)))]) (n := p_a.length) un22 ty9 rfl rfl (nb rfl) rfl rfl rfl Bo Bo ?_)))
 intro b4 w5 hs6 hz7 hB8 hE9
 have hO10 : OwnL w5 b4 (b4 + 1) 9 1 (RF e_Str) (some ⟨b4, 0, none⟩) p_a.length p_a.length (List.replicate p_a.length d_Str) := by have := OwnL.of_boxF (lo := b4) (hi := b4 + 1) (xs := (List.replicate p_a.length d_Str)) hB8 (Nat.le_refl _) (Nat.lt_succ_self _) (EncL.zerosF (enc := e_Str) (d := d_Str) rfl p_a.length) (by rw [List.length_replicate]; omega); rwa [List.length_replicate] at this
 refine sA rfl (dn (CW.seq (cR (sA rfl (dn ?_)))))
 refine CW.block (CW.loop (fun m20 L21 w22 => ∃ (k11 : Nat) (x19 : List Str), m20 = p_a.length - k11 ∧ k11 ≤ p_a.length ∧ w5.heap.size ≤ w22.heap.size ∧ Sub [(0, .slice A1 p_a.length c1), (3, .slice (some ⟨b4, 0, none⟩) p_a.length p_a.length), (4, .int .i64 ((k11 : Int)))] L21 ∧ RdS w22 (Iv 0 w.heap.size) (RF e_Str) 1 A1 p_a.length c1 p_a ∧ OwnL w22 b4 (b4 + 1) 9 1 (RF e_Str) (some ⟨b4, 0, none⟩) p_a.length p_a.length x19 ∧ Ex w w22 ∧ loopM (B_l_toStringS_0 p_a) (p_a.length - k11) k11 (x19) = loopM (B_l_toStringS_0 p_a) (p_a.length - 0) 0 ((List.replicate p_a.length d_Str))) (p_a.length - 0) ?_ ?_)
 ·exact ⟨0, (List.replicate p_a.length d_Str), rfl, oM, Nat.le_refl _, (sR rfl), (RdS.ex gS h1 hE9), hO10, (Ex.trans (Ex.refl w) hE9), rfl⟩
 ·rintro m25 L26 w27 ⟨k11, x19, rfl, hk28, hsz30, hl31, hf32, hf33, hf34, hI29⟩
  refine CW.sub hl31 ?_
  have hf34z := Ex.size hf34
  have hbg35 := RdS.big hf32
  rcases Nat.lt_or_ge k11 p_a.length with hlt36 | hlt36
  ·refine CW.seq (cR (sM rfl (sM rfl (sd rfl (yL un22 rfl rfl (sd rfl (yl_lss rfl rfl rfl (dn ?_))))))))
   refine CW.cond_t rfl (lt_t hlt36) (CW.skip (tn (CW.seq (CW.block (CW.region (sM rfl (sM rfl (sM rfl ?_))))))))
   refine sM rfl ?_
   obtain ⟨_, _, _, eA37, _, ebl37, _, eR37, eC37⟩ := RdS.aD hf32 d_Str (i := k11)
   obtain rfl := eR37
   refine sd rfl (yl_ixN un22 ty9 rfl rfl rfl eA37 (sd rfl (yl_load1 ty9 rfl rfl (eC37 0 _ rfl) ?_)))
   obtain ⟨eb39, eo39, _, eA39, _, ebl39, _, eR39, _⟩ := RdS.aD (OwnL.rd gS hf33) d_Str (i := k11)
   obtain rfl := eR39
   refine sd rfl (yl_ixN un22 ty9 rfl rfl rfl eA39 ?_)
   have hrg40 := OwnL.rng hf33 (i := k11) Bo eb39 (by rw [eA39]; rfl)
   refine SeqR.u rfl rfl (yl_storeF (off := eo39) (i := k11) (d := 0) (dx := d_Str) (x' := (p_a.getD k11 d_Str)) (vs := [.string (bs ((p_a.getD k11 d_Str)))]) ty9 rfl hf33 eA39 rfl rfl rfl rfl rfl Bo (nb rfl) rfl rfl ?_)
   intro w41 hB42 hO43
   have hO43z := hO43.size
   refine SeqR.done (bn (tn (CW.region (sM rfl (sd rfl (yl_inc rfl rfl rfl oM (sA rfl (dn ?_))))))))
   have hB44 : B_l_toStringS_0 p_a k11 (x19) = .cont ((x19.set k11 (p_a.getD k11 d_Str))) := by simp only [B_l_toStringS_0, cL]
   exact ⟨p_a.length - (k11 + 1), oM, k11 + 1, (x19.set k11 (p_a.getD k11 d_Str)), rfl, hlt36, oM, (sR rfl), (RdS.only gS hf32 hO43 iV), hB42, (Below.only hf34 hO43 oM), (loopM.cont hlt36 hB44).symm.trans hI29⟩
  ·refine CW.seq (cR (sM rfl (sM rfl (sd rfl (yL un22 rfl rfl (sd rfl (yl_lss rfl rfl rfl (dn ?_))))))))
   refine CW.cond_f rfl (lt_f hlt36) (CW.exit (tx (tx ?_)))
   have hL47 : loopM (B_l_toStringS_0 p_a) (p_a.length - 0) 0 ((List.replicate p_a.length d_Str)) = .done (x19) := hI29.symm.trans (loopM.stop hlt36)
   refine bx (tn (cR (sM rfl (sA rfl (dn (CW.ret ?_))))))
   refine rr rfl (.cons rfl .nil) ?_
   have hM48 : p_a = (x19) := (to_StringS _).symm.trans <| by simp only [l_toStringS, hL47, cL]
   subst hM48
   exact ⟨(some ⟨b4, 0, none⟩), p_a.length, b4, (b4 + 1), rfl, hf33, oM, hf34⟩
theorem c_l_toIdx {w : World} (p_a : DIdx) (o1 : ok_Idx p_a) : Cal Tryz.prog 76 #[.agg #[.string (bs (p_a.Name)), .int .i64 (p_a.Col), .int .i64 (p_a.Stage)]] w fun v w' => v = .agg #[.string (bs (p_a.Name)), .int .i64 (p_a.Col), .int .i64 (p_a.Stage)] ∧ Ex w w' := by
 have hol2 : p_a.Name.length ≤ 1073741824 := o1
 refine Cal.of func76 rfl ntmps76 rfl (cR (sd rfl (yl_box rfl rfl rfl ?_)))
 intro b3 w4 hs5 hz6 hB7 hE8
 refine sd rfl (yB ty111 (cs := [.string (bs (([] : Str))), .int .i64 (0), .int .i64 (0)]) rfl rfl ?_)
 intro b9 w10 hs11 hz12 hB13 hE14
 refine dn (cR (sd rfl (yB ty111 (cs := [.string (bs (([] : Str))), .int .i64 (0), .int .i64 (0)]) rfl rfl ?_)))
 intro b15 w16 hs17 hz18 hB19 hE20
 refine dn (cR (sd rfl (yl_fieldAddr fd106_0 rfl rfl ?_)))
 have q22 := Box.ex (Box.ex hB7 hE14) hE20
 refine sd rfl (yl_load1 ty9 rfl rfl ((q22.cell 0).trans rfl) (sd rfl (yl_fieldAddr fd111_0 rfl rfl (SeqR.u rfl rfl (yl_store (vs := [.string (bs (p_a.Name))]) ty9 rfl rfl rfl rfl rfl rfl hB19 (nb rfl) ?_)))))
 intro w23 hB24 hO25
 have hB24 : Box w23 b15 111 [.string (bs (p_a.Name)), .int .i64 (0), .int .i64 (0)] := hB24
 have hO25z := hO25.size
 refine dn (cR (sd rfl (yl_fieldAddr fd106_1 rfl rfl ?_)))
 have q26 := Box.only q22 hO25 oM
 refine sd rfl (yl_load1 ty3 rfl rfl ((q26.cell 1).trans rfl) (sd rfl (yl_fieldAddr fd111_1 rfl rfl (SeqR.u rfl rfl (yl_store (vs := [.int .i64 (p_a.Col)]) ty3 rfl rfl rfl rfl rfl rfl hB24 (nb rfl) ?_)))))
 intro w27 hB28 hO29
 have hB28 : Box w27 b15 111 [.string (bs (p_a.Name)), .int .i64 (p_a.Col), .int .i64 (0)] := hB28
 have hO29z := hO29.size
 refine dn (cR (sd rfl (yl_fieldAddr fd106_2 rfl rfl (sd rfl (yl_load1 ty3 rfl rfl (((Box.only q26 hO29 oM).cell 2).trans rfl) (sd rfl (yl_fieldAddr fd111_2 rfl rfl (SeqR.u rfl rfl (yl_store (vs := [.int .i64 (p_a.Stage)]) ty3 rfl rfl rfl rfl rfl rfl hB28 (nb rfl) ?_)))))))))
 intro w31 hB32 hO33
 have hB32 : Box w31 b15 111 [.string (bs (p_a.Name)), .int .i64 (p_a.Col), .int .i64 (p_a.Stage)] := hB32
 have hO33z := hO33.size
 refine dn (cR (sd rfl (yl_loadN ty111 rfl rfl (hB32.cells (n := 3) rfl) rfl (SeqR.u rfl rfl (yl_storeA (vs := [.string (bs (p_a.Name)), .int .i64 (p_a.Col), .int .i64 (p_a.Stage)]) ty111 rfl rfl rfl rfl rfl rfl (Box.only (Box.only (Box.only (Box.ex hB13 hE20) hO25 oM) hO29 oM) hO33 oM) rfl ?_)))))
 intro w38 hB39 hO40
 have hO40z := hO40.size
 refine dn (CW.ret (rr rfl (.cons ⟨_, rfl, run_loadN ty111 (cs := [.string (bs (p_a.Name)), .int .i64 (p_a.Col), .int .i64 (p_a.Stage)]) rfl (hB39.cells (n := 3) rfl)⟩ .nil) ?_))
 have hM41 : p_a = (p_a) := (to_Idx _).symm.trans <| by simp only [l_toIdx, cL]
 rw [hM41]
 exact ⟨rfl, (Below.only (Below.only (Below.only (Below.only (Ex.trans (Ex.trans (Ex.trans (Ex.refl w) hE8) hE14) hE20) hO25 oM) hO29 oM) hO33 oM) hO40 oM)⟩
theorem c_l_toIdxS {A1 : Option Addr} {c1 : Nat} {w : World} (p_a : List DIdx) (h1 : RdS w (Iv 0 w.heap.size) (RF e_Idx) 3 A1 p_a.length c1 p_a) (o2 : (okL ok_Idx) p_a) : Cal Tryz.prog 43 #[.slice A1 p_a.length c1] w fun v w' => ∃ A_1 c_1 lo_1 hi_1, v = .slice A_1 p_a.length c_1 ∧ OwnL w' lo_1 hi_1 111 3 (RF e_Idx) A_1 p_a.length c_1 p_a ∧ (w.heap.size ≤ lo_1 ∧ lo_1 ≤ hi_1 ∧ hi_1 ≤ w'.heap.size) ∧ Ex w w' := by
 have hol3 := o2.1
 refine Cal.of func43 rfl ntmps43 rfl (cR (sA rfl (dn (cR (sM rfl ?_)))))
 refine sd rfl (yL un23 rfl rfl (sd rfl (yl_make (zs := [.string (bs (([] : Str))), .int .i64 (0), .int .i64 (0)]) (n := p_a.length) un37 ty111 rfl rfl (nb rfl) rfl rfl rfl Bo Bo ?_)))
 intro b4 w5 hs6 hz7 hB8 hE9
 have hO10 : OwnL w5 b4 (b4 + 1) 111 3 (RF e_Idx) (some ⟨b4, 0, none⟩) p_a.length p_a.length (List.replicate p_a.length d_Idx) := by have := OwnL.of_boxF (lo := b4) (hi := b4 + 1) (xs := (List.replicate p_a.length d_Idx)) hB8 (Nat.le_refl _) (Nat.lt_succ_self _) (EncL.zerosF (enc := e_Idx) (d := d_Idx) rfl p_a.length) (by rw [List.length_replicate]; omega); rwa [List.length_replicate] at this
 refine sA rfl (dn (CW.seq (cR (sA rfl (dn ?_)))))
 refine CW.block (CW.loop (fun m23 L24 w25 => ∃ (k11 : Nat) (x22 : List DIdx), m23 = p_a.length - k11 ∧ k11 ≤ p_a.length ∧ w5.heap.size ≤ w25.heap.size ∧ Sub [(0, .slice A1 p_a.length c1), (3, .slice (some ⟨b4, 0, none⟩) p_a.length p_a.length), (4, .int .i64 ((k11 : Int)))] L24 ∧ RdS w25 (Iv 0 w.heap.size) (RF e_Idx) 3 A1 p_a.length c1 p_a ∧ OwnL w25 b4 (b4 + 1) 111 3 (RF e_Idx) (some ⟨b4, 0, none⟩) p_a.length p_a.length x22 ∧ Ex w w25 ∧ loopM (B_l_toIdxS_0 p_a) (p_a.length - k11) k11 (x22) = loopM (B_l_toIdxS_0 p_a) (p_a.length - 0) 0 ((List.replicate p_a.length d_Idx))) (p_a.length - 0) ?_ ?_)
 ·exact ⟨0, (List.replicate p_a.length d_Idx), rfl, oM, Nat.le_refl _, (sR rfl), (RdS.ex gI h1 hE9), hO10, (Ex.trans (Ex.refl w) hE9), rfl⟩
 ·rintro m28 L29 w30 ⟨k11, x22, rfl, hk31, hsz33, hl34, hf35, hf36, hf37, hI32⟩
  refine CW.sub hl34 ?_
  have hf37z := Ex.size hf37
  have hbg38 := RdS.big hf35
  rcases Nat.lt_or_ge k11 p_a.length with hlt39 | hlt39
  ·refine CW.seq (cR (sM rfl (sM rfl (sd rfl (yL un23 rfl rfl (sd rfl (yl_lss rfl rfl rfl (dn ?_))))))))
   refine CW.cond_t rfl (lt_t hlt39) (CW.skip (tn (CW.seq (CW.block (CW.region (sM rfl (sM rfl (sM rfl ?_))))))))
   refine sM rfl ?_
   obtain ⟨_, _, _, eA40, _, ebl40, _, eR40, eC40⟩ := RdS.aD hf35 d_Idx (i := k11)
   obtain rfl := eR40
   refine sd rfl (yl_ixN un23 ty106 rfl rfl rfl eA40 (sd rfl (yl_loadN ty106 rfl rfl eC40 rfl (sd rfl (yC en76 rfl (oc rfl oz) (Cal.mono (c_l_toIdx (p_a.getD k11 d_Idx) (okL.getD o2 ok_d_Idx _)) ?_))))))
   rintro v42 w41 ⟨rfl, hE43⟩
   have hE43z := Ex.size hE43
   have q45 := OwnL.ex gI hf36 hE43
   obtain ⟨eb46, eo46, _, eA46, _, ebl46, _, eR46, _⟩ := RdS.aD (OwnL.rd gI q45) d_Idx (i := k11)
   obtain rfl := eR46
   refine sd rfl (yl_ixN un37 ty111 rfl rfl rfl eA46 ?_)
   have hrg47 := OwnL.rng q45 (i := k11) Bo eb46 (by rw [eA46]; rfl)
   refine SeqR.u rfl rfl (yl_storeF (off := eo46) (i := k11) (d := 0) (dx := d_Idx) (x' := (p_a.getD k11 d_Idx)) (vs := [.string (bs ((p_a.getD k11 d_Idx).Name)), .int .i64 ((p_a.getD k11 d_Idx).Col), .int .i64 ((p_a.getD k11 d_Idx).Stage)]) ty111 rfl q45 eA46 rfl rfl rfl rfl rfl Bo (nb rfl) rfl rfl ?_)
   intro w48 hB49 hO50
   have hO50z := hO50.size
   refine SeqR.done (bn (tn (CW.region (sM rfl (sd rfl (yl_inc rfl rfl rfl oM (sA rfl (dn ?_))))))))
   have hB51 : B_l_toIdxS_0 p_a k11 (x22) = .cont ((x22.set k11 (p_a.getD k11 d_Idx))) := by simp only [B_l_toIdxS_0, cL]
   exact ⟨p_a.length - (k11 + 1), oM, k11 + 1, (x22.set k11 (p_a.getD k11 d_Idx)), rfl, hlt39, oM, (sR rfl), (RdS.only gI (RdS.ex gI hf35 hE43) hO50 iV), hB49, (Below.only (Ex.trans hf37 hE43) hO50 oM), (loopM.cont hlt39 hB51).symm.trans hI32⟩
  ·refine CW.seq (cR (sM rfl (sM rfl (sd rfl (yL un23 rfl rfl (sd rfl (yl_lss rfl rfl rfl (dn ?_))))))))
   refine CW.cond_f rfl (lt_f hlt39) (CW.exit (tx (tx ?_)))
   have hL56 : loopM (B_l_toIdxS_0 p_a) (p_a.length - 0) 0 ((List.replicate p_a.length d_Idx)) = .done (x22) := hI32.symm.trans (loopM.stop hlt39)
   refine bx (tn (cR (sM rfl (sA rfl (dn (CW.ret ?_))))))
   refine rr rfl (.cons rfl .nil) ?_
   have hM57 : p_a = (x22) := (to_IdxS _).symm.trans <| by simp only [l_toIdxS, hL56, cL]
   subst hM57
   exact ⟨(some ⟨b4, 0, none⟩), p_a.length, b4, (b4 + 1), rfl, hf36, oM, hf37⟩
theorem c_l_toTable {A1 : Option Addr} {c1 : Nat} {A2 : Option Addr} {c2 : Nat} {w : World} (p_a : DTable) (h1 : RdS w (Iv 0 w.heap.size) (RF e_Str) 1 A1 p_a.Cols.length c1 p_a.Cols) (h2 : RdS w (Iv 0 w.heap.size) (RF e_Idx) 3 A2 p_a.Idxs.length c2 p_a.Idxs) (o3 : ok_Table p_a) : Cal Tryz.prog 11 #[.agg #[.string (bs (p_a.Name)), .slice A1 p_a.Cols.length c1, .slice A2 p_a.Idxs.length c2]] w fun v w' => ∃ A_1 c_1 lo_1 hi_1 A_2 c_2 lo_2 hi_2, v = .agg #[.string (bs (p_a.Name)), .slice A_1 p_a.Cols.length c_1, .slice A_2 p_a.Idxs.length c_2] ∧ OwnL w' lo_1 hi_1 9 1 (RF e_Str) A_1 p_a.Cols.length c_1 p_a.Cols ∧ OwnL w' lo_2 hi_2 111 3 (RF e_Idx) A_2 p_a.Idxs.length c_2 p_a.Idxs ∧ (w.heap.size ≤ lo_1 ∧ lo_1 ≤ hi_1 ∧ hi_1 ≤ w'.heap.size) ∧ (w.heap.size ≤ lo_2 ∧ lo_2 ≤ hi_2 ∧ hi_2 ≤ w'.heap.size) ∧ (hi_1 ≤ lo_2 ∨ hi_2 ≤ lo_1) ∧ Ex w w' := by
 have hol4 : p_a.Name.length ≤ 1073741824 := o3.1
 have hol5 := o3.2.1.1
 have hol6 := o3.2.2.1
 refine Cal.of func11 rfl ntmps11 rfl (cR (sd rfl (yl_box rfl rfl rfl ?_)))
 intro b7 w8 hs9 hz10 hB11 hE12
 refine sd rfl (yB ty39 (cs := [.string (bs (([] : Str))), .slice none 0 0, .slice none 0 0]) rfl rfl ?_)
 intro b13 w14 hs15 hz16 hB17 hE18
 refine dn (cR (sd rfl (yB ty39 (cs := [.string (bs (([] : Str))), .slice none 0 0, .slice none 0 0]) rfl rfl ?_)))
 intro b19 w20 hs21 hz22 hB23 hE24
 refine dn (cR (sd rfl (yl_fieldAddr fd25_0 rfl rfl ?_)))
 have q26 := Box.ex (Box.ex hB11 hE18) hE24
 refine sd rfl (yl_load1 ty9 rfl rfl ((q26.cell 0).trans rfl) (sd rfl (yl_fieldAddr fd39_0 rfl rfl (SeqR.u rfl rfl (yl_store (vs := [.string (bs (p_a.Name))]) ty9 rfl rfl rfl rfl rfl rfl hB23 (nb rfl) ?_)))))
 intro w27 hB28 hO29
 have hB28 : Box w27 b19 39 [.string (bs (p_a.Name)), .slice none 0 0, .slice none 0 0] := hB28
 have hO29z := hO29.size
 refine dn (cR (sd rfl (yl_fieldAddr fd25_1 rfl rfl ?_)))
 have q30 := Box.only q26 hO29 oM
 refine sd rfl (yl_load1 ty22 rfl rfl ((q30.cell 1).trans rfl) (sd rfl (yC en31 rfl (oc rfl oz) (Cal.mono (c_l_toStringS p_a.Cols (RdS.up (RdS.only gS (RdS.ex gS (RdS.ex gS (RdS.ex gS h1 hE12) hE18) hE24) hO29 iV) gS) o3.2.1) ?_))))
 rintro v37 w35 ⟨A36, c36, lo36, hi36, rfl, h36, hrn39, hE38⟩
 have hE38z := Ex.size hE38
 refine sd rfl (yl_fieldAddr fd39_1 rfl rfl (SeqR.u rfl rfl (yl_store (vs := [.slice A36 p_a.Cols.length c36]) ty22 rfl rfl rfl rfl rfl rfl (Box.ex hB28 hE38) (nb rfl) ?_)))
 intro w41 hB42 hO43
 have hB42 : Box w41 b19 39 [.string (bs (p_a.Name)), .slice A36 p_a.Cols.length c36, .slice none 0 0] := hB42
 have hO43z := hO43.size
 refine dn (cR (sd rfl (yl_fieldAddr fd25_2 rfl rfl (sd rfl (yl_load1 ty23 rfl rfl (((Box.only (Box.ex q30 hE38) hO43 oM).cell 2).trans rfl) (sd rfl (yC en43 rfl (oc rfl oz) (Cal.mono (c_l_toIdxS p_a.Idxs (RdS.up (RdS.only gI (RdS.ex gI (RdS.only gI (RdS.ex gI (RdS.ex gI (RdS.ex gI h2 hE12) hE18) hE24) hO29 iV) hE38) hO43 iV) gI) o3.2.2) ?_))))))))
 rintro v54 w52 ⟨A53, c53, lo53, hi53, rfl, h53, hrn56, hE55⟩
 have hE55z := Ex.size hE55
 refine sd rfl (yl_fieldAddr fd39_2 rfl rfl (SeqR.u rfl rfl (yl_store (vs := [.slice A53 p_a.Idxs.length c53]) ty37 rfl rfl rfl rfl rfl rfl (Box.ex hB42 hE55) (nb rfl) ?_)))
 intro w58 hB59 hO60
 have hB59 : Box w58 b19 39 [.string (bs (p_a.Name)), .slice A36 p_a.Cols.length c36, .slice A53 p_a.Idxs.length c53] := hB59
 have hO60z := hO60.size
 refine dn (cR (sd rfl (yl_loadN ty39 rfl rfl (hB59.cells (n := 3) rfl) rfl (SeqR.u rfl rfl (yl_storeA (vs := [.string (bs (p_a.Name)), .slice A36 p_a.Cols.length c36, .slice A53 p_a.Idxs.length c53]) ty39 rfl rfl rfl rfl rfl rfl (Box.only (Box.ex (Box.only (Box.ex (Box.only (Box.ex hB17 hE24) hO29 oM) hE38) hO43 oM) hE55) hO60 oM) rfl ?_)))))
 intro w67 hB68 hO69
 have hO69z := hO69.size
 refine dn (CW.ret (rr rfl (.cons ⟨_, rfl, run_loadN ty39 (cs := [.string (bs (p_a.Name)), .slice A36 p_a.Cols.length c36, .slice A53 p_a.Idxs.length c53]) rfl (hB68.cells (n := 3) rfl)⟩ .nil) ?_))
 have hM70 : p_a = (p_a) := (to_Table _).symm.trans <| by simp only [l_toTable, cL]
 rw [hM70]
 exact ⟨A36, c36, lo36, hi36, A53, c53, lo53, hi53, rfl, (OwnL.only gS (OwnL.only gS (OwnL.ex gS (OwnL.only gS h36 hO43 oM) hE55) hO60 oM) hO69 oM), (OwnL.only gI (OwnL.only gI h53 hO60 oM) hO69 oM), oM, oM, oM, (Below.only (Below.only (Ex.trans (Below.only (Ex.trans (Below.only (Ex.trans (Ex.trans (Ex.trans (Ex.refl w) hE12) hE18) hE24) hO29 oM) hE38) hO43 oM) hE55) hO60 oM) hO69 oM)⟩
theorem c_l_toWrite {w : World} (p_a : DWrite) (o1 : ok_Write p_a) : Cal Tryz.prog 44 #[.agg #[.string (bs (p_a.Key)), .string (bs (p_a.Val)), .bool (p_a.Gone)]] w fun v w' => v = .agg #[.string (bs (p_a.Key)), .string (bs (p_a.Val)), .bool (p_a.Gone)] ∧ Ex w w' := by
 have hol2 : p_a.Key.length ≤ 1073741824 := o1.1
 have hol3 : p_a.Val.length ≤ 1073741824 := o1.2
 refine Cal.of func44 rfl ntmps44 rfl (cR (sd rfl (yl_box rfl rfl rfl ?_)))
 intro b4 w5 hs6 hz7 hB8 hE9
 refine sd rfl (yB ty80 (cs := [.string (bs (([] : Str))), .string (bs (([] : Str))), .bool (false)]) rfl rfl ?_)
 intro b10 w11 hs12 hz13 hB14 hE15
 refine dn (cR (sd rfl (yB ty80 (cs := [.string (bs (([] : Str))), .string (bs (([] : Str))), .bool (false)]) rfl rfl ?_)))
 intro b16 w17 hs18 hz19 hB20 hE21
 refine dn (cR (sd rfl (yl_fieldAddr fd71_0 rfl rfl ?_)))
 have q23 := Box.ex (Box.ex hB8 hE15) hE21
 refine sd rfl (yl_load1 ty9 rfl rfl ((q23.cell 0).trans rfl) (sd rfl (yl_fieldAddr fd80_0 rfl rfl (SeqR.u rfl rfl (yl_store (vs := [.string (bs (p_a.Key))]) ty9 rfl rfl rfl rfl rfl rfl hB20 (nb rfl) ?_)))))
 intro w24 hB25 hO26
 have hB25 : Box w24 b16 80 [.string (bs (p_a.Key)), .string (bs (([] : Str))), .bool (false)] := hB25
 have hO26z := hO26.size
 refine dn (cR (sd rfl (yl_fieldAddr fd71_1 rfl rfl ?_)))
 have q27 := Box.only q23 hO26 oM
 refine sd rfl (yl_load1 ty9 rfl rfl ((q27.cell 1).trans rfl) (sd rfl (yl_fieldAddr fd80_1 rfl rfl (SeqR.u rfl rfl (yl_store (vs := [.string (bs (p_a.Val))]) ty9 rfl rfl rfl rfl rfl rfl hB25 (nb rfl) ?_)))))
 intro w28 hB29 hO30
 have hB29 : Box w28 b16 80 [.string (bs (p_a.Key)), .string (bs (p_a.Val)), .bool (false)] := hB29
 have hO30z := hO30.size
 refine dn (cR (sd rfl (yl_fieldAddr fd71_2 rfl rfl (sd rfl (yl_load1 ty4 rfl rfl (((Box.only q27 hO30 oM).cell 2).trans rfl) (sd rfl (yl_fieldAddr fd80_2 rfl rfl (SeqR.u rfl rfl (yl_store (vs := [.bool (p_a.Gone)]) ty4 rfl rfl rfl rfl rfl rfl hB29 (nb rfl) ?_)))))))))
 intro w32 hB33 hO34
 have hB33 : Box w32 b16 80 [.string (bs (p_a.Key)), .string (bs (p_a.Val)), .bool (p_a.Gone)] := hB33
 have hO34z := hO34.size
 refine dn (cR (sd rfl (yl_loadN ty80 rfl rfl (hB33.cells (n := 3) rfl) rfl (SeqR.u rfl rfl (yl_storeA (vs := [.string (bs (p_a.Key)), .string (bs (p_a.Val)), .bool (p_a.Gone)]) ty80 rfl rfl rfl rfl rfl rfl (Box.only (Box.only (Box.only (Box.ex hB14 hE21) hO26 oM) hO30 oM) hO34 oM) rfl ?_)))))
 intro w39 hB40 hO41
 have hO41z := hO41.size
 refine dn (CW.ret (rr rfl (.cons ⟨_, rfl, run_loadN ty80 (cs := [.string (bs (p_a.Key)), .string (bs (p_a.Val)), .bool (p_a.Gone)]) rfl (hB40.cells (n := 3) rfl)⟩ .nil) ?_))
 have hM42 : p_a = (p_a) := (to_Write _).symm.trans <| by simp only [l_toWrite, cL]
 rw [hM42]
 exact ⟨rfl, (Below.only (Below.only (Below.only (Below.only (Ex.trans (Ex.trans (Ex.trans (Ex.refl w) hE9) hE15) hE21) hO26 oM) hO30 oM) hO34 oM) hO41 oM)⟩
theorem c_l_toWriteS {A1 : Option Addr} {c1 : Nat} {w : World} (p_a : List DWrite) (h1 : RdS w (Iv 0 w.heap.size) (RF e_Write) 3 A1 p_a.length c1 p_a) (o2 : (okL ok_Write) p_a) : Cal Tryz.prog 12 #[.slice A1 p_a.length c1] w fun v w' => ∃ A_1 c_1 lo_1 hi_1, v = .slice A_1 p_a.length c_1 ∧ OwnL w' lo_1 hi_1 80 3 (RF e_Write) A_1 p_a.length c_1 p_a ∧ (w.heap.size ≤ lo_1 ∧ lo_1 ≤ hi_1 ∧ hi_1 ≤ w'.heap.size) ∧ Ex w w' := by
 have hol3 := o2.1
 refine Cal.of func12 rfl ntmps12 rfl (cR (sA rfl (dn (cR (sM rfl ?_)))))
 refine sd rfl (yL un26 rfl rfl (sd rfl (yl_make (zs := [.string (bs (([] : Str))), .string (bs (([] : Str))), .bool (false)]) (n := p_a.length) un34 ty80 rfl rfl (nb rfl) rfl rfl rfl Bo Bo ?_)))
 intro b4 w5 hs6 hz7 hB8 hE9
 have hO10 : OwnL w5 b4 (b4 + 1) 80 3 (RF e_Write) (some ⟨b4, 0, none⟩) p_a.length p_a.length (List.replicate p_a.length d_Write) := by have := OwnL.of_boxF (lo := b4) (hi := b4 + 1) (xs := (List.replicate p_a.length d_Write)) hB8 (Nat.le_refl _) (Nat.lt_succ_self _) (EncL.zerosF (enc := e_Write) (d := d_Write) rfl p_a.length) (by rw [List.length_replicate]; omega); rwa [List.length_replicate] at this
 refine sA rfl (dn (CW.seq (cR (sA rfl (dn ?_)))))
 refine CW.block (CW.loop (fun m23 L24 w25 => ∃ (k11 : Nat) (x22 : List DWrite), m23 = p_a.length - k11 ∧ k11 ≤ p_a.length ∧ w5.heap.size ≤ w25.heap.size ∧ Sub [(0, .slice A1 p_a.length c1), (3, .slice (some ⟨b4, 0, none⟩) p_a.length p_a.length), (4, .int .i64 ((k11 : Int)))] L24 ∧ RdS w25 (Iv 0 w.heap.size) (RF e_Write) 3 A1 p_a.length c1 p_a ∧ OwnL w25 b4 (b4 + 1) 80 3 (RF e_Write) (some ⟨b4, 0, none⟩) p_a.length p_a.length x22 ∧ Ex w w25 ∧ loopM (B_l_toWriteS_0 p_a) (p_a.length - k11) k11 (x22) = loopM (B_l_toWriteS_0 p_a) (p_a.length - 0) 0 ((List.replicate p_a.length d_Write))) (p_a.length - 0) ?_ ?_)
 ·exact ⟨0, (List.replicate p_a.length d_Write), rfl, oM, Nat.le_refl _, (sR rfl), (RdS.ex gW h1 hE9), hO10, (Ex.trans (Ex.refl w) hE9), rfl⟩
 ·rintro m28 L29 w30 ⟨k11, x22, rfl, hk31, hsz33, hl34, hf35, hf36, hf37, hI32⟩
  refine CW.sub hl34 ?_
  have hf37z := Ex.size hf37
  have hbg38 := RdS.big hf35
  rcases Nat.lt_or_ge k11 p_a.length with hlt39 | hlt39
  ·refine CW.seq (cR (sM rfl (sM rfl (sd rfl (yL un26 rfl rfl (sd rfl (yl_lss rfl rfl rfl (dn ?_))))))))
   refine CW.cond_t rfl (lt_t hlt39) (CW.skip (tn (CW.seq (CW.block (CW.region (sM rfl (sM rfl (sM rfl ?_))))))))
   refine sM rfl ?_
   obtain ⟨_, _, _, eA40, _, ebl40, _, eR40, eC40⟩ := RdS.aD hf35 d_Write (i := k11)
   obtain rfl := eR40
   refine sd rfl (yl_ixN un26 ty71 rfl rfl rfl eA40 (sd rfl (yl_loadN ty71 rfl rfl eC40 rfl (sd rfl (yC en44 rfl (oc rfl oz) (Cal.mono (c_l_toWrite (p_a.getD k11 d_Write) (okL.getD o2 ok_d_Write _)) ?_))))))
   rintro v42 w41 ⟨rfl, hE43⟩
   have hE43z := Ex.size hE43
   have q45 := OwnL.ex gW hf36 hE43
   obtain ⟨eb46, eo46, _, eA46, _, ebl46, _, eR46, _⟩ := RdS.aD (OwnL.rd gW q45) d_Write (i := k11)
   obtain rfl := eR46
   refine sd rfl (yl_ixN un34 ty80 rfl rfl rfl eA46 ?_)
   have hrg47 := OwnL.rng q45 (i := k11) Bo eb46 (by rw [eA46]; rfl)
   refine SeqR.u rfl rfl (yl_storeF (off := eo46) (i := k11) (d := 0) (dx := d_Write) (x' := (p_a.getD k11 d_Write)) (vs := [.string (bs ((p_a.getD k11 d_Write).Key)), .string (bs ((p_a.getD k11 d_Write).Val)), .bool ((p_a.getD k11 d_Write).Gone)]) ty80 rfl q45 eA46 rfl rfl rfl rfl rfl Bo (nb rfl) rfl rfl ?_)
   intro w48 hB49 hO50
   have hO50z := hO50.size
   refine SeqR.done (bn (tn (CW.region (sM rfl (sd rfl (yl_inc rfl rfl rfl oM (sA rfl (dn ?_))))))))
   have hB51 : B_l_toWriteS_0 p_a k11 (x22) = .cont ((x22.set k11 (p_a.getD k11 d_Write))) := by simp only [B_l_toWriteS_0, cL]
   exact ⟨p_a.length - (k11 + 1), oM, k11 + 1, (x22.set k11 (p_a.getD k11 d_Write)), rfl, hlt39, oM, (sR rfl), (RdS.only gW (RdS.ex gW hf35 hE43) hO50 iV), hB49, (Below.only (Ex.trans hf37 hE43) hO50 oM), (loopM.cont hlt39 hB51).symm.trans hI32⟩
  ·refine CW.seq (cR (sM rfl (sM rfl (sd rfl (yL un26 rfl rfl (sd rfl (yl_lss rfl rfl rfl (dn ?_))))))))
   refine CW.cond_f rfl (lt_f hlt39) (CW.exit (tx (tx ?_)))
   have hL56 : loopM (B_l_toWriteS_0 p_a) (p_a.length - 0) 0 ((List.replicate p_a.length d_Write)) = .done (x22) := hI32.symm.trans (loopM.stop hlt39)
   refine bx (tn (cR (sM rfl (sA rfl (dn (CW.ret ?_))))))
   refine rr rfl (.cons rfl .nil) ?_
   have hM57 : p_a = (x22) := (to_WriteS _).symm.trans <| by simp only [l_toWriteS, hL56, cL]
   subst hM57
   exact ⟨(some ⟨b4, 0, none⟩), p_a.length, b4, (b4 + 1), rfl, hf36, oM, hf37⟩
theorem c_l_eqWrite {w : World} (p_a : DWrite) (p_b : DWrite) : Cal Tryz.prog 50 #[.agg #[.string (bs (p_a.Key)), .string (bs (p_a.Val)), .bool (p_a.Gone)], .agg #[.string (bs (p_b.Key)), .string (bs (p_b.Val)), .bool (p_b.Gone)]] w fun v w' => v = .bool ((l_eqWrite p_a p_b)) ∧ Ex w w' := by
 refine Cal.of func50 rfl ntmps50 rfl (cR (sd rfl (yl_box rfl rfl rfl ?_)))
 intro b1 w2 hs3 hz4 hB5 hE6
 refine sd rfl (yl_box rfl rfl rfl ?_)
 intro b7 w8 hs9 hz10 hB11 hE12
 refine sA rfl (dn (CW.seq (cR (sd rfl (yl_fieldAddr fd80_0 rfl rfl ?_)))))
 have q13 := Box.ex hB5 hE12
 refine sd rfl (yl_load1 ty9 rfl rfl ((q13.cell 0).trans rfl) (sd rfl (yl_fieldAddr fd80_0 rfl rfl (sd rfl (yl_load1 ty9 rfl rfl ((hB11.cell 0).trans rfl) (sd rfl (yl_sneq (a := p_a.Key) (b := p_b.Key) rfl rfl rfl (dn (bcase (p_a.Key == p_b.Key) (fun hb14 => ?_) (fun hb14 => ?_))))))))))
 ·refine CW.cond_f rfl (not_t hb14) (CW.skip (tn (CW.seq (cR (sd rfl (yl_fieldAddr fd80_1 rfl rfl (sd rfl (yl_load1 ty9 rfl rfl ((q13.cell 1).trans rfl) (sd rfl (yl_fieldAddr fd80_1 rfl rfl ?_))))))))))
  refine sd rfl (yl_load1 ty9 rfl rfl ((hB11.cell 1).trans rfl) (sd rfl (yl_sneq (a := p_a.Val) (b := p_b.Val) rfl rfl rfl (dn (bcase (p_a.Val == p_b.Val) (fun hb15 => ?_) (fun hb15 => ?_))))))
  ·refine CW.cond_f rfl (not_t hb15) (CW.skip (tn (CW.seq (cR (sd rfl (yl_fieldAddr fd80_2 rfl rfl (sd rfl (yl_load1 ty4 rfl rfl ((q13.cell 2).trans rfl) (sd rfl (yl_fieldAddr fd80_2 rfl rfl ?_))))))))))
   refine sd rfl (yl_load1 ty4 rfl rfl ((hB11.cell 2).trans rfl) (sd rfl (yl_bneq un4 rfl rfl rfl (dn (bcase (p_a.Gone == p_b.Gone) (fun hb16 => ?_) (fun hb16 => ?_))))))
   ·refine CW.cond_f rfl (not_t hb16) (CW.skip (tn (cR (sA rfl (dn (CW.ret ?_))))))
    refine rr rfl (.cons rfl .nil) ?_
    rw [show (l_eqWrite p_a p_b) = (true) by simp only [l_eqWrite, hb14, hb15, hb16, cL]]
    exact ⟨rfl, (Ex.trans (Ex.trans (Ex.refl w) hE6) hE12)⟩
   ·refine CW.cond_t rfl (not_f hb16) (cR (sA rfl (dn (CW.ret (tr (rr rfl (.cons rfl .nil) ?_))))))
    rw [show (l_eqWrite p_a p_b) = (false) by simp only [l_eqWrite, hb14, hb15, hb16, cL]]
    exact ⟨rfl, (Ex.trans (Ex.trans (Ex.refl w) hE6) hE12)⟩
  ·refine CW.cond_t rfl (not_f hb15) (cR (sA rfl (dn (CW.ret (tr (rr rfl (.cons rfl .nil) ?_))))))
   rw [show (l_eqWrite p_a p_b) = (false) by simp only [l_eqWrite, hb14, hb15, cL]]
   exact ⟨rfl, (Ex.trans (Ex.trans (Ex.refl w) hE6) hE12)⟩
 ·refine CW.cond_t rfl (not_f hb14) (cR (sA rfl (dn (CW.ret (tr (rr rfl (.cons rfl .nil) ?_))))))
  rw [show (l_eqWrite p_a p_b) = (false) by simp only [l_eqWrite, hb14, cL]]
  exact ⟨rfl, (Ex.trans (Ex.trans (Ex.refl w) hE6) hE12)⟩
theorem c_l_eqWriteS {A1 : Option Addr} {c1 : Nat} {A2 : Option Addr} {c2 : Nat} {w : World} (p_a : List DWrite) (p_b : List DWrite) (h1 : RdS w (Iv 0 w.heap.size) (RF e_Write) 3 A1 p_a.length c1 p_a) (h2 : RdS w (Iv 0 w.heap.size) (RF e_Write) 3 A2 p_b.length c2 p_b) : Cal Tryz.prog 15 #[.slice A1 p_a.length c1, .slice A2 p_b.length c2] w fun v w' => v = .bool ((l_eqWriteS p_a p_b)) ∧ Ex w w' := by
 refine Cal.of func15 rfl ntmps15 rfl (cR (sA rfl (dn (CW.seq (cR ?_)))))
 refine sM rfl (sd rfl (yL un34 rfl rfl (sM rfl (sd rfl (yL un34 rfl rfl (sd rfl (yl_neq rfl rfl rfl (dn (bcD (q := (p_a.length : Int) = (p_b.length : Int)) (fun hb3 hb3p => ?_) (fun hb3 hb3p => ?_))))))))))
 ·refine CW.cond_f rfl (not_t hb3) (CW.skip (tn (CW.seq (cR (sA rfl (dn ?_))))))
  refine CW.block (CW.loop (fun m5 L6 w7 => ∃ (k4 : Nat), m5 = p_a.length - k4 ∧ k4 ≤ p_a.length ∧ w.heap.size ≤ w7.heap.size ∧ Sub [(0, .slice A1 p_a.length c1), (1, .slice A2 p_b.length c2), (5, .int .i64 ((k4 : Int)))] L6 ∧ RdS w7 (Iv 0 w.heap.size) (RF e_Write) 3 A1 p_a.length c1 p_a ∧ RdS w7 (Iv 0 w.heap.size) (RF e_Write) 3 A2 p_b.length c2 p_b ∧ Ex w w7 ∧ loopM (B_l_eqWriteS_0 p_a p_b) (p_a.length - k4) k4 () = loopM (B_l_eqWriteS_0 p_a p_b) (p_a.length - 0) 0 ()) (p_a.length - 0) ?_ ?_)
  ·exact ⟨0, rfl, oM, Nat.le_refl _, (sR rfl), h1, h2, (Ex.refl w), rfl⟩
  ·rintro m8 L9 w10 ⟨k4, rfl, hk11, hsz13, hl14, hf15, hf16, hf17, hI12⟩
   refine CW.sub hl14 ?_
   have hf17z := Ex.size hf17
   have hbg18 := RdS.big hf15
   rcases Nat.lt_or_ge k4 p_a.length with hlt19 | hlt19
   ·refine CW.seq (cR (sM rfl (sM rfl (sd rfl (yL un34 rfl rfl (sd rfl (yl_lss rfl rfl rfl (dn ?_))))))))
    refine CW.cond_t rfl (lt_t hlt19) (CW.skip (tn (CW.seq (CW.block (CW.seq ?_)))))
    obtain ⟨eb20, eo20, _, eA20, _, ebl20, _, eR20, eC20⟩ := RdS.aD hf15 d_Write (i := k4)
    obtain rfl := eR20
    obtain ⟨eb21, eo21, _, eA21, _, ebl21, _, eR21, eC21⟩ := RdS.aD hf16 d_Write (i := k4)
    obtain rfl := eR21
    refine drJ 10 [.slice A1 p_a.length c1, .int .i64 ((k4 : Int)), .pointer (some ⟨eb20, eo20 + k4 * 3, none⟩), .agg #[.string (bs ((p_a.getD k4 d_Write).Key)), .string (bs ((p_a.getD k4 d_Write).Val)), .bool ((p_a.getD k4 d_Write).Gone)], .slice A2 p_b.length c2, .int .i64 ((k4 : Int)), .pointer (some ⟨eb21, eo21 + k4 * 3, none⟩), .agg #[.string (bs ((p_b.getD k4 d_Write).Key)), .string (bs ((p_b.getD k4 d_Write).Val)), .bool ((p_b.getD k4 d_Write).Gone)], .bool ((l_eqWrite (p_a.getD k4 d_Write) (p_b.getD k4 d_Write))), .bool (!(l_eqWrite (p_a.getD k4 d_Write) (p_b.getD k4 d_Write)))] Tryz.follows rfl ⟨oI rfl fun h => yM rfl (h.g 0 rfl) kI, oI rfl fun h => yM rfl (h.g 5 rfl) kI, ?_, oI rfl fun h => yl_loadN ty80 rfl (h.g 19 rfl) (Cells.ex eC20 h.ex) rfl kI, oI rfl fun h => yM rfl (h.g 1 rfl) kI, oI rfl fun h => yM rfl (h.g 5 rfl) kI, ?_, oI rfl fun h => yl_loadN ty80 rfl (h.g 23 rfl) (Cells.ex eC21 h.ex) rfl kI, ?_, oI rfl fun h => yl_not rfl (h.g 25 rfl) kI, trivial⟩ ?_
    ·intro L33 w34 hi35
     have hE36 := hi35.ex
     have hE36z := Ex.size hE36
     exact os rfl ((yl_ixN un34 ty80 rfl (hi35.g 17 rfl) (hi35.g 18 rfl) eA20 kI))
    ·intro L55 w56 hi57
     have hE58 := hi57.ex
     have hE58z := Ex.size hE58
     exact os rfl ((yl_ixN un34 ty80 rfl (hi57.g 21 rfl) (hi57.g 22 rfl) eA21 kI))
    ·intro L67 w68 hi69
     exact OpR.op' rfl (yC en50 rfl (oc (hi69.g 20 rfl) (oc (hi69.g 24 rfl) oz)) (Cal.mono (c_l_eqWrite (p_a.getD k4 d_Write) (p_b.getD k4 d_Write)) fun _ _ h => h))
    ·intro fl84 fh85 L81 w82 hp83
     have hE86 := hp83.ex
     have hE86z := Ex.size hE86
     refine dn (CW.sub (hp83.ss [0, 1, 5, 26] rfl) (bcase (l_eqWrite (p_a.getD k4 d_Write) (p_b.getD k4 d_Write)) (fun hb91 => ?_) (fun hb91 => ?_)))
     ·refine CW.cond_f rfl (not_t hb91) (CW.skip (bn (tn (CW.region (sM rfl (sd rfl (yl_inc rfl rfl rfl oM (sA rfl (SeqR.done ?_)))))))))
      refine tn ?_
      have hB92 : B_l_eqWriteS_0 p_a p_b k4 () = .cont () := by simp only [B_l_eqWriteS_0, hb3, hb91, cL]
      exact ⟨p_a.length - (k4 + 1), oM, k4 + 1, rfl, hlt19, oM, (sR rfl), (RdS.ex gW hf15 hE86), (RdS.ex gW hf16 hE86), (Ex.trans hf17 hE86), (loopM.cont hlt19 hB92).symm.trans hI12⟩
     ·refine CW.cond_t rfl (not_f hb91) (cR (sA rfl (dn (CW.ret (br (tr ?_))))))
      refine tr ?_
      have hB97 : B_l_eqWriteS_0 p_a p_b k4 () = .ret false := by simp only [B_l_eqWriteS_0, hb3, hb91, cL]
      have hL96 : loopM (B_l_eqWriteS_0 p_a p_b) (p_a.length - 0) 0 () = .ret false := hI12.symm.trans (loopM.ret hlt19 hB97)
      refine br (tr (rr rfl (.cons rfl .nil) ?_))
      rw [show (l_eqWriteS p_a p_b) = (false) by simp only [l_eqWriteS, hb3, hb91, hL96, cL]]
      exact ⟨rfl, (Ex.trans hf17 hE86)⟩
   ·refine CW.seq (cR (sM rfl (sM rfl (sd rfl (yL un34 rfl rfl (sd rfl (yl_lss rfl rfl rfl (dn ?_))))))))
    refine CW.cond_f rfl (lt_f hlt19) (CW.exit (tx (tx ?_)))
    have hL100 : loopM (B_l_eqWriteS_0 p_a p_b) (p_a.length - 0) 0 () = .done () := hI12.symm.trans (loopM.stop hlt19)
    refine bx (tn (cR (sA rfl (dn (CW.ret (rr rfl (.cons rfl .nil) ?_))))))
    rw [show (l_eqWriteS p_a p_b) = (true) by simp only [l_eqWriteS, hb3, hL100, cL]]
    exact ⟨rfl, hf17⟩
 ·refine CW.cond_t rfl (not_f hb3) (cR (sA rfl (dn (CW.ret (tr (rr rfl (.cons rfl .nil) ?_))))))
  rw [show (l_eqWriteS p_a p_b) = (false) by simp only [l_eqWriteS, hb3, cL]]
  exact ⟨rfl, (Ex.refl w)⟩
theorem c_l_eqStringS {A1 : Option Addr} {c1 : Nat} {A2 : Option Addr} {c2 : Nat} {w : World} (p_a : List Str) (p_b : List Str) (h1 : RdS w (Iv 0 w.heap.size) (RF e_Str) 1 A1 p_a.length c1 p_a) (h2 : RdS w (Iv 0 w.heap.size) (RF e_Str) 1 A2 p_b.length c2 p_b) : Cal Tryz.prog 33 #[.slice A1 p_a.length c1, .slice A2 p_b.length c2] w fun v w' => v = .bool ((l_eqStringS p_a p_b)) ∧ Ex w w' := by
 refine Cal.of func33 rfl ntmps33 rfl (cR (sA rfl (dn (CW.seq (cR ?_)))))
 refine sM rfl (sd rfl (yL un22 rfl rfl (sM rfl (sd rfl (yL un22 rfl rfl (sd rfl (yl_neq rfl rfl rfl (dn (bcD (q := (p_a.length : Int) = (p_b.length : Int)) (fun hb3 hb3p => ?_) (fun hb3 hb3p => ?_))))))))))
 ·refine CW.cond_f rfl (not_t hb3) (CW.skip (tn (CW.seq (cR (sA rfl (dn ?_))))))
  refine CW.block (CW.loop (fun m5 L6 w7 => ∃ (k4 : Nat), m5 = p_a.length - k4 ∧ k4 ≤ p_a.length ∧ w.heap.size ≤ w7.heap.size ∧ Sub [(0, .slice A1 p_a.length c1), (1, .slice A2 p_b.length c2), (5, .int .i64 ((k4 : Int)))] L6 ∧ RdS w7 (Iv 0 w.heap.size) (RF e_Str) 1 A1 p_a.length c1 p_a ∧ RdS w7 (Iv 0 w.heap.size) (RF e_Str) 1 A2 p_b.length c2 p_b ∧ Ex w w7 ∧ loopM (B_l_eqStringS_0 p_a p_b) (p_a.length - k4) k4 () = loopM (B_l_eqStringS_0 p_a p_b) (p_a.length - 0) 0 ()) (p_a.length - 0) ?_ ?_)
  ·exact ⟨0, rfl, oM, Nat.le_refl _, (sR rfl), h1, h2, (Ex.refl w), rfl⟩
  ·rintro m8 L9 w10 ⟨k4, rfl, hk11, hsz13, hl14, hf15, hf16, hf17, hI12⟩
   refine CW.sub hl14 ?_
   have hf17z := Ex.size hf17
   have hbg18 := RdS.big hf15
   rcases Nat.lt_or_ge k4 p_a.length with hlt19 | hlt19
   ·refine CW.seq (cR (sM rfl (sM rfl (sd rfl (yL un22 rfl rfl (sd rfl (yl_lss rfl rfl rfl (dn ?_))))))))
    refine CW.cond_t rfl (lt_t hlt19) (CW.skip (tn (CW.seq (CW.block (CW.seq ?_)))))
    obtain ⟨eb20, eo20, _, eA20, _, ebl20, _, eR20, eC20⟩ := RdS.aD hf15 d_Str (i := k4)
    obtain rfl := eR20
    obtain ⟨eb21, eo21, _, eA21, _, ebl21, _, eR21, eC21⟩ := RdS.aD hf16 d_Str (i := k4)
    obtain rfl := eR21
    refine drJ 9 [.slice A1 p_a.length c1, .int .i64 ((k4 : Int)), .pointer (some ⟨eb20, eo20 + k4 * 1, none⟩), .string (bs ((p_a.getD k4 d_Str))), .slice A2 p_b.length c2, .int .i64 ((k4 : Int)), .pointer (some ⟨eb21, eo21 + k4 * 1, none⟩), .string (bs ((p_b.getD k4 d_Str))), .bool (!((p_a.getD k4 d_Str) == (p_b.getD k4 d_Str)))] Tryz.follows rfl ⟨oI rfl fun h => yM rfl (h.g 0 rfl) kI, oI rfl fun h => yM rfl (h.g 5 rfl) kI, ?_, oI rfl fun h => yl_load1 ty9 rfl (h.g 19 rfl) ((Cells.ex eC20 h.ex) 0 _ rfl) kI, oI rfl fun h => yM rfl (h.g 1 rfl) kI, oI rfl fun h => yM rfl (h.g 5 rfl) kI, ?_, oI rfl fun h => yl_load1 ty9 rfl (h.g 23 rfl) ((Cells.ex eC21 h.ex) 0 _ rfl) kI, oI rfl fun h => yl_sneq (a := (p_a.getD k4 d_Str)) (b := (p_b.getD k4 d_Str)) rfl (h.g 20 rfl) (h.g 24 rfl) kI, trivial⟩ ?_
    ·intro L32 w33 hi34
     have hE35 := hi34.ex
     have hE35z := Ex.size hE35
     exact os rfl ((yl_ixN un22 ty9 rfl (hi34.g 17 rfl) (hi34.g 18 rfl) eA20 kI))
    ·intro L54 w55 hi56
     have hE57 := hi56.ex
     have hE57z := Ex.size hE57
     exact os rfl ((yl_ixN un22 ty9 rfl (hi56.g 21 rfl) (hi56.g 22 rfl) eA21 kI))
    ·intro fl75 fh76 L72 w73 hp74
     have hE77 := hp74.ex
     have hE77z := Ex.size hE77
     refine dn (CW.sub (hp74.ss [0, 1, 5, 25] rfl) (bcase ((p_a.getD k4 d_Str) == (p_b.getD k4 d_Str)) (fun hb82 => ?_) (fun hb82 => ?_)))
     ·refine CW.cond_f rfl (not_t hb82) (CW.skip (bn (tn (CW.region (sM rfl (sd rfl (yl_inc rfl rfl rfl oM (sA rfl (SeqR.done ?_)))))))))
      refine tn ?_
      have hB83 : B_l_eqStringS_0 p_a p_b k4 () = .cont () := by simp only [B_l_eqStringS_0, hb3, hb82, cL]
      exact ⟨p_a.length - (k4 + 1), oM, k4 + 1, rfl, hlt19, oM, (sR rfl), (RdS.ex gS hf15 hE77), (RdS.ex gS hf16 hE77), (Ex.trans hf17 hE77), (loopM.cont hlt19 hB83).symm.trans hI12⟩
     ·refine CW.cond_t rfl (not_f hb82) (cR (sA rfl (dn (CW.ret (br (tr ?_))))))
      refine tr ?_
      have hB88 : B_l_eqStringS_0 p_a p_b k4 () = .ret false := by simp only [B_l_eqStringS_0, hb3, hb82, cL]
      have hL87 : loopM (B_l_eqStringS_0 p_a p_b) (p_a.length - 0) 0 () = .ret false := hI12.symm.trans (loopM.ret hlt19 hB88)
      refine br (tr (rr rfl (.cons rfl .nil) ?_))
      rw [show (l_eqStringS p_a p_b) = (false) by simp only [l_eqStringS, hb3, hb82, hL87, cL]]
      exact ⟨rfl, (Ex.trans hf17 hE77)⟩
   ·refine CW.seq (cR (sM rfl (sM rfl (sd rfl (yL un22 rfl rfl (sd rfl (yl_lss rfl rfl rfl (dn ?_))))))))
    refine CW.cond_f rfl (lt_f hlt19) (CW.exit (tx (tx ?_)))
    have hL91 : loopM (B_l_eqStringS_0 p_a p_b) (p_a.length - 0) 0 () = .done () := hI12.symm.trans (loopM.stop hlt19)
    refine bx (tn (cR (sA rfl (dn (CW.ret (rr rfl (.cons rfl .nil) ?_))))))
    rw [show (l_eqStringS p_a p_b) = (true) by simp only [l_eqStringS, hb3, hL91, cL]]
    exact ⟨rfl, hf17⟩
 ·refine CW.cond_t rfl (not_f hb3) (cR (sA rfl (dn (CW.ret (tr (rr rfl (.cons rfl .nil) ?_))))))
  rw [show (l_eqStringS p_a p_b) = (false) by simp only [l_eqStringS, hb3, cL]]
  exact ⟨rfl, (Ex.refl w)⟩
theorem c_l_eqIdx {w : World} (p_a : DIdx) (p_b : DIdx) : Cal Tryz.prog 88 #[.agg #[.string (bs (p_a.Name)), .int .i64 (p_a.Col), .int .i64 (p_a.Stage)], .agg #[.string (bs (p_b.Name)), .int .i64 (p_b.Col), .int .i64 (p_b.Stage)]] w fun v w' => v = .bool ((l_eqIdx p_a p_b)) ∧ Ex w w' := by
 refine Cal.of func88 rfl ntmps88 rfl (cR (sd rfl (yl_box rfl rfl rfl ?_)))
 intro b1 w2 hs3 hz4 hB5 hE6
 refine sd rfl (yl_box rfl rfl rfl ?_)
 intro b7 w8 hs9 hz10 hB11 hE12
 refine sA rfl (dn (CW.seq (cR (sd rfl (yl_fieldAddr fd111_0 rfl rfl ?_)))))
 have q13 := Box.ex hB5 hE12
 refine sd rfl (yl_load1 ty9 rfl rfl ((q13.cell 0).trans rfl) (sd rfl (yl_fieldAddr fd111_0 rfl rfl (sd rfl (yl_load1 ty9 rfl rfl ((hB11.cell 0).trans rfl) (sd rfl (yl_sneq (a := p_a.Name) (b := p_b.Name) rfl rfl rfl (dn (bcase (p_a.Name == p_b.Name) (fun hb14 => ?_) (fun hb14 => ?_))))))))))
 ·refine CW.cond_f rfl (not_t hb14) (CW.skip (tn (CW.seq (cR (sd rfl (yl_fieldAddr fd111_1 rfl rfl (sd rfl (yl_load1 ty3 rfl rfl ((q13.cell 1).trans rfl) (sd rfl (yl_fieldAddr fd111_1 rfl rfl ?_))))))))))
  refine sd rfl (yl_load1 ty3 rfl rfl ((hB11.cell 1).trans rfl) (sd rfl (yl_neq rfl rfl rfl (dn (bcD (q := p_a.Col = p_b.Col) (fun hb15 hb15p => ?_) (fun hb15 hb15p => ?_))))))
  ·refine CW.cond_f rfl (not_t hb15) (CW.skip (tn (CW.seq (cR (sd rfl (yl_fieldAddr fd111_2 rfl rfl (sd rfl (yl_load1 ty3 rfl rfl ((q13.cell 2).trans rfl) (sd rfl (yl_fieldAddr fd111_2 rfl rfl ?_))))))))))
   refine sd rfl (yl_load1 ty3 rfl rfl ((hB11.cell 2).trans rfl) (sd rfl (yl_neq rfl rfl rfl (dn (bcD (q := p_a.Stage = p_b.Stage) (fun hb16 hb16p => ?_) (fun hb16 hb16p => ?_))))))
   ·refine CW.cond_f rfl (not_t hb16) (CW.skip (tn (cR (sA rfl (dn (CW.ret ?_))))))
    refine rr rfl (.cons rfl .nil) ?_
    rw [show (l_eqIdx p_a p_b) = (true) by simp only [l_eqIdx, hb14, hb15, hb16, cL]]
    exact ⟨rfl, (Ex.trans (Ex.trans (Ex.refl w) hE6) hE12)⟩
   ·refine CW.cond_t rfl (not_f hb16) (cR (sA rfl (dn (CW.ret (tr (rr rfl (.cons rfl .nil) ?_))))))
    rw [show (l_eqIdx p_a p_b) = (false) by simp only [l_eqIdx, hb14, hb15, hb16, cL]]
    exact ⟨rfl, (Ex.trans (Ex.trans (Ex.refl w) hE6) hE12)⟩
  ·refine CW.cond_t rfl (not_f hb15) (cR (sA rfl (dn (CW.ret (tr (rr rfl (.cons rfl .nil) ?_))))))
   rw [show (l_eqIdx p_a p_b) = (false) by simp only [l_eqIdx, hb14, hb15, cL]]
   exact ⟨rfl, (Ex.trans (Ex.trans (Ex.refl w) hE6) hE12)⟩
 ·refine CW.cond_t rfl (not_f hb14) (cR (sA rfl (dn (CW.ret (tr (rr rfl (.cons rfl .nil) ?_))))))
  rw [show (l_eqIdx p_a p_b) = (false) by simp only [l_eqIdx, hb14, cL]]
  exact ⟨rfl, (Ex.trans (Ex.trans (Ex.refl w) hE6) hE12)⟩
theorem c_l_eqIdxS {A1 : Option Addr} {c1 : Nat} {A2 : Option Addr} {c2 : Nat} {w : World} (p_a : List DIdx) (p_b : List DIdx) (h1 : RdS w (Iv 0 w.heap.size) (RF e_Idx) 3 A1 p_a.length c1 p_a) (h2 : RdS w (Iv 0 w.heap.size) (RF e_Idx) 3 A2 p_b.length c2 p_b) : Cal Tryz.prog 51 #[.slice A1 p_a.length c1, .slice A2 p_b.length c2] w fun v w' => v = .bool ((l_eqIdxS p_a p_b)) ∧ Ex w w' := by
 refine Cal.of func51 rfl ntmps51 rfl (cR (sA rfl (dn (CW.seq (cR ?_)))))
 refine sM rfl (sd rfl (yL un37 rfl rfl (sM rfl (sd rfl (yL un37 rfl rfl (sd rfl (yl_neq rfl rfl rfl (dn (bcD (q := (p_a.length : Int) = (p_b.length : Int)) (fun hb3 hb3p => ?_) (fun hb3 hb3p => ?_))))))))))
 ·refine CW.cond_f rfl (not_t hb3) (CW.skip (tn (CW.seq (cR (sA rfl (dn ?_))))))
  refine CW.block (CW.loop (fun m5 L6 w7 => ∃ (k4 : Nat), m5 = p_a.length - k4 ∧ k4 ≤ p_a.length ∧ w.heap.size ≤ w7.heap.size ∧ Sub [(0, .slice A1 p_a.length c1), (1, .slice A2 p_b.length c2), (5, .int .i64 ((k4 : Int)))] L6 ∧ RdS w7 (Iv 0 w.heap.size) (RF e_Idx) 3 A1 p_a.length c1 p_a ∧ RdS w7 (Iv 0 w.heap.size) (RF e_Idx) 3 A2 p_b.length c2 p_b ∧ Ex w w7 ∧ loopM (B_l_eqIdxS_0 p_a p_b) (p_a.length - k4) k4 () = loopM (B_l_eqIdxS_0 p_a p_b) (p_a.length - 0) 0 ()) (p_a.length - 0) ?_ ?_)
  ·exact ⟨0, rfl, oM, Nat.le_refl _, (sR rfl), h1, h2, (Ex.refl w), rfl⟩
  ·rintro m8 L9 w10 ⟨k4, rfl, hk11, hsz13, hl14, hf15, hf16, hf17, hI12⟩
   refine CW.sub hl14 ?_
   have hf17z := Ex.size hf17
   have hbg18 := RdS.big hf15
   rcases Nat.lt_or_ge k4 p_a.length with hlt19 | hlt19
   ·refine CW.seq (cR (sM rfl (sM rfl (sd rfl (yL un37 rfl rfl (sd rfl (yl_lss rfl rfl rfl (dn ?_))))))))
    refine CW.cond_t rfl (lt_t hlt19) (CW.skip (tn (CW.seq (CW.block (CW.seq ?_)))))
    obtain ⟨eb20, eo20, _, eA20, _, ebl20, _, eR20, eC20⟩ := RdS.aD hf15 d_Idx (i := k4)
    obtain rfl := eR20
    obtain ⟨eb21, eo21, _, eA21, _, ebl21, _, eR21, eC21⟩ := RdS.aD hf16 d_Idx (i := k4)
    obtain rfl := eR21
    refine drJ 10 [.slice A1 p_a.length c1, .int .i64 ((k4 : Int)), .pointer (some ⟨eb20, eo20 + k4 * 3, none⟩), .agg #[.string (bs ((p_a.getD k4 d_Idx).Name)), .int .i64 ((p_a.getD k4 d_Idx).Col), .int .i64 ((p_a.getD k4 d_Idx).Stage)], .slice A2 p_b.length c2, .int .i64 ((k4 : Int)), .pointer (some ⟨eb21, eo21 + k4 * 3, none⟩), .agg #[.string (bs ((p_b.getD k4 d_Idx).Name)), .int .i64 ((p_b.getD k4 d_Idx).Col), .int .i64 ((p_b.getD k4 d_Idx).Stage)], .bool ((l_eqIdx (p_a.getD k4 d_Idx) (p_b.getD k4 d_Idx))), .bool (!(l_eqIdx (p_a.getD k4 d_Idx) (p_b.getD k4 d_Idx)))] Tryz.follows rfl ⟨oI rfl fun h => yM rfl (h.g 0 rfl) kI, oI rfl fun h => yM rfl (h.g 5 rfl) kI, ?_, oI rfl fun h => yl_loadN ty111 rfl (h.g 19 rfl) (Cells.ex eC20 h.ex) rfl kI, oI rfl fun h => yM rfl (h.g 1 rfl) kI, oI rfl fun h => yM rfl (h.g 5 rfl) kI, ?_, oI rfl fun h => yl_loadN ty111 rfl (h.g 23 rfl) (Cells.ex eC21 h.ex) rfl kI, ?_, oI rfl fun h => yl_not rfl (h.g 25 rfl) kI, trivial⟩ ?_
    ·intro L33 w34 hi35
     have hE36 := hi35.ex
     have hE36z := Ex.size hE36
     exact os rfl ((yl_ixN un37 ty111 rfl (hi35.g 17 rfl) (hi35.g 18 rfl) eA20 kI))
    ·intro L55 w56 hi57
     have hE58 := hi57.ex
     have hE58z := Ex.size hE58
     exact os rfl ((yl_ixN un37 ty111 rfl (hi57.g 21 rfl) (hi57.g 22 rfl) eA21 kI))
    ·intro L67 w68 hi69
     exact OpR.op' rfl (yC en88 rfl (oc (hi69.g 20 rfl) (oc (hi69.g 24 rfl) oz)) (Cal.mono (c_l_eqIdx (p_a.getD k4 d_Idx) (p_b.getD k4 d_Idx)) fun _ _ h => h))
    ·intro fl84 fh85 L81 w82 hp83
     have hE86 := hp83.ex
     have hE86z := Ex.size hE86
     refine dn (CW.sub (hp83.ss [0, 1, 5, 26] rfl) (bcase (l_eqIdx (p_a.getD k4 d_Idx) (p_b.getD k4 d_Idx)) (fun hb91 => ?_) (fun hb91 => ?_)))
     ·refine CW.cond_f rfl (not_t hb91) (CW.skip (bn (tn (CW.region (sM rfl (sd rfl (yl_inc rfl rfl rfl oM (sA rfl (SeqR.done ?_)))))))))
      refine tn ?_
      have hB92 : B_l_eqIdxS_0 p_a p_b k4 () = .cont () := by simp only [B_l_eqIdxS_0, hb3, hb91, cL]
      exact ⟨p_a.length - (k4 + 1), oM, k4 + 1, rfl, hlt19, oM, (sR rfl), (RdS.ex gI hf15 hE86), (RdS.ex gI hf16 hE86), (Ex.trans hf17 hE86), (loopM.cont hlt19 hB92).symm.trans hI12⟩
     ·refine CW.cond_t rfl (not_f hb91) (cR (sA rfl (dn (CW.ret (br (tr ?_))))))
      refine tr ?_
      have hB97 : B_l_eqIdxS_0 p_a p_b k4 () = .ret false := by simp only [B_l_eqIdxS_0, hb3, hb91, cL]
      have hL96 : loopM (B_l_eqIdxS_0 p_a p_b) (p_a.length - 0) 0 () = .ret false := hI12.symm.trans (loopM.ret hlt19 hB97)
      refine br (tr (rr rfl (.cons rfl .nil) ?_))
      rw [show (l_eqIdxS p_a p_b) = (false) by simp only [l_eqIdxS, hb3, hb91, hL96, cL]]
      exact ⟨rfl, (Ex.trans hf17 hE86)⟩
   ·refine CW.seq (cR (sM rfl (sM rfl (sd rfl (yL un37 rfl rfl (sd rfl (yl_lss rfl rfl rfl (dn ?_))))))))
    refine CW.cond_f rfl (lt_f hlt19) (CW.exit (tx (tx ?_)))
    have hL100 : loopM (B_l_eqIdxS_0 p_a p_b) (p_a.length - 0) 0 () = .done () := hI12.symm.trans (loopM.stop hlt19)
    refine bx (tn (cR (sA rfl (dn (CW.ret (rr rfl (.cons rfl .nil) ?_))))))
    rw [show (l_eqIdxS p_a p_b) = (true) by simp only [l_eqIdxS, hb3, hL100, cL]]
    exact ⟨rfl, hf17⟩
 ·refine CW.cond_t rfl (not_f hb3) (cR (sA rfl (dn (CW.ret (tr (rr rfl (.cons rfl .nil) ?_))))))
  rw [show (l_eqIdxS p_a p_b) = (false) by simp only [l_eqIdxS, hb3, cL]]
  exact ⟨rfl, (Ex.refl w)⟩
theorem c_l_eqTable {A1 : Option Addr} {c1 : Nat} {A2 : Option Addr} {c2 : Nat} {A3 : Option Addr} {c3 : Nat} {A4 : Option Addr} {c4 : Nat} {w : World} (p_a : DTable) (p_b : DTable) (h1 : RdS w (Iv 0 w.heap.size) (RF e_Str) 1 A1 p_a.Cols.length c1 p_a.Cols) (h2 : RdS w (Iv 0 w.heap.size) (RF e_Idx) 3 A2 p_a.Idxs.length c2 p_a.Idxs) (h3 : RdS w (Iv 0 w.heap.size) (RF e_Str) 1 A3 p_b.Cols.length c3 p_b.Cols) (h4 : RdS w (Iv 0 w.heap.size) (RF e_Idx) 3 A4 p_b.Idxs.length c4 p_b.Idxs) : Cal Tryz.prog 16 #[.agg #[.string (bs (p_a.Name)), .slice A1 p_a.Cols.length c1, .slice A2 p_a.Idxs.length c2], .agg #[.string (bs (p_b.Name)), .slice A3 p_b.Cols.length c3, .slice A4 p_b.Idxs.length c4]] w fun v w' => v = .bool ((l_eqTable p_a p_b)) ∧ Ex w w' := by
 refine Cal.of func16 rfl ntmps16 rfl (cR (sd rfl (yl_box rfl rfl rfl ?_)))
 intro b5 w6 hs7 hz8 hB9 hE10
 refine sd rfl (yl_box rfl rfl rfl ?_)
 intro b11 w12 hs13 hz14 hB15 hE16
 refine sA rfl (dn (CW.seq (cR (sd rfl (yl_fieldAddr fd39_0 rfl rfl ?_)))))
 have q17 := Box.ex hB9 hE16
 refine sd rfl (yl_load1 ty9 rfl rfl ((q17.cell 0).trans rfl) (sd rfl (yl_fieldAddr fd39_0 rfl rfl (sd rfl (yl_load1 ty9 rfl rfl ((hB15.cell 0).trans rfl) (sd rfl (yl_sneq (a := p_a.Name) (b := p_b.Name) rfl rfl rfl (dn (bcase (p_a.Name == p_b.Name) (fun hb18 => ?_) (fun hb18 => ?_))))))))))
 ·refine CW.cond_f rfl (not_t hb18) (CW.skip (tn (CW.seq (cR (sd rfl (yl_fieldAddr fd39_1 rfl rfl (sd rfl (yl_load1 ty22 rfl rfl ((q17.cell 1).trans rfl) (sd rfl (yl_fieldAddr fd39_1 rfl rfl ?_))))))))))
  refine sd rfl (yl_load1 ty22 rfl rfl ((hB15.cell 1).trans rfl) (sd rfl (yC en33 rfl (oc rfl (oc rfl oz)) (Cal.mono (c_l_eqStringS p_a.Cols p_b.Cols (RdS.up (RdS.ex gS (RdS.ex gS h1 hE10) hE16) gS) (RdS.up (RdS.ex gS (RdS.ex gS h3 hE10) hE16) gS)) ?_))))
  rintro v24 w23 ⟨rfl, hE25⟩
  refine sd rfl (yl_not rfl rfl (dn (bcase (l_eqStringS p_a.Cols p_b.Cols) (fun hb26 => ?_) (fun hb26 => ?_))))
  ·refine CW.cond_f rfl (not_t hb26) (CW.skip (tn (CW.seq (cR (sd rfl (yl_fieldAddr fd39_2 rfl rfl (sd rfl (yl_load1 ty37 rfl rfl (((Box.ex q17 hE25).cell 2).trans rfl) (sd rfl (yl_fieldAddr fd39_2 rfl rfl ?_))))))))))
   refine sd rfl (yl_load1 ty37 rfl rfl (((Box.ex hB15 hE25).cell 2).trans rfl) (sd rfl (yC en51 rfl (oc rfl (oc rfl oz)) (Cal.mono (c_l_eqIdxS p_a.Idxs p_b.Idxs (RdS.up (RdS.ex gI (RdS.ex gI (RdS.ex gI h2 hE10) hE16) hE25) gI) (RdS.up (RdS.ex gI (RdS.ex gI (RdS.ex gI h4 hE10) hE16) hE25) gI)) ?_))))
   rintro v36 w35 ⟨rfl, hE37⟩
   refine sd rfl (yl_not rfl rfl (dn (bcase (l_eqIdxS p_a.Idxs p_b.Idxs) (fun hb38 => ?_) (fun hb38 => ?_))))
   ·refine CW.cond_f rfl (not_t hb38) (CW.skip (tn (cR (sA rfl (dn (CW.ret ?_))))))
    refine rr rfl (.cons rfl .nil) ?_
    rw [show (l_eqTable p_a p_b) = (true) by simp only [l_eqTable, hb18, hb26, hb38, cL]]
    exact ⟨rfl, (Ex.trans (Ex.trans (Ex.trans (Ex.trans (Ex.refl w) hE10) hE16) hE25) hE37)⟩
   ·refine CW.cond_t rfl (not_f hb38) (cR (sA rfl (dn (CW.ret (tr (rr rfl (.cons rfl .nil) ?_))))))
    rw [show (l_eqTable p_a p_b) = (false) by simp only [l_eqTable, hb18, hb26, hb38, cL]]
    exact ⟨rfl, (Ex.trans (Ex.trans (Ex.trans (Ex.trans (Ex.refl w) hE10) hE16) hE25) hE37)⟩
  ·refine CW.cond_t rfl (not_f hb26) (cR (sA rfl (dn (CW.ret (tr (rr rfl (.cons rfl .nil) ?_))))))
   rw [show (l_eqTable p_a p_b) = (false) by simp only [l_eqTable, hb18, hb26, cL]]
   exact ⟨rfl, (Ex.trans (Ex.trans (Ex.trans (Ex.refl w) hE10) hE16) hE25)⟩
 ·refine CW.cond_t rfl (not_f hb18) (cR (sA rfl (dn (CW.ret (tr (rr rfl (.cons rfl .nil) ?_))))))
  rw [show (l_eqTable p_a p_b) = (false) by simp only [l_eqTable, hb18, cL]]
  exact ⟨rfl, (Ex.trans (Ex.trans (Ex.refl w) hE10) hE16)⟩
theorem c_l_markText {w : World} (p_k : Int) (pre0 : p_k ≤ 9223372036854775807) : Cal Tryz.prog 54 #[.int .i64 (p_k)] w fun v w' => v = .string (bs ((l_markText p_k))) ∧ Ex w w' := by
 refine Cal.of func54 rfl ntmps54 rfl (cR (sA rfl (dn (CW.seq (cR ?_)))))
 refine sM rfl (sd rfl (yl_leq rfl rfl rfl (dn (bcD (q := p_k ≤ 0) (fun hb1 hb1p => ?_) (fun hb1 hb1p => ?_)))))
 ·refine CW.cond_t rfl hb1 (cR (sA rfl (dn (CW.ret (tr (rr rfl (.cons rfl .nil) ?_))))))
  rw [show (l_markText p_k) = (([109, 48] : Str)) by simp only [l_markText, hb1, cL]]
  exact ⟨rfl, (Ex.refl w)⟩
 ·refine CW.cond_f rfl hb1 (CW.skip (tn (cR (sA rfl (dn (CW.seq ?_))))))
  refine CW.block (CW.loop (fun m18 L19 w20 => ∃ (x16 : Int) (x17 : Str), (((x16).toNat + 1) / 2) < m18 ∧ w.heap.size ≤ w20.heap.size ∧ Sub [(0, .int .i64 (x16)), (3, .string (bs (x17)))] L19 ∧ Ex w w20 ∧ x17.length + 1 * (((x16).toNat + 1) / 2) ≤ 0 + 1 * (((p_k).toNat + 1) / 2) ∧ x16 ≤ 9223372036854775807 ∧ loopW (B_l_markText_0 p_k) m18 (x16, x17) = loopW (B_l_markText_0 p_k) ((((p_k).toNat + 1) / 2) + 1) (p_k, ([] : Str))) ((((p_k).toNat + 1) / 2) + 1) ?_ ?_)
  ·exact ⟨p_k, ([] : Str), Nat.lt_succ_self _, Nat.le_refl _, (sR rfl), (Ex.refl w), (by first | (simp; done) | (first | omega | (simp only [lN, toS_length]; omega))), Bo, rfl⟩
  ·rintro m21 L22 w23 ⟨x16, x17, hk24, hsz26, hl27, hf28, hln29, hv30, hI25⟩
   refine CW.sub hl27 ?_
   have hf28z := Ex.size hf28
   refine CW.seq (cR (sM rfl (sd rfl (yl_gtr rfl rfl rfl (dn (bcD (q := 0 < x16) (fun hb31 hb31p => ?_) (fun hb31 hb31p => ?_)))))))
   ·refine CW.cond_t rfl hb31 (CW.skip (tn (CW.block (cR (sM rfl (sd rfl (yl_rem rfl rfl rfl (by decide) (sd rfl (yl_add rfl rfl rfl ?_)))))))))
    refine sd rfl (yl_conv un3 un5 rfl rfl (sd rfl (yl_buildSlice (cs := [.int .u8 (IntKind.wrap .u8 (IntKind.wrap .i64 (48 + (Int.tmod x16 10))))]) un127 ty5 (by decide) rfl (oc rfl oz) (by kernel_rfl) ?_)))
    intro b32 w33 hs34 hz35 hB36 hE37
    have hO38 : OwnL w33 b32 (b32 + 1) 5 1 (RF e_U8) (some ⟨b32, 0, none⟩) 1 1 ([IntKind.wrap .u8 (IntKind.wrap .i64 (48 + (Int.tmod x16 10)))] : List Int) := OwnL.of_box (S := fun _ => False) hB36 (Nat.le_refl _) (Nat.lt_succ_self _) (EncL.cons (c := [.int .u8 (IntKind.wrap .u8 (IntKind.wrap .i64 (48 + (Int.tmod x16 10))))]) rfl rfl EncL.nil) (nb rfl) (fun h => h) (fun _ h => False.elim h)
    refine sd rfl (yl_toS un127 un5 un9 rfl rfl (OwnL.rd gU hO38) (sM rfl ?_))
    have hol40 : (toS ([IntKind.wrap .u8 (IntKind.wrap .i64 (48 + (Int.tmod x16 10)))] : List Int)).length ≤ 1073741824 := (okS_toS (nb rfl))
    refine sd rfl (yl_sadd (a := (toS ([IntKind.wrap .u8 (IntKind.wrap .i64 (48 + (Int.tmod x16 10)))] : List Int))) (b := x17) rfl rfl rfl Bl (sA rfl (dn (CW.region (sM rfl (sd rfl (yl_quo rfl rfl rfl (by decide) (sA rfl (SeqR.done ?_)))))))))
    refine bn (tn ?_)
    have hB41 : B_l_markText_0 p_k (x16, x17) = .cont (IntKind.wrap .i64 (Int.tdiv x16 10), (toS ([IntKind.wrap .u8 (IntKind.wrap .i64 (48 + (Int.tmod x16 10)))] : List Int)) ++ x17) := by simp only [B_l_markText_0, hb1, hb31, cL]
    have hmu43 : (((IntKind.wrap .i64 (Int.tdiv x16 10)).toNat + 1) / 2) < (((x16).toNat + 1) / 2) := by (have hq := wtd (n := x16) (c := 10) (by decide) oM oM; omega)
    exact ⟨m21 - 1, oM, IntKind.wrap .i64 (Int.tdiv x16 10), (toS ([IntKind.wrap .u8 (IntKind.wrap .i64 (48 + (Int.tmod x16 10)))] : List Int)) ++ x17, oM, oM, (sR rfl), (Ex.trans hf28 hE37), Bl, (by (have hq := wtd (n := x16) (c := 10) (by decide) oM oM; omega)), (loopW.cont hk24 hB41).symm.trans hI25⟩
   ·refine CW.cond_f rfl hb31 (CW.exit (tx (tx ?_)))
    have hB45 : B_l_markText_0 p_k (x16, x17) = .brk (x16, x17) := by simp only [B_l_markText_0, hb1, hb31, cL]
    have hL44 : loopW (B_l_markText_0 p_k) ((((p_k).toNat + 1) / 2) + 1) (p_k, ([] : Str)) = .done (x16, x17) := hI25.symm.trans (loopW.brk hk24 hB45)
    refine bx (tn (cR (sM rfl (sd rfl (yl_sadd (a := ([109] : Str)) (b := x17) rfl rfl rfl Bl (sA rfl (dn ?_)))))))
    refine CW.ret (rr rfl (.cons rfl .nil) ?_)
    rw [show (l_markText p_k) = (([109] : Str) ++ x17) by simp only [l_markText, hb1, hb31, hL44, cL]]
    exact ⟨rfl, hf28⟩
theorem c_l_markStringS {A1 : Option Addr} {c1 : Nat} {lo1 hi1 : Nat} {w : World} (p_a : List Str) (p_k : Int) (h1 : OwnL w lo1 hi1 9 1 (RF e_Str) A1 p_a.length c1 p_a) (hrn2 : (0 ≤ lo1 ∧ lo1 ≤ hi1 ∧ hi1 ≤ w.heap.size)) (pre0 : p_k ≤ 9223372036854775807) : Cal Tryz.prog 34 #[.slice A1 p_a.length c1, .int .i64 (p_k)] w fun v w' => v = .int .i64 ((l_markStringS p_a p_k).1) ∧ OwnL w' lo1 hi1 9 1 (RF e_Str) A1 p_a.length c1 ((l_markStringS p_a p_k).2) ∧ Mut [(lo1, hi1)] w w' := by
 refine Cal.of func34 rfl ntmps34 rfl (cR (sA rfl (dn (CW.seq (cR ?_)))))
 refine sA rfl (dn (CW.block (CW.loop (fun m16 L17 w18 => ∃ (k3 : Nat) (x14 : Int) (x15 : List Str), m16 = p_a.length - k3 ∧ k3 ≤ p_a.length ∧ w.heap.size ≤ w18.heap.size ∧ Sub [(0, .slice A1 p_a.length c1), (1, .int .i64 (x14)), (5, .int .i64 ((k3 : Int)))] L17 ∧ OwnL w18 lo1 hi1 9 1 (RF e_Str) A1 p_a.length c1 x15 ∧ Mut [(lo1, hi1)] w w18 ∧ x14 ≤ 9223372036854775807 ∧ loopM (B_l_markStringS_0 p_a p_k) (p_a.length - k3) k3 (x14, x15) = loopM (B_l_markStringS_0 p_a p_k) (p_a.length - 0) 0 (p_k, p_a)) (p_a.length - 0) ?_ ?_)))
 ·exact ⟨0, p_k, p_a, rfl, oM, Nat.le_refl _, (sR rfl), h1, (Mut.refl (l := [(lo1, hi1)]) w), Bo, rfl⟩
 ·rintro m19 L20 w21 ⟨k3, x14, x15, rfl, hk22, hsz24, hl25, hf26, hf27, hv28, hI23⟩
  refine CW.sub hl25 ?_
  have hf27z := Mut.size hf27
  have hbg29 := RdS.big (OwnL.rd gS hf26)
  rcases Nat.lt_or_ge k3 p_a.length with hlt31 | hlt31
  ·refine CW.seq (cR (sM rfl (sM rfl (sd rfl (yL un22 rfl rfl (sd rfl (yl_lss rfl rfl rfl (dn ?_))))))))
   refine CW.cond_t rfl (lt_t hlt31) (CW.skip (tn (CW.seq (CW.block (cR (sM rfl (sM rfl ?_)))))))
   refine sM rfl (sd rfl (yC en54 rfl (oc rfl oz) (Cal.mono (c_l_markText x14 Bo) ?_)))
   rintro v33 w32 ⟨rfl, hE34⟩
   have hE34z := Ex.size hE34
   have q36 := OwnL.ex gS hf26 hE34
   obtain ⟨eb37, eo37, _, eA37, _, ebl37, _, eR37, _⟩ := RdS.aD (OwnL.rd gS q36) d_Str (i := k3)
   obtain rfl := eR37
   refine sd rfl (yl_ixN un22 ty9 rfl rfl rfl eA37 ?_)
   have hrg38 := OwnL.rng q36 (i := k3) Bo eb37 (by rw [eA37]; rfl)
   refine SeqR.u rfl rfl (yl_storeF (off := eo37) (i := k3) (d := 0) (dx := d_Str) (x' := (l_markText x14)) (vs := [.string (bs ((l_markText x14)))]) ty9 rfl q36 eA37 rfl rfl rfl rfl rfl Bo (nb rfl) rfl rfl ?_)
   intro w39 hB40 hO41
   have hO41z := hO41.size
   refine dn (CW.region (sM rfl (sd rfl (yl_add rfl rfl rfl (sA rfl (SeqR.done (bn (tn ?_))))))))
   refine CW.region (sM rfl (sd rfl (yl_inc rfl rfl rfl oM (sA rfl (dn ?_)))))
   have hB42 : B_l_markStringS_0 p_a p_k k3 (x14, x15) = .cont (IntKind.wrap .i64 (x14 + 1), (x15.set k3 (l_markText x14))) := by simp only [B_l_markStringS_0, cL]
   exact ⟨p_a.length - (k3 + 1), oM, k3 + 1, IntKind.wrap .i64 (x14 + 1), (x15.set k3 (l_markText x14)), rfl, hlt31, oM, (sR rfl), hB40, (Mut.only (Mut.ex hf27 hE34) hO41 (by simp only [InR, or_false]; omega)), Bo, (loopM.cont hlt31 hB42).symm.trans hI23⟩
  ·refine CW.seq (cR (sM rfl (sM rfl (sd rfl (yL un22 rfl rfl (sd rfl (yl_lss rfl rfl rfl (dn ?_))))))))
   refine CW.cond_f rfl (lt_f hlt31) (CW.exit (tx (tx ?_)))
   have hL45 : loopM (B_l_markStringS_0 p_a p_k) (p_a.length - 0) 0 (p_k, p_a) = .done (x14, x15) := hI23.symm.trans (loopM.stop hlt31)
   refine bx (tn (cR (sM rfl (sA rfl (dn (CW.ret ?_))))))
   refine rr rfl (.cons rfl .nil) ?_
   rw [show (l_markStringS p_a p_k) = ((x14, x15)) by simp only [l_markStringS, hL45, cL]]
   exact ⟨rfl, hf26, hf27⟩
theorem c_l_markIdxS {A1 : Option Addr} {c1 : Nat} {lo1 hi1 : Nat} {w : World} (p_a : List DIdx) (p_k : Int) (h1 : OwnL w lo1 hi1 111 3 (RF e_Idx) A1 p_a.length c1 p_a) (hrn2 : (0 ≤ lo1 ∧ lo1 ≤ hi1 ∧ hi1 ≤ w.heap.size)) (pre0 : p_k ≤ 9223372036854775807) : Cal Tryz.prog 53 #[.slice A1 p_a.length c1, .int .i64 (p_k)] w fun v w' => v = .int .i64 ((l_markIdxS p_a p_k).1) ∧ OwnL w' lo1 hi1 111 3 (RF e_Idx) A1 p_a.length c1 ((l_markIdxS p_a p_k).2) ∧ Mut [(lo1, hi1)] w w' := by
 refine Cal.of func53 rfl ntmps53 rfl (cR (sA rfl (dn (CW.seq (cR ?_)))))
 refine sA rfl (dn (CW.block (CW.loop (fun m28 L29 w30 => ∃ (k3 : Nat) (x26 : Int) (x27 : List DIdx), m28 = p_a.length - k3 ∧ k3 ≤ p_a.length ∧ w.heap.size ≤ w30.heap.size ∧ Sub [(0, .slice A1 p_a.length c1), (1, .int .i64 (x26)), (5, .int .i64 ((k3 : Int)))] L29 ∧ OwnL w30 lo1 hi1 111 3 (RF e_Idx) A1 p_a.length c1 x27 ∧ Mut [(lo1, hi1)] w w30 ∧ x26 ≤ 9223372036854775807 ∧ loopM (B_l_markIdxS_0 p_a p_k) (p_a.length - k3) k3 (x26, x27) = loopM (B_l_markIdxS_0 p_a p_k) (p_a.length - 0) 0 (p_k, p_a)) (p_a.length - 0) ?_ ?_)))
 ·exact ⟨0, p_k, p_a, rfl, oM, Nat.le_refl _, (sR rfl), h1, (Mut.refl (l := [(lo1, hi1)]) w), Bo, rfl⟩
 ·rintro m31 L32 w33 ⟨k3, x26, x27, rfl, hk34, hsz36, hl37, hf38, hf39, hv40, hI35⟩
  refine CW.sub hl37 ?_
  have hf39z := Mut.size hf39
  have hbg41 := RdS.big (OwnL.rd gI hf38)
  rcases Nat.lt_or_ge k3 p_a.length with hlt43 | hlt43
  ·refine CW.seq (cR (sM rfl (sM rfl (sd rfl (yL un37 rfl rfl (sd rfl (yl_lss rfl rfl rfl (dn ?_))))))))
   refine CW.cond_t rfl (lt_t hlt43) (CW.skip (tn (CW.seq (CW.block (cR (sM rfl (sM rfl ?_)))))))
   refine sM rfl (sd rfl (yC en54 rfl (oc rfl oz) (Cal.mono (c_l_markText x26 Bo) ?_)))
   rintro v45 w44 ⟨rfl, hE46⟩
   have hE46z := Ex.size hE46
   have q48 := OwnL.ex gI hf38 hE46
   obtain ⟨eb49, eo49, _, eA49, _, ebl49, _, eR49, _⟩ := RdS.aD (OwnL.rd gI q48) d_Idx (i := k3)
   obtain rfl := eR49
   refine sd rfl (yl_ixN un37 ty111 rfl rfl rfl eA49 (sd rfl (yl_fieldAddr fd111_0 rfl rfl ?_)))
   have hrg50 := OwnL.rng q48 (i := k3) Bo eb49 (by rw [eA49]; rfl)
   refine SeqR.u rfl rfl (yl_storeF (off := eo49) (i := k3) (d := 0) (dx := d_Idx) (x' := (⟨(l_markText x26), (x27.getD k3 d_Idx).Col, (x27.getD k3 d_Idx).Stage⟩ : DIdx)) (vs := [.string (bs ((l_markText x26)))]) ty9 rfl q48 eA49 rfl rfl rfl rfl rfl Bo (nb rfl) rfl rfl ?_)
   intro w51 hB52 hO53
   have hO53z := hO53.size
   refine dn (cR (sM rfl (sd rfl (yl_add rfl rfl rfl (sA rfl (dn ?_))))))
   refine cR (sM rfl (sM rfl (sM rfl ?_)))
   obtain ⟨eb55, eo55, _, eA55, _, ebl55, _, eR55, eC55⟩ := RdS.aD (OwnL.rd gI hB52) d_Idx (i := k3)
   obtain rfl := eR55
   rw [getD_set_self (by have hq := OwnL.len hB52; simp only [List.length_set] at hq; omega)] at eC55
   have eC55 : Cells w51 eb55 (eo55 + k3 * 3) [.string (bs ((l_markText x26))), .int .i64 ((x27.getD k3 d_Idx).Col), .int .i64 ((x27.getD k3 d_Idx).Stage)] := eC55
   refine sd rfl (yl_ixN un37 ty111 rfl rfl rfl eA55 (sd rfl (yl_fieldAddr fd111_1 rfl rfl ?_)))
   have hrg56 := OwnL.rng hB52 (i := k3) Bo eb55 (by rw [eA55]; rfl)
   refine SeqR.u rfl rfl (yl_storeF (off := eo55) (i := k3) (d := 1) (dx := d_Idx) (x' := (⟨(l_markText x26), IntKind.wrap .i64 (x26 + 1), (x27.getD k3 d_Idx).Stage⟩ : DIdx)) (vs := [.int .i64 (IntKind.wrap .i64 (x26 + 1))]) ty3 rfl hB52 eA55 rfl rfl rfl rfl rfl Bo (nb rfl) (by rw [getD_set_self (by have hq := OwnL.len hB52; simp only [List.length_set] at hq; omega)]; rfl) rfl ?_)
   intro w57 hB58 hO59
   have hO59z := hO59.size
   rw [List.set_set] at hB58
   refine dn (cR (sM rfl (sd rfl (yl_add rfl rfl rfl (sA rfl (dn ?_))))))
   refine cR (sM rfl (sM rfl (sM rfl ?_)))
   obtain ⟨eb61, eo61, _, eA61, _, ebl61, _, eR61, eC61⟩ := RdS.aD (OwnL.rd gI hB58) d_Idx (i := k3)
   obtain rfl := eR61
   rw [getD_set_self (by have hq := OwnL.len hB58; simp only [List.length_set] at hq; omega)] at eC61
   have eC61 : Cells w57 eb61 (eo61 + k3 * 3) [.string (bs ((l_markText x26))), .int .i64 (IntKind.wrap .i64 (x26 + 1)), .int .i64 ((x27.getD k3 d_Idx).Stage)] := eC61
   refine sd rfl (yl_ixN un37 ty111 rfl rfl rfl eA61 (sd rfl (yl_fieldAddr fd111_2 rfl rfl ?_)))
   have hrg62 := OwnL.rng hB58 (i := k3) Bo eb61 (by rw [eA61]; rfl)
   refine SeqR.u rfl rfl (yl_storeF (off := eo61) (i := k3) (d := 2) (dx := d_Idx) (x' := (⟨(l_markText x26), IntKind.wrap .i64 (x26 + 1), IntKind.wrap .i64 ((IntKind.wrap .i64 (x26 + 1)) + 1)⟩ : DIdx)) (vs := [.int .i64 (IntKind.wrap .i64 ((IntKind.wrap .i64 (x26 + 1)) + 1))]) ty3 rfl hB58 eA61 rfl rfl rfl rfl rfl Bo (nb rfl) (by rw [getD_set_self (by have hq := OwnL.len hB58; simp only [List.length_set] at hq; omega)]; rfl) rfl ?_)
   intro w63 hB64 hO65
   have hO65z := hO65.size
   rw [List.set_set] at hB64
   refine dn (CW.region (sM rfl (sd rfl (yl_add rfl rfl rfl (sA rfl (SeqR.done (bn (tn ?_))))))))
   refine CW.region (sM rfl (sd rfl (yl_inc rfl rfl rfl oM (sA rfl (dn ?_)))))
   have hB66 : B_l_markIdxS_0 p_a p_k k3 (x26, x27) = .cont (IntKind.wrap .i64 ((IntKind.wrap .i64 ((IntKind.wrap .i64 (x26 + 1)) + 1)) + 1), (x27.set k3 (⟨(l_markText x26), IntKind.wrap .i64 (x26 + 1), IntKind.wrap .i64 ((IntKind.wrap .i64 (x26 + 1)) + 1)⟩ : DIdx))) := by simp only [B_l_markIdxS_0, cL]
   exact ⟨p_a.length - (k3 + 1), oM, k3 + 1, IntKind.wrap .i64 ((IntKind.wrap .i64 ((IntKind.wrap .i64 (x26 + 1)) + 1)) + 1), (x27.set k3 (⟨(l_markText x26), IntKind.wrap .i64 (x26 + 1), IntKind.wrap .i64 ((IntKind.wrap .i64 (x26 + 1)) + 1)⟩ : DIdx)), rfl, hlt43, oM, (sR rfl), hB64, (Mut.only (Mut.only (Mut.only (Mut.ex hf39 hE46) hO53 (by simp only [InR, or_false]; omega)) hO59 (by simp only [InR, or_false]; omega)) hO65 (by simp only [InR, or_false]; omega)), Bo, (loopM.cont hlt43 hB66).symm.trans hI35⟩
  ·refine CW.seq (cR (sM rfl (sM rfl (sd rfl (yL un37 rfl rfl (sd rfl (yl_lss rfl rfl rfl (dn ?_))))))))
   refine CW.cond_f rfl (lt_f hlt43) (CW.exit (tx (tx ?_)))
   have hL71 : loopM (B_l_markIdxS_0 p_a p_k) (p_a.length - 0) 0 (p_k, p_a) = .done (x26, x27) := hI35.symm.trans (loopM.stop hlt43)
   refine bx (tn (cR (sM rfl (sA rfl (dn (CW.ret ?_))))))
   refine rr rfl (.cons rfl .nil) ?_
   rw [show (l_markIdxS p_a p_k) = ((x26, x27)) by simp only [l_markIdxS, hL71, cL]]
   exact ⟨rfl, hf38, hf39⟩
theorem c_l_markTable {A1 : Option Addr} {c1 : Nat} {lo1 hi1 : Nat} {A2 : Option Addr} {c2 : Nat} {lo2 hi2 : Nat} {w : World} (p_a : DTable) (p_k : Int) (h1 : OwnL w lo1 hi1 9 1 (RF e_Str) A1 p_a.Cols.length c1 p_a.Cols) (h2 : OwnL w lo2 hi2 111 3 (RF e_Idx) A2 p_a.Idxs.length c2 p_a.Idxs) (hrn3 : (0 ≤ lo1 ∧ lo1 ≤ hi1 ∧ hi1 ≤ w.heap.size)) (hrn4 : (0 ≤ lo2 ∧ lo2 ≤ hi2 ∧ hi2 ≤ w.heap.size)) (hrn5 : (hi1 ≤ lo2 ∨ hi2 ≤ lo1)) (pre0 : p_k ≤ 9223372036854775807) : Cal Tryz.prog 18 #[.agg #[.string (bs (p_a.Name)), .slice A1 p_a.Cols.length c1, .slice A2 p_a.Idxs.length c2], .int .i64 (p_k)] w fun v w' => v = .int .i64 ((l_markTable p_a p_k).1) ∧ OwnL w' lo1 hi1 9 1 (RF e_Str) A1 p_a.Cols.length c1 ((l_markTable p_a p_k).2.Cols) ∧ OwnL w' lo2 hi2 111 3 (RF e_Idx) A2 p_a.Idxs.length c2 ((l_markTable p_a p_k).2.Idxs) ∧ Mut [(lo1, hi1), (lo2, hi2)] w w' := by
 refine Cal.of func18 rfl ntmps18 rfl (cR (sd rfl (yl_box rfl rfl rfl ?_)))
 intro b6 w7 hs8 hz9 hB10 hE11
 refine sA rfl (dn (cR (sd rfl (yl_fieldAddr fd39_1 rfl rfl (sd rfl (yl_load1 ty22 rfl rfl ((hB10.cell 1).trans rfl) (sM rfl (sd rfl (yC en34 rfl (oc rfl (oc rfl oz)) (Cal.mono (c_l_markStringS p_a.Cols p_k (OwnL.ex gS h1 hE11) oM Bo) ?_))))))))))
 rintro v14 w13 ⟨rfl, h16, hm15⟩
 have hm15z := Mut.size hm15
 have hrf17 := rf_markStringS p_a.Cols p_k Bo
 refine sA rfl (dn (cR (sd rfl (yl_fieldAddr fd39_2 rfl rfl (sd rfl (yl_load1 ty37 rfl rfl (((Box.mut hB10 hm15 kR).cell 2).trans rfl) (sM rfl (sd rfl (yC en53 rfl (oc rfl (oc rfl oz)) (Cal.mono (c_l_markIdxS p_a.Idxs ((l_markStringS p_a.Cols p_k).1) (OwnL.mut gI (OwnL.ex gI h2 hE11) hm15 kR) oM Bo) ?_))))))))))
 rintro v22 w21 ⟨rfl, h24, hm23⟩
 have hm23z := Mut.size hm23
 have hrf25 := rf_markIdxS p_a.Idxs ((l_markStringS p_a.Cols p_k).1) Bo
 refine sA rfl (dn (cR (sM rfl (sA rfl (dn ?_)))))
 refine CW.ret (rr rfl (.cons rfl .nil) ?_)
 rw [show (l_markTable p_a p_k) = (((l_markIdxS p_a.Idxs ((l_markStringS p_a.Cols p_k).1)).1, (⟨p_a.Name, (l_markStringS p_a.Cols p_k).2, (l_markIdxS p_a.Idxs ((l_markStringS p_a.Cols p_k).1)).2⟩ : DTable))) by simp only [l_markTable, cL]]
 exact ⟨rfl, (OwnL.mut gS h16 hm23 kR), h24, (Mut.mut (Mut.mut (Mut.ex (Mut.refl (l := [(lo1, hi1), (lo2, hi2)]) w) hE11) hm15 (fun k hk => by simp only [InR, or_false] at hk ⊢; omega)) hm23 (fun k hk => by simp only [InR, or_false] at hk ⊢; omega))⟩
theorem c_l_markWriteS {A1 : Option Addr} {c1 : Nat} {lo1 hi1 : Nat} {w : World} (p_a : List DWrite) (p_k : Int) (h1 : OwnL w lo1 hi1 80 3 (RF e_Write) A1 p_a.length c1 p_a) (hrn2 : (0 ≤ lo1 ∧ lo1 ≤ hi1 ∧ hi1 ≤ w.heap.size)) (pre0 : p_k ≤ 9223372036854775807) : Cal Tryz.prog 19 #[.slice A1 p_a.length c1, .int .i64 (p_k)] w fun v w' => v = .int .i64 ((l_markWriteS p_a p_k).1) ∧ OwnL w' lo1 hi1 80 3 (RF e_Write) A1 p_a.length c1 ((l_markWriteS p_a p_k).2) ∧ Mut [(lo1, hi1)] w w' := by
 refine Cal.of func19 rfl ntmps19 rfl (cR (sA rfl (dn (CW.seq (cR ?_)))))
 refine sA rfl (dn (CW.block (CW.loop (fun m31 L32 w33 => ∃ (k3 : Nat) (x29 : Int) (x30 : List DWrite), m31 = p_a.length - k3 ∧ k3 ≤ p_a.length ∧ w.heap.size ≤ w33.heap.size ∧ Sub [(0, .slice A1 p_a.length c1), (1, .int .i64 (x29)), (5, .int .i64 ((k3 : Int)))] L32 ∧ OwnL w33 lo1 hi1 80 3 (RF e_Write) A1 p_a.length c1 x30 ∧ Mut [(lo1, hi1)] w w33 ∧ x29 ≤ 9223372036854775807 ∧ loopM (B_l_markWriteS_0 p_a p_k) (p_a.length - k3) k3 (x29, x30) = loopM (B_l_markWriteS_0 p_a p_k) (p_a.length - 0) 0 (p_k, p_a)) (p_a.length - 0) ?_ ?_)))
 ·exact ⟨0, p_k, p_a, rfl, oM, Nat.le_refl _, (sR rfl), h1, (Mut.refl (l := [(lo1, hi1)]) w), Bo, rfl⟩
 ·rintro m34 L35 w36 ⟨k3, x29, x30, rfl, hk37, hsz39, hl40, hf41, hf42, hv43, hI38⟩
  refine CW.sub hl40 ?_
  have hf42z := Mut.size hf42
  have hbg44 := RdS.big (OwnL.rd gW hf41)
  rcases Nat.lt_or_ge k3 p_a.length with hlt46 | hlt46
  ·refine CW.seq (cR (sM rfl (sM rfl (sd rfl (yL un34 rfl rfl (sd rfl (yl_lss rfl rfl rfl (dn ?_))))))))
   refine CW.cond_t rfl (lt_t hlt46) (CW.skip (tn (CW.seq (CW.block (cR (sM rfl (sM rfl ?_)))))))
   refine sM rfl (sd rfl (yC en54 rfl (oc rfl oz) (Cal.mono (c_l_markText x29 Bo) ?_)))
   rintro v48 w47 ⟨rfl, hE49⟩
   have hE49z := Ex.size hE49
   have q51 := OwnL.ex gW hf41 hE49
   obtain ⟨eb52, eo52, _, eA52, _, ebl52, _, eR52, _⟩ := RdS.aD (OwnL.rd gW q51) d_Write (i := k3)
   obtain rfl := eR52
   refine sd rfl (yl_ixN un34 ty80 rfl rfl rfl eA52 (sd rfl (yl_fieldAddr fd80_0 rfl rfl ?_)))
   have hrg53 := OwnL.rng q51 (i := k3) Bo eb52 (by rw [eA52]; rfl)
   refine SeqR.u rfl rfl (yl_storeF (off := eo52) (i := k3) (d := 0) (dx := d_Write) (x' := (⟨(l_markText x29), (x30.getD k3 d_Write).Val, (x30.getD k3 d_Write).Gone⟩ : DWrite)) (vs := [.string (bs ((l_markText x29)))]) ty9 rfl q51 eA52 rfl rfl rfl rfl rfl Bo (nb rfl) rfl rfl ?_)
   intro w54 hB55 hO56
   have hO56z := hO56.size
   refine dn (cR (sM rfl (sd rfl (yl_add rfl rfl rfl (sA rfl (dn ?_))))))
   refine cR (sM rfl (sM rfl (sM rfl (sd rfl (yC en54 rfl (oc rfl oz) (Cal.mono (c_l_markText (IntKind.wrap .i64 (x29 + 1)) Bo) ?_))))))
   rintro v58 w57 ⟨rfl, hE59⟩
   have hE59z := Ex.size hE59
   have q61 := OwnL.ex gW hB55 hE59
   obtain ⟨eb62, eo62, _, eA62, _, ebl62, _, eR62, eC62⟩ := RdS.aD (OwnL.rd gW q61) d_Write (i := k3)
   obtain rfl := eR62
   rw [getD_set_self (by have hq := OwnL.len q61; simp only [List.length_set] at hq; omega)] at eC62
   have eC62 : Cells w57 eb62 (eo62 + k3 * 3) [.string (bs ((l_markText x29))), .string (bs ((x30.getD k3 d_Write).Val)), .bool ((x30.getD k3 d_Write).Gone)] := eC62
   refine sd rfl (yl_ixN un34 ty80 rfl rfl rfl eA62 (sd rfl (yl_fieldAddr fd80_1 rfl rfl ?_)))
   have hrg63 := OwnL.rng q61 (i := k3) Bo eb62 (by rw [eA62]; rfl)
   refine SeqR.u rfl rfl (yl_storeF (off := eo62) (i := k3) (d := 1) (dx := d_Write) (x' := (⟨(l_markText x29), (l_markText (IntKind.wrap .i64 (x29 + 1))), (x30.getD k3 d_Write).Gone⟩ : DWrite)) (vs := [.string (bs ((l_markText (IntKind.wrap .i64 (x29 + 1)))))]) ty9 rfl q61 eA62 rfl rfl rfl rfl rfl Bo (nb rfl) (by rw [getD_set_self (by have hq := OwnL.len q61; simp only [List.length_set] at hq; omega)]; rfl) rfl ?_)
   intro w64 hB65 hO66
   have hO66z := hO66.size
   rw [List.set_set] at hB65
   refine dn (cR (sM rfl (sd rfl (yl_add rfl rfl rfl (sA rfl (dn ?_))))))
   refine cR (sM rfl (sM rfl (sM rfl (sd rfl (yl_rem rfl rfl rfl (by decide) (sd rfl (yl_eql rfl rfl rfl ?_)))))))
   obtain ⟨eb68, eo68, _, eA68, _, ebl68, _, eR68, eC68⟩ := RdS.aD (OwnL.rd gW hB65) d_Write (i := k3)
   obtain rfl := eR68
   rw [getD_set_self (by have hq := OwnL.len hB65; simp only [List.length_set] at hq; omega)] at eC68
   have eC68 : Cells w64 eb68 (eo68 + k3 * 3) [.string (bs ((l_markText x29))), .string (bs ((l_markText (IntKind.wrap .i64 (x29 + 1))))), .bool ((x30.getD k3 d_Write).Gone)] := eC68
   refine sd rfl (yl_ixN un34 ty80 rfl rfl rfl eA68 (sd rfl (yl_fieldAddr fd80_2 rfl rfl ?_)))
   have hrg69 := OwnL.rng hB65 (i := k3) Bo eb68 (by rw [eA68]; rfl)
   refine SeqR.u rfl rfl (yl_storeF (off := eo68) (i := k3) (d := 2) (dx := d_Write) (x' := (⟨(l_markText x29), (l_markText (IntKind.wrap .i64 (x29 + 1))), decide ((Int.tmod (IntKind.wrap .i64 ((IntKind.wrap .i64 (x29 + 1)) + 1)) 3) = 0)⟩ : DWrite)) (vs := [.bool (decide ((Int.tmod (IntKind.wrap .i64 ((IntKind.wrap .i64 (x29 + 1)) + 1)) 3) = 0))]) ty4 rfl hB65 eA68 rfl rfl rfl rfl rfl Bo (nb rfl) (by rw [getD_set_self (by have hq := OwnL.len hB65; simp only [List.length_set] at hq; omega)]; rfl) rfl ?_)
   intro w70 hB71 hO72
   have hO72z := hO72.size
   rw [List.set_set] at hB71
   refine dn (CW.region (sM rfl (sd rfl (yl_add rfl rfl rfl (sA rfl (SeqR.done (bn (tn ?_))))))))
   refine CW.region (sM rfl (sd rfl (yl_inc rfl rfl rfl oM (sA rfl (dn ?_)))))
   have hB73 : B_l_markWriteS_0 p_a p_k k3 (x29, x30) = .cont (IntKind.wrap .i64 ((IntKind.wrap .i64 ((IntKind.wrap .i64 (x29 + 1)) + 1)) + 1), (x30.set k3 (⟨(l_markText x29), (l_markText (IntKind.wrap .i64 (x29 + 1))), decide ((Int.tmod (IntKind.wrap .i64 ((IntKind.wrap .i64 (x29 + 1)) + 1)) 3) = 0)⟩ : DWrite))) := by simp only [B_l_markWriteS_0, cL]
   exact ⟨p_a.length - (k3 + 1), oM, k3 + 1, IntKind.wrap .i64 ((IntKind.wrap .i64 ((IntKind.wrap .i64 (x29 + 1)) + 1)) + 1), (x30.set k3 (⟨(l_markText x29), (l_markText (IntKind.wrap .i64 (x29 + 1))), decide ((Int.tmod (IntKind.wrap .i64 ((IntKind.wrap .i64 (x29 + 1)) + 1)) 3) = 0)⟩ : DWrite)), rfl, hlt46, oM, (sR rfl), hB71, (Mut.only (Mut.only (Mut.ex (Mut.only (Mut.ex hf42 hE49) hO56 (by simp only [InR, or_false]; omega)) hE59) hO66 (by simp only [InR, or_false]; omega)) hO72 (by simp only [InR, or_false]; omega)), Bo, (loopM.cont hlt46 hB73).symm.trans hI38⟩
  ·refine CW.seq (cR (sM rfl (sM rfl (sd rfl (yL un34 rfl rfl (sd rfl (yl_lss rfl rfl rfl (dn ?_))))))))
   refine CW.cond_f rfl (lt_f hlt46) (CW.exit (tx (tx ?_)))
   have hL79 : loopM (B_l_markWriteS_0 p_a p_k) (p_a.length - 0) 0 (p_k, p_a) = .done (x29, x30) := hI38.symm.trans (loopM.stop hlt46)
   refine bx (tn (cR (sM rfl (sA rfl (dn (CW.ret ?_))))))
   refine rr rfl (.cons rfl .nil) ?_
   rw [show (l_markWriteS p_a p_k) = ((x29, x30)) by simp only [l_markWriteS, hL79, cL]]
   exact ⟨rfl, hf41, hf42⟩
theorem c_l_heldWriteS {A1 : Option Addr} {c1 : Nat} {w : World} (p_a : List DWrite) (p_k : Int) (h1 : RdS w (Iv 0 w.heap.size) (RF e_Write) 3 A1 p_a.length c1 p_a) (pre0 : p_k ≤ 9223372036854775807) : Cal Tryz.prog 21 #[.slice A1 p_a.length c1, .int .i64 (p_k)] w fun v w' => v = .int .i64 ((l_heldWriteS p_a p_k)) ∧ Ex w w' := by
 refine Cal.of func21 rfl ntmps21 rfl (cR (sA rfl (dn (CW.seq (cR ?_)))))
 refine sA rfl (dn (CW.block (CW.loop (fun m4 L5 w6 => ∃ (k2 : Nat) (x3 : Int), m4 = p_a.length - k2 ∧ k2 ≤ p_a.length ∧ w.heap.size ≤ w6.heap.size ∧ Sub [(0, .slice A1 p_a.length c1), (1, .int .i64 (x3)), (5, .int .i64 ((k2 : Int)))] L5 ∧ RdS w6 (Iv 0 w.heap.size) (RF e_Write) 3 A1 p_a.length c1 p_a ∧ Ex w w6 ∧ x3 ≤ 9223372036854775807 ∧ loopM (B_l_heldWriteS_0 p_a p_k) (p_a.length - k2) k2 (x3) = loopM (B_l_heldWriteS_0 p_a p_k) (p_a.length - 0) 0 (p_k)) (p_a.length - 0) ?_ ?_)))
 ·exact ⟨0, p_k, rfl, oM, Nat.le_refl _, (sR rfl), h1, (Ex.refl w), Bo, rfl⟩
 ·rintro m7 L8 w9 ⟨k2, x3, rfl, hk10, hsz12, hl13, hf14, hf15, hv16, hI11⟩
  refine CW.sub hl13 ?_
  have hf15z := Ex.size hf15
  have hbg17 := RdS.big hf14
  rcases Nat.lt_or_ge k2 p_a.length with hlt18 | hlt18
  ·refine CW.seq (cR (sM rfl (sM rfl (sd rfl (yL un34 rfl rfl (sd rfl (yl_lss rfl rfl rfl (dn ?_))))))))
   refine CW.cond_t rfl (lt_t hlt18) (CW.skip (tn (CW.seq (CW.block (CW.seq (CW.seq ?_))))))
   obtain ⟨eb19, eo19, _, eA19, _, ebl19, _, eR19, eC19⟩ := RdS.aD hf14 d_Write (i := k2)
   obtain rfl := eR19
   refine drJ 8 [.slice A1 p_a.length c1, .int .i64 ((k2 : Int)), .pointer (some ⟨eb19, eo19 + k2 * 3, none⟩), .pointer (some ⟨eb19, eo19 + k2 * 3 + 0, none⟩), .string (bs ((p_a.getD k2 d_Write).Key)), .int .i64 (x3), .string (bs ((l_markText x3))), .bool (!(((p_a.getD k2 d_Write).Key) == (l_markText x3)))] Tryz.follows rfl ⟨oI rfl fun h => yM rfl (h.g 0 rfl) kI, oI rfl fun h => yM rfl (h.g 5 rfl) kI, ?_, oI rfl fun h => yl_fieldAddr fd80_0 rfl (h.g 14 rfl) kI, oI rfl fun h => yl_load1 ty9 rfl (h.g 15 rfl) ((Cells.ex eC19 h.ex) 0 _ rfl) kI, oI rfl fun h => yM rfl (h.g 1 rfl) kI, ?_, oI rfl fun h => yl_sneq (a := ((p_a.getD k2 d_Write).Key)) (b := (l_markText x3)) rfl (h.g 16 rfl) (h.g 18 rfl) kI, trivial⟩ ?_
   ·intro L31 w32 hi33
    have hE34 := hi33.ex
    have hE34z := Ex.size hE34
    exact os rfl ((yl_ixN un34 ty80 rfl (hi33.g 12 rfl) (hi33.g 13 rfl) eA19 kI))
   ·intro L53 w54 hi55
    have hE56 := hi55.ex
    have hE56z := Ex.size hE56
    exact OpR.op' rfl (yC en54 rfl (oc (hi55.g 17 rfl) oz) (Cal.mono (c_l_markText x3 Bo) fun _ _ h => h))
   ·intro fl70 fh71 L67 w68 hp69
    have hE72 := hp69.ex
    have hE72z := Ex.size hE72
    refine dn (CW.sub (hp69.ss [0, 1, 5, 19] rfl) (bcase (((p_a.getD k2 d_Write).Key) == (l_markText x3)) (fun hb77 => ?_) (fun hb77 => ?_)))
    ·refine CW.cond_f rfl (not_t hb77) (CW.skip (tn (cR (sM rfl (sd rfl (yl_add rfl rfl rfl (sA rfl (SeqR.done ?_))))))))
     refine tn (CW.seq (CW.seq ?_))
     have q78 := Cells.ex eC19 hE72
     refine drJ 8 [.slice A1 p_a.length c1, .int .i64 ((k2 : Int)), .pointer (some ⟨eb19, eo19 + k2 * 3, none⟩), .pointer (some ⟨eb19, eo19 + k2 * 3 + 1, none⟩), .string (bs ((p_a.getD k2 d_Write).Val)), .int .i64 (IntKind.wrap .i64 (x3 + 1)), .string (bs ((l_markText (IntKind.wrap .i64 (x3 + 1))))), .bool (!(((p_a.getD k2 d_Write).Val) == (l_markText (IntKind.wrap .i64 (x3 + 1)))))] Tryz.follows rfl ⟨oI rfl fun h => yM rfl (h.g 0 rfl) kI, oI rfl fun h => yM rfl (h.g 5 rfl) kI, ?_, oI rfl fun h => yl_fieldAddr fd80_1 rfl (h.g 24 rfl) kI, oI rfl fun h => yl_load1 ty9 rfl (h.g 25 rfl) ((Cells.ex q78 h.ex) 1 _ rfl) kI, oI rfl fun h => yM rfl (h.g 1 rfl) kI, ?_, oI rfl fun h => yl_sneq (a := ((p_a.getD k2 d_Write).Val)) (b := (l_markText (IntKind.wrap .i64 (x3 + 1)))) rfl (h.g 26 rfl) (h.g 28 rfl) kI, trivial⟩ ?_
     ·intro L90 w91 hi92
      have hE93 := hi92.ex
      have hE93z := Ex.size hE93
      exact os rfl ((yl_ixN un34 ty80 rfl (hi92.g 22 rfl) (hi92.g 23 rfl) eA19 kI))
     ·intro L112 w113 hi114
      have hE115 := hi114.ex
      have hE115z := Ex.size hE115
      exact OpR.op' rfl (yC en54 rfl (oc (hi114.g 27 rfl) oz) (Cal.mono (c_l_markText (IntKind.wrap .i64 (x3 + 1)) Bo) fun _ _ h => h))
     ·intro fl129 fh130 L126 w127 hp128
      have hE131 := hp128.ex
      have hE131z := Ex.size hE131
      refine dn (CW.sub (hp128.ss [0, 1, 5, 29] rfl) (bcase (((p_a.getD k2 d_Write).Val) == (l_markText (IntKind.wrap .i64 (x3 + 1)))) (fun hb136 => ?_) (fun hb136 => ?_)))
      ·refine CW.cond_f rfl (not_t hb136) (CW.skip (tn (cR (sM rfl (sd rfl (yl_add rfl rfl rfl (sA rfl (SeqR.done ?_))))))))
       refine tn (CW.seq (cR (sM rfl (sM rfl (sd rfl (yl_ixN un34 ty80 rfl rfl rfl eA19 (sd rfl (yl_fieldAddr fd80_2 rfl rfl (sd rfl (yl_load1 ty4 rfl rfl ((Cells.ex q78 hE131) 2 _ rfl) ?_))))))))))
       refine sM rfl (sd rfl (yl_rem rfl rfl rfl (by decide) (sd rfl (yl_eql rfl rfl rfl (sd rfl (yl_bneq un4 rfl rfl rfl (dn (bcase (((p_a.getD k2 d_Write).Gone) == (decide ((Int.tmod (IntKind.wrap .i64 ((IntKind.wrap .i64 (x3 + 1)) + 1)) 3) = 0))) (fun hb138 => ?_) (fun hb138 => ?_)))))))))
       ·refine CW.cond_f rfl (not_t hb138) (CW.skip (tn (CW.region (sM rfl (sd rfl (yl_add rfl rfl rfl (sA rfl (SeqR.done (bn ?_)))))))))
        refine tn (CW.region (sM rfl (sd rfl (yl_inc rfl rfl rfl oM (sA rfl (dn ?_))))))
        have hB139 : B_l_heldWriteS_0 p_a p_k k2 (x3) = .cont (IntKind.wrap .i64 ((IntKind.wrap .i64 ((IntKind.wrap .i64 (x3 + 1)) + 1)) + 1)) := by simp only [B_l_heldWriteS_0, hb77, hb136, hb138, cL]
        exact ⟨p_a.length - (k2 + 1), oM, k2 + 1, IntKind.wrap .i64 ((IntKind.wrap .i64 ((IntKind.wrap .i64 (x3 + 1)) + 1)) + 1), rfl, hlt18, oM, (sR rfl), (RdS.ex gW (RdS.ex gW hf14 hE72) hE131), (Ex.trans (Ex.trans hf15 hE72) hE131), Bo, (loopM.cont hlt18 hB139).symm.trans hI11⟩
       ·refine CW.cond_t rfl (not_f hb138) (cR (sA rfl (dn (CW.ret (tr (br ?_))))))
        refine tr (tr ?_)
        have hB145 : B_l_heldWriteS_0 p_a p_k k2 (x3) = .ret (-1) := by simp only [B_l_heldWriteS_0, hb77, hb136, hb138, cL]
        have hL144 : loopM (B_l_heldWriteS_0 p_a p_k) (p_a.length - 0) 0 (p_k) = .ret (-1) := hI11.symm.trans (loopM.ret hlt18 hB145)
        refine br (tr (rr rfl (.cons rfl .nil) ?_))
        rw [show (l_heldWriteS p_a p_k) = (-1) by simp only [l_heldWriteS, hb77, hb136, hb138, hL144, cL]]
        exact ⟨rfl, (Ex.trans (Ex.trans hf15 hE72) hE131)⟩
      ·refine CW.cond_t rfl (not_f hb136) (cR (sA rfl (dn (CW.ret (tr (br ?_))))))
       refine tr (tr ?_)
       have hB150 : B_l_heldWriteS_0 p_a p_k k2 (x3) = .ret (-1) := by simp only [B_l_heldWriteS_0, hb77, hb136, cL]
       have hL149 : loopM (B_l_heldWriteS_0 p_a p_k) (p_a.length - 0) 0 (p_k) = .ret (-1) := hI11.symm.trans (loopM.ret hlt18 hB150)
       refine br (tr (rr rfl (.cons rfl .nil) ?_))
       rw [show (l_heldWriteS p_a p_k) = (-1) by simp only [l_heldWriteS, hb77, hb136, hL149, cL]]
       exact ⟨rfl, (Ex.trans (Ex.trans hf15 hE72) hE131)⟩
    ·refine CW.cond_t rfl (not_f hb77) (cR (sA rfl (dn (CW.ret (tr (br ?_))))))
     refine tr (tr ?_)
     have hB155 : B_l_heldWriteS_0 p_a p_k k2 (x3) = .ret (-1) := by simp only [B_l_heldWriteS_0, hb77, cL]
     have hL154 : loopM (B_l_heldWriteS_0 p_a p_k) (p_a.length - 0) 0 (p_k) = .ret (-1) := hI11.symm.trans (loopM.ret hlt18 hB155)
     refine br (tr (rr rfl (.cons rfl .nil) ?_))
     rw [show (l_heldWriteS p_a p_k) = (-1) by simp only [l_heldWriteS, hb77, hL154, cL]]
     exact ⟨rfl, (Ex.trans hf15 hE72)⟩
  ·refine CW.seq (cR (sM rfl (sM rfl (sd rfl (yL un34 rfl rfl (sd rfl (yl_lss rfl rfl rfl (dn ?_))))))))
   refine CW.cond_f rfl (lt_f hlt18) (CW.exit (tx (tx ?_)))
   have hL158 : loopM (B_l_heldWriteS_0 p_a p_k) (p_a.length - 0) 0 (p_k) = .done (x3) := hI11.symm.trans (loopM.stop hlt18)
   refine bx (tn (cR (sM rfl (sA rfl (dn (CW.ret ?_))))))
   refine rr rfl (.cons rfl .nil) ?_
   rw [show (l_heldWriteS p_a p_k) = (x3) by simp only [l_heldWriteS, hL158, cL]]
   exact ⟨rfl, hf15⟩
theorem c_l_szFill {w : World} (p_a : DFill) (p_left : Int) : Cal Tryz.prog 22 #[.agg #[.string (bs (p_a.Last)), .bool (p_a.Over)], .int .i64 (p_left)] w fun v w' => v = .int .i64 ((l_szFill p_a p_left)) ∧ Ex w w' := by
 refine Cal.of func22 rfl ntmps22 rfl (cR (sd rfl (yl_box rfl rfl rfl ?_)))
 intro b1 w2 hs3 hz4 hB5 hE6
 refine sA rfl (dn (cR (sM rfl (sd rfl (yl_fieldAddr fd54_0 rfl rfl (sd rfl (yl_load1 ty9 rfl rfl ((hB5.cell 0).trans rfl) (sd rfl (yl_slen un9 (a := p_a.Last) rfl rfl ?_)))))))))
 refine sd rfl (yl_sub rfl rfl rfl (sA rfl (dn (CW.seq (cR (sM rfl (sd rfl (yl_lss rfl rfl rfl ?_))))))))
 refine dn (bcD (q := (IntKind.wrap .i64 (p_left - (p_a.Last.length : Int))) < 0) (fun hb7 hb7p => ?_) (fun hb7 hb7p => ?_))
 ·refine CW.cond_t rfl hb7 (cR (sA rfl (dn (CW.ret (tr (rr rfl (.cons rfl .nil) ?_))))))
  rw [show (l_szFill p_a p_left) = (-1) by simp only [l_szFill, hb7, cL]]
  exact ⟨rfl, (Ex.trans (Ex.refl w) hE6)⟩
 ·refine CW.cond_f rfl hb7 (CW.skip (tn (cR (sM rfl (sA rfl (dn ?_))))))
  refine CW.ret (rr rfl (.cons rfl .nil) ?_)
  rw [show (l_szFill p_a p_left) = (IntKind.wrap .i64 (p_left - (p_a.Last.length : Int))) by simp only [l_szFill, hb7, cL]]
  exact ⟨rfl, (Ex.trans (Ex.refl w) hE6)⟩
theorem c_s_l1In {w : World} (p_n : Int) (p_lo : Int) (p_hi : Int) : Cal Tryz.prog 91 #[.int .i64 (p_n), .int .i64 (p_lo), .int .i64 (p_hi)] w fun v w' => v = .bool ((s_l1In p_n p_lo p_hi)) ∧ Ex w w' := by
 refine Cal.of func91 rfl ntmps91 rfl (cR (sA rfl (dn (cR (sM rfl ?_)))))
 refine sM rfl (sd rfl (yl_geq rfl rfl rfl (sM rfl (bcD (q := p_lo ≤ p_n) (fun hb1 hb1p => ?_) (fun hb1 hb1p => ?_)))))
 ·refine sy rfl rfl hb1 (yM rfl rfl (sy rfl rfl hb1 (yM rfl rfl (sy rfl rfl hb1 (yl_leq rfl rfl rfl (sd rfl (yl_pick_t rfl rfl hb1 rfl (sA rfl (dn (CW.ret (rr rfl (.cons rfl .nil) ?_)))))))))))
  rw [show (s_l1In p_n p_lo p_hi) = (decide (p_n ≤ p_hi)) by simp only [s_l1In, hb1, cL]]
  exact ⟨rfl, (Ex.refl w)⟩
 ·refine sz rfl rfl hb1 (sz rfl rfl hb1 (sz rfl rfl hb1 (sd rfl (yl_pick_f rfl rfl hb1 rfl (sA rfl (dn (CW.ret (rr rfl (.cons rfl .nil) ?_))))))))
  rw [show (s_l1In p_n p_lo p_hi) = (false) by simp only [s_l1In, hb1, cL]]
  exact ⟨rfl, (Ex.refl w)⟩
theorem c_s_l3Bytes {w : World} (p_s : Str) (p_more : Str) (o1 : okS p_s) (o2 : okS p_more) : Cal Tryz.prog 139 #[.string (bs (p_s)), .string (bs (p_more))] w fun v w' => v = .bool ((s_l3Bytes p_s p_more)) ∧ Ex w w' := by
 have hol3 : p_s.length ≤ 1073741824 := o1
 have hol4 : p_more.length ≤ 1073741824 := o2
 refine Cal.of func139 rfl ntmps139 rfl (cR (sA rfl (dn (CW.seq (cR ?_)))))
 refine sA rfl (dn (CW.block (CW.loop (fun m6 L7 w8 => ∃ (k5 : Nat), m6 = p_s.length - k5 ∧ k5 ≤ p_s.length ∧ w.heap.size ≤ w8.heap.size ∧ Sub [(0, .string (bs (p_s))), (1, .string (bs (p_more))), (5, .int .i64 ((k5 : Int)))] L7 ∧ Ex w w8 ∧ loopM (B_s_l3Bytes_0 p_s p_more) (p_s.length - k5) k5 () = loopM (B_s_l3Bytes_0 p_s p_more) (p_s.length - 0) 0 ()) (p_s.length - 0) ?_ ?_)))
 ·exact ⟨0, rfl, oM, Nat.le_refl _, (sR rfl), (Ex.refl w), rfl⟩
 ·rintro m9 L10 w11 ⟨k5, rfl, hk12, hsz14, hl15, hf16, hI13⟩
  refine CW.sub hl15 ?_
  have hf16z := Ex.size hf16
  have hbg17 : p_s.length ≤ 1073741824 := o1
  rcases Nat.lt_or_ge k5 p_s.length with hlt18 | hlt18
  ·refine CW.seq (cR (sM rfl (sM rfl (sd rfl (yl_slen un9 (a := p_s) rfl rfl (sd rfl (yl_lss rfl rfl rfl (dn ?_))))))))
   refine CW.cond_t rfl (lt_t hlt18) (CW.skip (tn (CW.seq (CW.block (cR (sM rfl (sM rfl ?_)))))))
   refine sd rfl (yl_sindexN un9 (a := p_s) rfl rfl rfl Bo (sd rfl (yl_geq rfl rfl rfl (sM rfl (bcD (q := 97 ≤ ((p_s.getD k5 0).toNat : Int)) (fun hb19 hb19p => ?_) (fun hb19 hb19p => ?_))))))
   ·refine sy rfl rfl hb19 (yM rfl rfl (sy rfl rfl hb19 (yM rfl rfl (sy rfl rfl hb19 (yl_sindexN un9 (a := p_s) rfl rfl rfl Bo (sy rfl rfl hb19 (yl_leq rfl rfl rfl (sd rfl (yl_pick_t rfl rfl hb19 rfl (sM rfl (bcD (q := ((p_s.getD k5 0).toNat : Int) ≤ 122) (fun hb20 hb20p => ?_) (fun hb20 hb20p => ?_))))))))))))
    ·refine sz rfl rfl hb20 (sz rfl rfl hb20 (sz rfl rfl hb20 (sz rfl rfl hb20 (sz rfl rfl hb20 (sq rfl rfl (sq rfl rfl (sq rfl rfl (sq rfl rfl ?_))))))))
     refine sz rfl rfl hb20 (sd rfl (yl_pick_t rfl rfl hb20 rfl (sA rfl (dn (CW.seq (cR (sA rfl ?_)))))))
     refine dn (CW.block (CW.loop (fun m23 L24 w25 => ∃ (k21 : Nat) (x22 : Bool), m23 = p_more.length - k21 ∧ k21 ≤ p_more.length ∧ w11.heap.size ≤ w25.heap.size ∧ Sub [(0, .string (bs (p_s))), (1, .string (bs (p_more))), (5, .int .i64 ((k5 : Int))), (6, .bool (x22)), (7, .int .i64 ((k21 : Int)))] L24 ∧ Ex w w25 ∧ loopM (B_s_l3Bytes_1 p_s p_more k5) (p_more.length - k21) k21 (x22) = loopM (B_s_l3Bytes_1 p_s p_more k5) (p_more.length - 0) 0 (true)) (p_more.length - 0) ?_ ?_))
     ·exact ⟨0, true, rfl, oM, Nat.le_refl _, (sR rfl), hf16, rfl⟩
     ·rintro m26 L27 w28 ⟨k21, x22, rfl, hk29, hsz31, hl32, hf33, hI30⟩
      refine CW.sub hl32 ?_
      have hf33z := Ex.size hf33
      have hbg34 : p_more.length ≤ 1073741824 := o2
      rcases Nat.lt_or_ge k21 p_more.length with hlt35 | hlt35
      ·refine CW.seq (cR (sM rfl (sM rfl (sd rfl (yl_slen un9 (a := p_more) rfl rfl (sd rfl (yl_lss rfl rfl rfl (dn ?_))))))))
       refine CW.cond_t rfl (lt_t hlt35) (CW.skip (tn (CW.seq (CW.block (bcase (x22) (fun hb36 => ?_) (fun hb36 => ?_))))))
       ·refine drJ 11 [.bool (x22), .bool (x22), undef, undef, undef, undef, undef, undef, undef, .bool (true), .bool (true)] Tryz.follows rfl ⟨oI rfl fun h => yM rfl (h.g 6 rfl) kI, oI rfl fun h => yM rfl (h.g 42 rfl) kI, oS rfl rfl rfl rfl rfl hb36, oS rfl rfl rfl rfl rfl hb36, oS rfl rfl rfl rfl rfl hb36, oS rfl rfl rfl rfl rfl hb36, oS rfl rfl rfl rfl rfl hb36, oS rfl rfl rfl rfl rfl hb36, oS rfl rfl rfl rfl rfl hb36, oI rfl fun h => yl_pick_t rfl (h.g 43 rfl) hb36 rfl kI, oI rfl fun h => yA rfl (h.g 51 rfl) kI, trivial⟩ ?_
        ·intro fl96 fh97 L93 w94 hp95
         have hE98 := hp95.ex
         have hE98z := Ex.size hE98
         refine SeqR.done (bn (tn (CW.sub (hp95.ss [0, 1, 5, 6, 7] rfl) (CW.region (sM rfl (sd rfl (yl_inc rfl rfl rfl oM (sA rfl (SeqR.done ?_)))))))))
         refine tn ?_
         have hB104 : B_s_l3Bytes_1 p_s p_more k5 k21 (x22) = .cont (true) := by simp only [B_s_l3Bytes_1, hb19, hb20, hb36, cL]
         exact ⟨p_more.length - (k21 + 1), oM, k21 + 1, true, rfl, hlt35, oM, (sR rfl), (Ex.trans hf33 hE98), (loopM.cont hlt35 hB104).symm.trans hI30⟩
       ·refine drJ 11 [.bool (x22), .bool (x22), .string (bs (p_s)), .int .i64 ((k5 : Int)), .int .u8 (((p_s.getD k5 0).toNat : Int)), .string (bs (p_more)), .int .i64 ((k21 : Int)), .int .u8 (((p_more.getD k21 0).toNat : Int)), .bool (decide (((p_s.getD k5 0).toNat : Int) = ((p_more.getD k21 0).toNat : Int))), .bool (decide (((p_s.getD k5 0).toNat : Int) = ((p_more.getD k21 0).toNat : Int))), .bool (decide (((p_s.getD k5 0).toNat : Int) = ((p_more.getD k21 0).toNat : Int)))] Tryz.follows rfl ⟨oI rfl fun h => yM rfl (h.g 6 rfl) kI, oI rfl fun h => yM rfl (h.g 42 rfl) kI, oW rfl rfl rfl rfl hb36 fun h => yM rfl (h.g 0 rfl) kI, oW rfl rfl rfl rfl hb36 fun h => yM rfl (h.g 5 rfl) kI, ?_, oW rfl rfl rfl rfl hb36 fun h => yM rfl (h.g 1 rfl) kI, oW rfl rfl rfl rfl hb36 fun h => yM rfl (h.g 7 rfl) kI, ?_, oW rfl rfl rfl rfl hb36 fun h => yl_eql rfl (h.g 46 rfl) (h.g 49 rfl) kI, oI rfl fun h => yl_pick_f rfl (h.g 43 rfl) hb36 (h.g 50 rfl) kI, oI rfl fun h => yA rfl (h.g 51 rfl) kI, trivial⟩ ?_
        ·intro L128 w129 hi130
         have hE131 := hi130.ex
         have hE131z := Ex.size hE131
         exact OpR.want rfl rfl (hi130.g 43 rfl) hb36 (Yl.sameI (yl_sindexN un9 (a := p_s) rfl (hi130.g 44 rfl) (hi130.g 45 rfl) Bo kI))
        ·intro L147 w148 hi149
         have hE150 := hi149.ex
         have hE150z := Ex.size hE150
         exact OpR.want rfl rfl (hi149.g 43 rfl) hb36 (Yl.sameI (yl_sindexN un9 (a := p_more) rfl (hi149.g 47 rfl) (hi149.g 48 rfl) Bo kI))
        ·intro fl175 fh176 L172 w173 hp174
         have hE177 := hp174.ex
         have hE177z := Ex.size hE177
         refine SeqR.done (bn (tn (CW.sub (hp174.ss [0, 1, 5, 6, 7] rfl) (CW.region (sM rfl (sd rfl (yl_inc rfl rfl rfl oM (sA rfl (SeqR.done ?_)))))))))
         refine tn ?_
         have hB183 : B_s_l3Bytes_1 p_s p_more k5 k21 (x22) = .cont (decide (((p_s.getD k5 0).toNat : Int) = ((p_more.getD k21 0).toNat : Int))) := by simp only [B_s_l3Bytes_1, hb19, hb20, hb36, cL]
         exact ⟨p_more.length - (k21 + 1), oM, k21 + 1, decide (((p_s.getD k5 0).toNat : Int) = ((p_more.getD k21 0).toNat : Int)), rfl, hlt35, oM, (sR rfl), (Ex.trans hf33 hE177), (loopM.cont hlt35 hB183).symm.trans hI30⟩
      ·refine CW.seq (cR (sM rfl (sM rfl (sd rfl (yl_slen un9 (a := p_more) rfl rfl (sd rfl (yl_lss rfl rfl rfl (dn ?_))))))))
       refine CW.cond_f rfl (lt_f hlt35) (CW.exit (tx (tx ?_)))
       have hL185 : loopM (B_s_l3Bytes_1 p_s p_more k5) (p_more.length - 0) 0 (true) = .done (x22) := hI30.symm.trans (loopM.stop hlt35)
       refine bx (tn (cR (sM rfl (sd rfl (yl_not rfl rfl (dn (bcase (x22) (fun hb186 => ?_) (fun hb186 => ?_))))))))
       ·refine CW.cond_f rfl (not_t hb186) (CW.skip (bn (tn (CW.region (sM rfl (sd rfl (yl_inc rfl rfl rfl oM (sA rfl (SeqR.done ?_)))))))))
        refine tn ?_
        have hB187 : B_s_l3Bytes_0 p_s p_more k5 () = .cont () := by simp only [B_s_l3Bytes_0, hb19, hb20, hb186, hL185, cL]
        exact ⟨p_s.length - (k5 + 1), oM, k5 + 1, rfl, hlt18, oM, (sR rfl), hf33, (loopM.cont hlt18 hB187).symm.trans hI13⟩
       ·refine CW.cond_t rfl (not_f hb186) (cR (sA rfl (dn (CW.ret (br (tr ?_))))))
        refine tr ?_
        have hB189 : B_s_l3Bytes_0 p_s p_more k5 () = .ret false := by simp only [B_s_l3Bytes_0, hb19, hb20, hb186, hL185, cL]
        have hL188 : loopM (B_s_l3Bytes_0 p_s p_more) (p_s.length - 0) 0 () = .ret false := hI13.symm.trans (loopM.ret hlt18 hB189)
        refine br (tr (rr rfl (.cons rfl .nil) ?_))
        rw [show (s_l3Bytes p_s p_more) = (false) by simp only [s_l3Bytes, hb19, hb20, hb186, hL185, hL188, cL]]
        exact ⟨rfl, hf33⟩
    ·refine sy rfl rfl hb20 (yM rfl rfl (sy rfl rfl hb20 (yM rfl rfl (sy rfl rfl hb20 (yl_sindexN un9 (a := p_s) rfl rfl rfl Bo (sy rfl rfl hb20 (yl_geq rfl rfl rfl (sy rfl rfl hb20 (yM rfl rfl (bcD (q := 48 ≤ ((p_s.getD k5 0).toNat : Int)) (fun hb191 hb191p => ?_) (fun hb191 hb191p => ?_)))))))))))
     ·refine sy rfl rfl hb191 (yM rfl rfl (sy rfl rfl hb191 (yM rfl rfl (sy rfl rfl hb191 (yl_sindexN un9 (a := p_s) rfl rfl rfl Bo (sy rfl rfl hb191 (yl_leq rfl rfl rfl (sy rfl rfl hb20 (yl_pick_t rfl rfl hb191 rfl (sd rfl (yl_pick_f rfl rfl hb20 rfl (sA rfl (dn ?_)))))))))))))
      refine CW.seq (cR (sA rfl (dn (CW.block (CW.loop (fun m194 L195 w196 => ∃ (k192 : Nat) (x193 : Bool), m194 = p_more.length - k192 ∧ k192 ≤ p_more.length ∧ w11.heap.size ≤ w196.heap.size ∧ Sub [(0, .string (bs (p_s))), (1, .string (bs (p_more))), (5, .int .i64 ((k5 : Int))), (6, .bool (x193)), (7, .int .i64 ((k192 : Int)))] L195 ∧ Ex w w196 ∧ loopM (B_s_l3Bytes_1 p_s p_more k5) (p_more.length - k192) k192 (x193) = loopM (B_s_l3Bytes_1 p_s p_more k5) (p_more.length - 0) 0 (decide (((p_s.getD k5 0).toNat : Int) ≤ 57))) (p_more.length - 0) ?_ ?_)))))
      ·exact ⟨0, decide (((p_s.getD k5 0).toNat : Int) ≤ 57), rfl, oM, Nat.le_refl _, (sR rfl), hf16, rfl⟩
      ·rintro m197 L198 w199 ⟨k192, x193, rfl, hk200, hsz202, hl203, hf204, hI201⟩
       refine CW.sub hl203 ?_
       have hf204z := Ex.size hf204
       have hbg205 : p_more.length ≤ 1073741824 := o2
       rcases Nat.lt_or_ge k192 p_more.length with hlt206 | hlt206
       ·refine CW.seq (cR (sM rfl (sM rfl (sd rfl (yl_slen un9 (a := p_more) rfl rfl (sd rfl (yl_lss rfl rfl rfl (dn ?_))))))))
        refine CW.cond_t rfl (lt_t hlt206) (CW.skip (tn (CW.seq (CW.block (bcase (x193) (fun hb207 => ?_) (fun hb207 => ?_))))))
        ·refine drJ 11 [.bool (x193), .bool (x193), undef, undef, undef, undef, undef, undef, undef, .bool (true), .bool (true)] Tryz.follows rfl ⟨oI rfl fun h => yM rfl (h.g 6 rfl) kI, oI rfl fun h => yM rfl (h.g 42 rfl) kI, oS rfl rfl rfl rfl rfl hb207, oS rfl rfl rfl rfl rfl hb207, oS rfl rfl rfl rfl rfl hb207, oS rfl rfl rfl rfl rfl hb207, oS rfl rfl rfl rfl rfl hb207, oS rfl rfl rfl rfl rfl hb207, oS rfl rfl rfl rfl rfl hb207, oI rfl fun h => yl_pick_t rfl (h.g 43 rfl) hb207 rfl kI, oI rfl fun h => yA rfl (h.g 51 rfl) kI, trivial⟩ ?_
         ·intro fl267 fh268 L264 w265 hp266
          have hE269 := hp266.ex
          have hE269z := Ex.size hE269
          refine SeqR.done (bn (tn (CW.sub (hp266.ss [0, 1, 5, 6, 7] rfl) (CW.region (sM rfl (sd rfl (yl_inc rfl rfl rfl oM (sA rfl (SeqR.done ?_)))))))))
          refine tn ?_
          have hB275 : B_s_l3Bytes_1 p_s p_more k5 k192 (x193) = .cont (true) := by simp only [B_s_l3Bytes_1, hb19, hb20, hb191, hb207, cL]
          exact ⟨p_more.length - (k192 + 1), oM, k192 + 1, true, rfl, hlt206, oM, (sR rfl), (Ex.trans hf204 hE269), (loopM.cont hlt206 hB275).symm.trans hI201⟩
        ·refine drJ 11 [.bool (x193), .bool (x193), .string (bs (p_s)), .int .i64 ((k5 : Int)), .int .u8 (((p_s.getD k5 0).toNat : Int)), .string (bs (p_more)), .int .i64 ((k192 : Int)), .int .u8 (((p_more.getD k192 0).toNat : Int)), .bool (decide (((p_s.getD k5 0).toNat : Int) = ((p_more.getD k192 0).toNat : Int))), .bool (decide (((p_s.getD k5 0).toNat : Int) = ((p_more.getD k192 0).toNat : Int))), .bool (decide (((p_s.getD k5 0).toNat : Int) = ((p_more.getD k192 0).toNat : Int)))] Tryz.follows rfl ⟨oI rfl fun h => yM rfl (h.g 6 rfl) kI, oI rfl fun h => yM rfl (h.g 42 rfl) kI, oW rfl rfl rfl rfl hb207 fun h => yM rfl (h.g 0 rfl) kI, oW rfl rfl rfl rfl hb207 fun h => yM rfl (h.g 5 rfl) kI, ?_, oW rfl rfl rfl rfl hb207 fun h => yM rfl (h.g 1 rfl) kI, oW rfl rfl rfl rfl hb207 fun h => yM rfl (h.g 7 rfl) kI, ?_, oW rfl rfl rfl rfl hb207 fun h => yl_eql rfl (h.g 46 rfl) (h.g 49 rfl) kI, oI rfl fun h => yl_pick_f rfl (h.g 43 rfl) hb207 (h.g 50 rfl) kI, oI rfl fun h => yA rfl (h.g 51 rfl) kI, trivial⟩ ?_
         ·intro L299 w300 hi301
          have hE302 := hi301.ex
          have hE302z := Ex.size hE302
          exact OpR.want rfl rfl (hi301.g 43 rfl) hb207 (Yl.sameI (yl_sindexN un9 (a := p_s) rfl (hi301.g 44 rfl) (hi301.g 45 rfl) Bo kI))
         ·intro L318 w319 hi320
          have hE321 := hi320.ex
          have hE321z := Ex.size hE321
          exact OpR.want rfl rfl (hi320.g 43 rfl) hb207 (Yl.sameI (yl_sindexN un9 (a := p_more) rfl (hi320.g 47 rfl) (hi320.g 48 rfl) Bo kI))
         ·intro fl346 fh347 L343 w344 hp345
          have hE348 := hp345.ex
          have hE348z := Ex.size hE348
          refine SeqR.done (bn (tn (CW.sub (hp345.ss [0, 1, 5, 6, 7] rfl) (CW.region (sM rfl (sd rfl (yl_inc rfl rfl rfl oM (sA rfl (SeqR.done ?_)))))))))
          refine tn ?_
          have hB354 : B_s_l3Bytes_1 p_s p_more k5 k192 (x193) = .cont (decide (((p_s.getD k5 0).toNat : Int) = ((p_more.getD k192 0).toNat : Int))) := by simp only [B_s_l3Bytes_1, hb19, hb20, hb191, hb207, cL]
          exact ⟨p_more.length - (k192 + 1), oM, k192 + 1, decide (((p_s.getD k5 0).toNat : Int) = ((p_more.getD k192 0).toNat : Int)), rfl, hlt206, oM, (sR rfl), (Ex.trans hf204 hE348), (loopM.cont hlt206 hB354).symm.trans hI201⟩
       ·refine CW.seq (cR (sM rfl (sM rfl (sd rfl (yl_slen un9 (a := p_more) rfl rfl (sd rfl (yl_lss rfl rfl rfl (dn ?_))))))))
        refine CW.cond_f rfl (lt_f hlt206) (CW.exit (tx (tx ?_)))
        have hL356 : loopM (B_s_l3Bytes_1 p_s p_more k5) (p_more.length - 0) 0 (decide (((p_s.getD k5 0).toNat : Int) ≤ 57)) = .done (x193) := hI201.symm.trans (loopM.stop hlt206)
        refine bx (tn (cR (sM rfl (sd rfl (yl_not rfl rfl (dn (bcase (x193) (fun hb357 => ?_) (fun hb357 => ?_))))))))
        ·refine CW.cond_f rfl (not_t hb357) (CW.skip (bn (tn (CW.region (sM rfl (sd rfl (yl_inc rfl rfl rfl oM (sA rfl (SeqR.done ?_)))))))))
         refine tn ?_
         have hB358 : B_s_l3Bytes_0 p_s p_more k5 () = .cont () := by simp only [B_s_l3Bytes_0, hb19, hb20, hb191, hb357, hL356, cL]
         exact ⟨p_s.length - (k5 + 1), oM, k5 + 1, rfl, hlt18, oM, (sR rfl), hf204, (loopM.cont hlt18 hB358).symm.trans hI13⟩
        ·refine CW.cond_t rfl (not_f hb357) (cR (sA rfl (dn (CW.ret (br (tr ?_))))))
         refine tr ?_
         have hB360 : B_s_l3Bytes_0 p_s p_more k5 () = .ret false := by simp only [B_s_l3Bytes_0, hb19, hb20, hb191, hb357, hL356, cL]
         have hL359 : loopM (B_s_l3Bytes_0 p_s p_more) (p_s.length - 0) 0 () = .ret false := hI13.symm.trans (loopM.ret hlt18 hB360)
         refine br (tr (rr rfl (.cons rfl .nil) ?_))
         rw [show (s_l3Bytes p_s p_more) = (false) by simp only [s_l3Bytes, hb19, hb20, hb191, hb357, hL356, hL359, cL]]
         exact ⟨rfl, hf204⟩
     ·refine sz rfl rfl hb191 (sz rfl rfl hb191 (sz rfl rfl hb191 (sz rfl rfl hb191 (sy rfl rfl hb20 (yl_pick_f rfl rfl hb191 rfl (sd rfl (yl_pick_f rfl rfl hb20 rfl (sA rfl (dn ?_)))))))))
      refine CW.seq (cR (sA rfl (dn (CW.block (CW.loop (fun m364 L365 w366 => ∃ (k362 : Nat) (x363 : Bool), m364 = p_more.length - k362 ∧ k362 ≤ p_more.length ∧ w11.heap.size ≤ w366.heap.size ∧ Sub [(0, .string (bs (p_s))), (1, .string (bs (p_more))), (5, .int .i64 ((k5 : Int))), (6, .bool (x363)), (7, .int .i64 ((k362 : Int)))] L365 ∧ Ex w w366 ∧ loopM (B_s_l3Bytes_1 p_s p_more k5) (p_more.length - k362) k362 (x363) = loopM (B_s_l3Bytes_1 p_s p_more k5) (p_more.length - 0) 0 (false)) (p_more.length - 0) ?_ ?_)))))
      ·exact ⟨0, false, rfl, oM, Nat.le_refl _, (sR rfl), hf16, rfl⟩
      ·rintro m367 L368 w369 ⟨k362, x363, rfl, hk370, hsz372, hl373, hf374, hI371⟩
       refine CW.sub hl373 ?_
       have hf374z := Ex.size hf374
       have hbg375 : p_more.length ≤ 1073741824 := o2
       rcases Nat.lt_or_ge k362 p_more.length with hlt376 | hlt376
       ·refine CW.seq (cR (sM rfl (sM rfl (sd rfl (yl_slen un9 (a := p_more) rfl rfl (sd rfl (yl_lss rfl rfl rfl (dn ?_))))))))
        refine CW.cond_t rfl (lt_t hlt376) (CW.skip (tn (CW.seq (CW.block (bcase (x363) (fun hb377 => ?_) (fun hb377 => ?_))))))
        ·refine drJ 11 [.bool (x363), .bool (x363), undef, undef, undef, undef, undef, undef, undef, .bool (true), .bool (true)] Tryz.follows rfl ⟨oI rfl fun h => yM rfl (h.g 6 rfl) kI, oI rfl fun h => yM rfl (h.g 42 rfl) kI, oS rfl rfl rfl rfl rfl hb377, oS rfl rfl rfl rfl rfl hb377, oS rfl rfl rfl rfl rfl hb377, oS rfl rfl rfl rfl rfl hb377, oS rfl rfl rfl rfl rfl hb377, oS rfl rfl rfl rfl rfl hb377, oS rfl rfl rfl rfl rfl hb377, oI rfl fun h => yl_pick_t rfl (h.g 43 rfl) hb377 rfl kI, oI rfl fun h => yA rfl (h.g 51 rfl) kI, trivial⟩ ?_
         ·intro fl437 fh438 L434 w435 hp436
          have hE439 := hp436.ex
          have hE439z := Ex.size hE439
          refine SeqR.done (bn (tn (CW.sub (hp436.ss [0, 1, 5, 6, 7] rfl) (CW.region (sM rfl (sd rfl (yl_inc rfl rfl rfl oM (sA rfl (SeqR.done ?_)))))))))
          refine tn ?_
          have hB445 : B_s_l3Bytes_1 p_s p_more k5 k362 (x363) = .cont (true) := by simp only [B_s_l3Bytes_1, hb19, hb20, hb191, hb377, cL]
          exact ⟨p_more.length - (k362 + 1), oM, k362 + 1, true, rfl, hlt376, oM, (sR rfl), (Ex.trans hf374 hE439), (loopM.cont hlt376 hB445).symm.trans hI371⟩
        ·refine drJ 11 [.bool (x363), .bool (x363), .string (bs (p_s)), .int .i64 ((k5 : Int)), .int .u8 (((p_s.getD k5 0).toNat : Int)), .string (bs (p_more)), .int .i64 ((k362 : Int)), .int .u8 (((p_more.getD k362 0).toNat : Int)), .bool (decide (((p_s.getD k5 0).toNat : Int) = ((p_more.getD k362 0).toNat : Int))), .bool (decide (((p_s.getD k5 0).toNat : Int) = ((p_more.getD k362 0).toNat : Int))), .bool (decide (((p_s.getD k5 0).toNat : Int) = ((p_more.getD k362 0).toNat : Int)))] Tryz.follows rfl ⟨oI rfl fun h => yM rfl (h.g 6 rfl) kI, oI rfl fun h => yM rfl (h.g 42 rfl) kI, oW rfl rfl rfl rfl hb377 fun h => yM rfl (h.g 0 rfl) kI, oW rfl rfl rfl rfl hb377 fun h => yM rfl (h.g 5 rfl) kI, ?_, oW rfl rfl rfl rfl hb377 fun h => yM rfl (h.g 1 rfl) kI, oW rfl rfl rfl rfl hb377 fun h => yM rfl (h.g 7 rfl) kI, ?_, oW rfl rfl rfl rfl hb377 fun h => yl_eql rfl (h.g 46 rfl) (h.g 49 rfl) kI, oI rfl fun h => yl_pick_f rfl (h.g 43 rfl) hb377 (h.g 50 rfl) kI, oI rfl fun h => yA rfl (h.g 51 rfl) kI, trivial⟩ ?_
         ·intro L469 w470 hi471
          have hE472 := hi471.ex
          have hE472z := Ex.size hE472
          exact OpR.want rfl rfl (hi471.g 43 rfl) hb377 (Yl.sameI (yl_sindexN un9 (a := p_s) rfl (hi471.g 44 rfl) (hi471.g 45 rfl) Bo kI))
         ·intro L488 w489 hi490
          have hE491 := hi490.ex
          have hE491z := Ex.size hE491
          exact OpR.want rfl rfl (hi490.g 43 rfl) hb377 (Yl.sameI (yl_sindexN un9 (a := p_more) rfl (hi490.g 47 rfl) (hi490.g 48 rfl) Bo kI))
         ·intro fl516 fh517 L513 w514 hp515
          have hE518 := hp515.ex
          have hE518z := Ex.size hE518
          refine SeqR.done (bn (tn (CW.sub (hp515.ss [0, 1, 5, 6, 7] rfl) (CW.region (sM rfl (sd rfl (yl_inc rfl rfl rfl oM (sA rfl (SeqR.done ?_)))))))))
          refine tn ?_
          have hB524 : B_s_l3Bytes_1 p_s p_more k5 k362 (x363) = .cont (decide (((p_s.getD k5 0).toNat : Int) = ((p_more.getD k362 0).toNat : Int))) := by simp only [B_s_l3Bytes_1, hb19, hb20, hb191, hb377, cL]
          exact ⟨p_more.length - (k362 + 1), oM, k362 + 1, decide (((p_s.getD k5 0).toNat : Int) = ((p_more.getD k362 0).toNat : Int)), rfl, hlt376, oM, (sR rfl), (Ex.trans hf374 hE518), (loopM.cont hlt376 hB524).symm.trans hI371⟩
       ·refine CW.seq (cR (sM rfl (sM rfl (sd rfl (yl_slen un9 (a := p_more) rfl rfl (sd rfl (yl_lss rfl rfl rfl (dn ?_))))))))
        refine CW.cond_f rfl (lt_f hlt376) (CW.exit (tx (tx ?_)))
        have hL526 : loopM (B_s_l3Bytes_1 p_s p_more k5) (p_more.length - 0) 0 (false) = .done (x363) := hI371.symm.trans (loopM.stop hlt376)
        refine bx (tn (cR (sM rfl (sd rfl (yl_not rfl rfl (dn (bcase (x363) (fun hb527 => ?_) (fun hb527 => ?_))))))))
        ·refine CW.cond_f rfl (not_t hb527) (CW.skip (bn (tn (CW.region (sM rfl (sd rfl (yl_inc rfl rfl rfl oM (sA rfl (SeqR.done ?_)))))))))
         refine tn ?_
         have hB528 : B_s_l3Bytes_0 p_s p_more k5 () = .cont () := by simp only [B_s_l3Bytes_0, hb19, hb20, hb191, hb527, hL526, cL]
         exact ⟨p_s.length - (k5 + 1), oM, k5 + 1, rfl, hlt18, oM, (sR rfl), hf374, (loopM.cont hlt18 hB528).symm.trans hI13⟩
        ·refine CW.cond_t rfl (not_f hb527) (cR (sA rfl (dn (CW.ret (br (tr ?_))))))
         refine tr ?_
         have hB530 : B_s_l3Bytes_0 p_s p_more k5 () = .ret false := by simp only [B_s_l3Bytes_0, hb19, hb20, hb191, hb527, hL526, cL]
         have hL529 : loopM (B_s_l3Bytes_0 p_s p_more) (p_s.length - 0) 0 () = .ret false := hI13.symm.trans (loopM.ret hlt18 hB530)
         refine br (tr (rr rfl (.cons rfl .nil) ?_))
         rw [show (s_l3Bytes p_s p_more) = (false) by simp only [s_l3Bytes, hb19, hb20, hb191, hb527, hL526, hL529, cL]]
         exact ⟨rfl, hf374⟩
   ·refine sz rfl rfl hb19 (sz rfl rfl hb19 (sz rfl rfl hb19 (sz rfl rfl hb19 (sd rfl (yl_pick_f rfl rfl hb19 rfl (sM rfl (sy rfl rfl rfl (yM rfl rfl (sy rfl rfl rfl (yM rfl rfl (sy rfl rfl rfl (yl_sindexN un9 (a := p_s) rfl rfl rfl Bo ?_))))))))))))
    refine sy rfl rfl rfl (yl_geq rfl rfl rfl (sy rfl rfl rfl (yM rfl rfl (bcD (q := 48 ≤ ((p_s.getD k5 0).toNat : Int)) (fun hb532 hb532p => ?_) (fun hb532 hb532p => ?_)))))
    ·refine sy rfl rfl hb532 (yM rfl rfl (sy rfl rfl hb532 (yM rfl rfl (sy rfl rfl hb532 (yl_sindexN un9 (a := p_s) rfl rfl rfl Bo (sy rfl rfl hb532 (yl_leq rfl rfl rfl (sy rfl rfl rfl (yl_pick_t rfl rfl hb532 rfl (sd rfl (yl_pick_f rfl rfl rfl rfl (sA rfl (dn ?_)))))))))))))
     refine CW.seq (cR (sA rfl (dn (CW.block (CW.loop (fun m535 L536 w537 => ∃ (k533 : Nat) (x534 : Bool), m535 = p_more.length - k533 ∧ k533 ≤ p_more.length ∧ w11.heap.size ≤ w537.heap.size ∧ Sub [(0, .string (bs (p_s))), (1, .string (bs (p_more))), (5, .int .i64 ((k5 : Int))), (6, .bool (x534)), (7, .int .i64 ((k533 : Int)))] L536 ∧ Ex w w537 ∧ loopM (B_s_l3Bytes_1 p_s p_more k5) (p_more.length - k533) k533 (x534) = loopM (B_s_l3Bytes_1 p_s p_more k5) (p_more.length - 0) 0 (decide (((p_s.getD k5 0).toNat : Int) ≤ 57))) (p_more.length - 0) ?_ ?_)))))
     ·exact ⟨0, decide (((p_s.getD k5 0).toNat : Int) ≤ 57), rfl, oM, Nat.le_refl _, (sR rfl), hf16, rfl⟩
     ·rintro m538 L539 w540 ⟨k533, x534, rfl, hk541, hsz543, hl544, hf545, hI542⟩
      refine CW.sub hl544 ?_
      have hf545z := Ex.size hf545
      have hbg546 : p_more.length ≤ 1073741824 := o2
      rcases Nat.lt_or_ge k533 p_more.length with hlt547 | hlt547
      ·refine CW.seq (cR (sM rfl (sM rfl (sd rfl (yl_slen un9 (a := p_more) rfl rfl (sd rfl (yl_lss rfl rfl rfl (dn ?_))))))))
       refine CW.cond_t rfl (lt_t hlt547) (CW.skip (tn (CW.seq (CW.block (bcase (x534) (fun hb548 => ?_) (fun hb548 => ?_))))))
       ·refine drJ 11 [.bool (x534), .bool (x534), undef, undef, undef, undef, undef, undef, undef, .bool (true), .bool (true)] Tryz.follows rfl ⟨oI rfl fun h => yM rfl (h.g 6 rfl) kI, oI rfl fun h => yM rfl (h.g 42 rfl) kI, oS rfl rfl rfl rfl rfl hb548, oS rfl rfl rfl rfl rfl hb548, oS rfl rfl rfl rfl rfl hb548, oS rfl rfl rfl rfl rfl hb548, oS rfl rfl rfl rfl rfl hb548, oS rfl rfl rfl rfl rfl hb548, oS rfl rfl rfl rfl rfl hb548, oI rfl fun h => yl_pick_t rfl (h.g 43 rfl) hb548 rfl kI, oI rfl fun h => yA rfl (h.g 51 rfl) kI, trivial⟩ ?_
        ·intro fl608 fh609 L605 w606 hp607
         have hE610 := hp607.ex
         have hE610z := Ex.size hE610
         refine SeqR.done (bn (tn (CW.sub (hp607.ss [0, 1, 5, 6, 7] rfl) (CW.region (sM rfl (sd rfl (yl_inc rfl rfl rfl oM (sA rfl (SeqR.done ?_)))))))))
         refine tn ?_
         have hB616 : B_s_l3Bytes_1 p_s p_more k5 k533 (x534) = .cont (true) := by simp only [B_s_l3Bytes_1, hb19, hb532, hb548, cL]
         exact ⟨p_more.length - (k533 + 1), oM, k533 + 1, true, rfl, hlt547, oM, (sR rfl), (Ex.trans hf545 hE610), (loopM.cont hlt547 hB616).symm.trans hI542⟩
       ·refine drJ 11 [.bool (x534), .bool (x534), .string (bs (p_s)), .int .i64 ((k5 : Int)), .int .u8 (((p_s.getD k5 0).toNat : Int)), .string (bs (p_more)), .int .i64 ((k533 : Int)), .int .u8 (((p_more.getD k533 0).toNat : Int)), .bool (decide (((p_s.getD k5 0).toNat : Int) = ((p_more.getD k533 0).toNat : Int))), .bool (decide (((p_s.getD k5 0).toNat : Int) = ((p_more.getD k533 0).toNat : Int))), .bool (decide (((p_s.getD k5 0).toNat : Int) = ((p_more.getD k533 0).toNat : Int)))] Tryz.follows rfl ⟨oI rfl fun h => yM rfl (h.g 6 rfl) kI, oI rfl fun h => yM rfl (h.g 42 rfl) kI, oW rfl rfl rfl rfl hb548 fun h => yM rfl (h.g 0 rfl) kI, oW rfl rfl rfl rfl hb548 fun h => yM rfl (h.g 5 rfl) kI, ?_, oW rfl rfl rfl rfl hb548 fun h => yM rfl (h.g 1 rfl) kI, oW rfl rfl rfl rfl hb548 fun h => yM rfl (h.g 7 rfl) kI, ?_, oW rfl rfl rfl rfl hb548 fun h => yl_eql rfl (h.g 46 rfl) (h.g 49 rfl) kI, oI rfl fun h => yl_pick_f rfl (h.g 43 rfl) hb548 (h.g 50 rfl) kI, oI rfl fun h => yA rfl (h.g 51 rfl) kI, trivial⟩ ?_
        ·intro L640 w641 hi642
         have hE643 := hi642.ex
         have hE643z := Ex.size hE643
         exact OpR.want rfl rfl (hi642.g 43 rfl) hb548 (Yl.sameI (yl_sindexN un9 (a := p_s) rfl (hi642.g 44 rfl) (hi642.g 45 rfl) Bo kI))
        ·intro L659 w660 hi661
         have hE662 := hi661.ex
         have hE662z := Ex.size hE662
         exact OpR.want rfl rfl (hi661.g 43 rfl) hb548 (Yl.sameI (yl_sindexN un9 (a := p_more) rfl (hi661.g 47 rfl) (hi661.g 48 rfl) Bo kI))
        ·intro fl687 fh688 L684 w685 hp686
         have hE689 := hp686.ex
         have hE689z := Ex.size hE689
         refine SeqR.done (bn (tn (CW.sub (hp686.ss [0, 1, 5, 6, 7] rfl) (CW.region (sM rfl (sd rfl (yl_inc rfl rfl rfl oM (sA rfl (SeqR.done ?_)))))))))
         refine tn ?_
         have hB695 : B_s_l3Bytes_1 p_s p_more k5 k533 (x534) = .cont (decide (((p_s.getD k5 0).toNat : Int) = ((p_more.getD k533 0).toNat : Int))) := by simp only [B_s_l3Bytes_1, hb19, hb532, hb548, cL]
         exact ⟨p_more.length - (k533 + 1), oM, k533 + 1, decide (((p_s.getD k5 0).toNat : Int) = ((p_more.getD k533 0).toNat : Int)), rfl, hlt547, oM, (sR rfl), (Ex.trans hf545 hE689), (loopM.cont hlt547 hB695).symm.trans hI542⟩
      ·refine CW.seq (cR (sM rfl (sM rfl (sd rfl (yl_slen un9 (a := p_more) rfl rfl (sd rfl (yl_lss rfl rfl rfl (dn ?_))))))))
       refine CW.cond_f rfl (lt_f hlt547) (CW.exit (tx (tx ?_)))
       have hL697 : loopM (B_s_l3Bytes_1 p_s p_more k5) (p_more.length - 0) 0 (decide (((p_s.getD k5 0).toNat : Int) ≤ 57)) = .done (x534) := hI542.symm.trans (loopM.stop hlt547)
       refine bx (tn (cR (sM rfl (sd rfl (yl_not rfl rfl (dn (bcase (x534) (fun hb698 => ?_) (fun hb698 => ?_))))))))
       ·refine CW.cond_f rfl (not_t hb698) (CW.skip (bn (tn (CW.region (sM rfl (sd rfl (yl_inc rfl rfl rfl oM (sA rfl (SeqR.done ?_)))))))))
        refine tn ?_
        have hB699 : B_s_l3Bytes_0 p_s p_more k5 () = .cont () := by simp only [B_s_l3Bytes_0, hb19, hb532, hb698, hL697, cL]
        exact ⟨p_s.length - (k5 + 1), oM, k5 + 1, rfl, hlt18, oM, (sR rfl), hf545, (loopM.cont hlt18 hB699).symm.trans hI13⟩
       ·refine CW.cond_t rfl (not_f hb698) (cR (sA rfl (dn (CW.ret (br (tr ?_))))))
        refine tr ?_
        have hB701 : B_s_l3Bytes_0 p_s p_more k5 () = .ret false := by simp only [B_s_l3Bytes_0, hb19, hb532, hb698, hL697, cL]
        have hL700 : loopM (B_s_l3Bytes_0 p_s p_more) (p_s.length - 0) 0 () = .ret false := hI13.symm.trans (loopM.ret hlt18 hB701)
        refine br (tr (rr rfl (.cons rfl .nil) ?_))
        rw [show (s_l3Bytes p_s p_more) = (false) by simp only [s_l3Bytes, hb19, hb532, hb698, hL697, hL700, cL]]
        exact ⟨rfl, hf545⟩
    ·refine sz rfl rfl hb532 (sz rfl rfl hb532 (sz rfl rfl hb532 (sz rfl rfl hb532 (sy rfl rfl rfl (yl_pick_f rfl rfl hb532 rfl (sd rfl (yl_pick_f rfl rfl rfl rfl (sA rfl (dn ?_)))))))))
     refine CW.seq (cR (sA rfl (dn (CW.block (CW.loop (fun m705 L706 w707 => ∃ (k703 : Nat) (x704 : Bool), m705 = p_more.length - k703 ∧ k703 ≤ p_more.length ∧ w11.heap.size ≤ w707.heap.size ∧ Sub [(0, .string (bs (p_s))), (1, .string (bs (p_more))), (5, .int .i64 ((k5 : Int))), (6, .bool (x704)), (7, .int .i64 ((k703 : Int)))] L706 ∧ Ex w w707 ∧ loopM (B_s_l3Bytes_1 p_s p_more k5) (p_more.length - k703) k703 (x704) = loopM (B_s_l3Bytes_1 p_s p_more k5) (p_more.length - 0) 0 (false)) (p_more.length - 0) ?_ ?_)))))
     ·exact ⟨0, false, rfl, oM, Nat.le_refl _, (sR rfl), hf16, rfl⟩
     ·rintro m708 L709 w710 ⟨k703, x704, rfl, hk711, hsz713, hl714, hf715, hI712⟩
      refine CW.sub hl714 ?_
      have hf715z := Ex.size hf715
      have hbg716 : p_more.length ≤ 1073741824 := o2
      rcases Nat.lt_or_ge k703 p_more.length with hlt717 | hlt717
      ·refine CW.seq (cR (sM rfl (sM rfl (sd rfl (yl_slen un9 (a := p_more) rfl rfl (sd rfl (yl_lss rfl rfl rfl (dn ?_))))))))
       refine CW.cond_t rfl (lt_t hlt717) (CW.skip (tn (CW.seq (CW.block (bcase (x704) (fun hb718 => ?_) (fun hb718 => ?_))))))
       ·refine drJ 11 [.bool (x704), .bool (x704), undef, undef, undef, undef, undef, undef, undef, .bool (true), .bool (true)] Tryz.follows rfl ⟨oI rfl fun h => yM rfl (h.g 6 rfl) kI, oI rfl fun h => yM rfl (h.g 42 rfl) kI, oS rfl rfl rfl rfl rfl hb718, oS rfl rfl rfl rfl rfl hb718, oS rfl rfl rfl rfl rfl hb718, oS rfl rfl rfl rfl rfl hb718, oS rfl rfl rfl rfl rfl hb718, oS rfl rfl rfl rfl rfl hb718, oS rfl rfl rfl rfl rfl hb718, oI rfl fun h => yl_pick_t rfl (h.g 43 rfl) hb718 rfl kI, oI rfl fun h => yA rfl (h.g 51 rfl) kI, trivial⟩ ?_
        ·intro fl778 fh779 L775 w776 hp777
         have hE780 := hp777.ex
         have hE780z := Ex.size hE780
         refine SeqR.done (bn (tn (CW.sub (hp777.ss [0, 1, 5, 6, 7] rfl) (CW.region (sM rfl (sd rfl (yl_inc rfl rfl rfl oM (sA rfl (SeqR.done ?_)))))))))
         refine tn ?_
         have hB786 : B_s_l3Bytes_1 p_s p_more k5 k703 (x704) = .cont (true) := by simp only [B_s_l3Bytes_1, hb19, hb532, hb718, cL]
         exact ⟨p_more.length - (k703 + 1), oM, k703 + 1, true, rfl, hlt717, oM, (sR rfl), (Ex.trans hf715 hE780), (loopM.cont hlt717 hB786).symm.trans hI712⟩
       ·refine drJ 11 [.bool (x704), .bool (x704), .string (bs (p_s)), .int .i64 ((k5 : Int)), .int .u8 (((p_s.getD k5 0).toNat : Int)), .string (bs (p_more)), .int .i64 ((k703 : Int)), .int .u8 (((p_more.getD k703 0).toNat : Int)), .bool (decide (((p_s.getD k5 0).toNat : Int) = ((p_more.getD k703 0).toNat : Int))), .bool (decide (((p_s.getD k5 0).toNat : Int) = ((p_more.getD k703 0).toNat : Int))), .bool (decide (((p_s.getD k5 0).toNat : Int) = ((p_more.getD k703 0).toNat : Int)))] Tryz.follows rfl ⟨oI rfl fun h => yM rfl (h.g 6 rfl) kI, oI rfl fun h => yM rfl (h.g 42 rfl) kI, oW rfl rfl rfl rfl hb718 fun h => yM rfl (h.g 0 rfl) kI, oW rfl rfl rfl rfl hb718 fun h => yM rfl (h.g 5 rfl) kI, ?_, oW rfl rfl rfl rfl hb718 fun h => yM rfl (h.g 1 rfl) kI, oW rfl rfl rfl rfl hb718 fun h => yM rfl (h.g 7 rfl) kI, ?_, oW rfl rfl rfl rfl hb718 fun h => yl_eql rfl (h.g 46 rfl) (h.g 49 rfl) kI, oI rfl fun h => yl_pick_f rfl (h.g 43 rfl) hb718 (h.g 50 rfl) kI, oI rfl fun h => yA rfl (h.g 51 rfl) kI, trivial⟩ ?_
        ·intro L810 w811 hi812
         have hE813 := hi812.ex
         have hE813z := Ex.size hE813
         exact OpR.want rfl rfl (hi812.g 43 rfl) hb718 (Yl.sameI (yl_sindexN un9 (a := p_s) rfl (hi812.g 44 rfl) (hi812.g 45 rfl) Bo kI))
        ·intro L829 w830 hi831
         have hE832 := hi831.ex
         have hE832z := Ex.size hE832
         exact OpR.want rfl rfl (hi831.g 43 rfl) hb718 (Yl.sameI (yl_sindexN un9 (a := p_more) rfl (hi831.g 47 rfl) (hi831.g 48 rfl) Bo kI))
        ·intro fl857 fh858 L854 w855 hp856
         have hE859 := hp856.ex
         have hE859z := Ex.size hE859
         refine SeqR.done (bn (tn (CW.sub (hp856.ss [0, 1, 5, 6, 7] rfl) (CW.region (sM rfl (sd rfl (yl_inc rfl rfl rfl oM (sA rfl (SeqR.done ?_)))))))))
         refine tn ?_
         have hB865 : B_s_l3Bytes_1 p_s p_more k5 k703 (x704) = .cont (decide (((p_s.getD k5 0).toNat : Int) = ((p_more.getD k703 0).toNat : Int))) := by simp only [B_s_l3Bytes_1, hb19, hb532, hb718, cL]
         exact ⟨p_more.length - (k703 + 1), oM, k703 + 1, decide (((p_s.getD k5 0).toNat : Int) = ((p_more.getD k703 0).toNat : Int)), rfl, hlt717, oM, (sR rfl), (Ex.trans hf715 hE859), (loopM.cont hlt717 hB865).symm.trans hI712⟩
      ·refine CW.seq (cR (sM rfl (sM rfl (sd rfl (yl_slen un9 (a := p_more) rfl rfl (sd rfl (yl_lss rfl rfl rfl (dn ?_))))))))
       refine CW.cond_f rfl (lt_f hlt717) (CW.exit (tx (tx ?_)))
       have hL867 : loopM (B_s_l3Bytes_1 p_s p_more k5) (p_more.length - 0) 0 (false) = .done (x704) := hI712.symm.trans (loopM.stop hlt717)
       refine bx (tn (cR (sM rfl (sd rfl (yl_not rfl rfl (dn (bcase (x704) (fun hb868 => ?_) (fun hb868 => ?_))))))))
       ·refine CW.cond_f rfl (not_t hb868) (CW.skip (bn (tn (CW.region (sM rfl (sd rfl (yl_inc rfl rfl rfl oM (sA rfl (SeqR.done ?_)))))))))
        refine tn ?_
        have hB869 : B_s_l3Bytes_0 p_s p_more k5 () = .cont () := by simp only [B_s_l3Bytes_0, hb19, hb532, hb868, hL867, cL]
        exact ⟨p_s.length - (k5 + 1), oM, k5 + 1, rfl, hlt18, oM, (sR rfl), hf715, (loopM.cont hlt18 hB869).symm.trans hI13⟩
       ·refine CW.cond_t rfl (not_f hb868) (cR (sA rfl (dn (CW.ret (br (tr ?_))))))
        refine tr ?_
        have hB871 : B_s_l3Bytes_0 p_s p_more k5 () = .ret false := by simp only [B_s_l3Bytes_0, hb19, hb532, hb868, hL867, cL]
        have hL870 : loopM (B_s_l3Bytes_0 p_s p_more) (p_s.length - 0) 0 () = .ret false := hI13.symm.trans (loopM.ret hlt18 hB871)
        refine br (tr (rr rfl (.cons rfl .nil) ?_))
        rw [show (s_l3Bytes p_s p_more) = (false) by simp only [s_l3Bytes, hb19, hb532, hb868, hL867, hL870, cL]]
        exact ⟨rfl, hf715⟩
  ·refine CW.seq (cR (sM rfl (sM rfl (sd rfl (yl_slen un9 (a := p_s) rfl rfl (sd rfl (yl_lss rfl rfl rfl (dn ?_))))))))
   refine CW.cond_f rfl (lt_f hlt18) (CW.exit (tx (tx ?_)))
   have hL873 : loopM (B_s_l3Bytes_0 p_s p_more) (p_s.length - 0) 0 () = .done () := hI13.symm.trans (loopM.stop hlt18)
   refine bx (tn (cR (sA rfl (dn (CW.ret (rr rfl (.cons rfl .nil) ?_))))))
   rw [show (s_l3Bytes p_s p_more) = (true) by simp only [s_l3Bytes, hL873, cL]]
   exact ⟨rfl, hf16⟩
theorem c_s_l3Key {w : World} (p_s : Str) (o1 : okS p_s) : Cal Tryz.prog 90 #[.string (bs (p_s))] w fun v w' => v = .bool ((s_l3Key p_s)) ∧ Ex w w' := by
 refine Cal.of func90 rfl ntmps90 rfl (cR (sA rfl (dn (cR (sM rfl ?_)))))
 refine sd rfl (yl_slen un9 (a := p_s) rfl rfl (sd rfl (yC en91 rfl (oc rfl (oc rfl (oc rfl oz))) (Cal.mono (c_s_l1In (p_s.length : Int) 1 12) ?_))))
 rintro v4 w3 ⟨rfl, hE5⟩
 refine sM rfl (bcase (s_l1In (p_s.length : Int) 1 12) (fun hb6 => ?_) (fun hb6 => ?_))
 ·have hb6p := f_l1In hb6
  refine sy rfl rfl hb6 (yM rfl rfl (sy rfl rfl hb6 (yC en139 rfl (oc rfl (oc rfl oz)) (Cal.mono (c_s_l3Bytes p_s ([46, 47] : Str) o1 (okS.lit rfl)) ?_))))
  rintro v8 w7 ⟨rfl, hE9⟩
  refine sd rfl (yl_pick_t rfl rfl hb6 rfl (sA rfl (dn (CW.ret (rr rfl (.cons rfl .nil) ?_)))))
  rw [show (s_l3Key p_s) = ((s_l3Bytes p_s ([46, 47] : Str))) by simp only [s_l3Key, hb6, cL]]
  exact ⟨rfl, (Ex.trans (Ex.trans (Ex.refl w) hE5) hE9)⟩
 ·refine sz rfl rfl hb6 (sz rfl rfl hb6 (sd rfl (yl_pick_f rfl rfl hb6 rfl (sA rfl (dn (CW.ret (rr rfl (.cons rfl .nil) ?_)))))))
  rw [show (s_l3Key p_s) = (false) by simp only [s_l3Key, hb6, cL]]
  exact ⟨rfl, (Ex.trans (Ex.refl w) hE5)⟩
theorem c_s_l3Val {w : World} (p_s : Str) (o1 : okS p_s) : Cal Tryz.prog 168 #[.string (bs (p_s))] w fun v w' => v = .bool ((s_l3Val p_s)) ∧ Ex w w' := by
 refine Cal.of func168 rfl ntmps168 rfl (cR (sA rfl (dn (cR (sM rfl ?_)))))
 refine sd rfl (yl_slen un9 (a := p_s) rfl rfl (sd rfl (yl_leq rfl rfl rfl (sM rfl (bcD (q := (p_s.length : Int) ≤ 24) (fun hb3 hb3p => ?_) (fun hb3 hb3p => ?_))))))
 ·refine sy rfl rfl hb3 (yM rfl rfl (sy rfl rfl hb3 (yC en139 rfl (oc rfl (oc rfl oz)) (Cal.mono (c_s_l3Bytes p_s ([46, 45, 44, 95] : Str) o1 (okS.lit rfl)) ?_))))
  rintro v5 w4 ⟨rfl, hE6⟩
  refine sd rfl (yl_pick_t rfl rfl hb3 rfl (sA rfl (dn (CW.ret (rr rfl (.cons rfl .nil) ?_)))))
  rw [show (s_l3Val p_s) = ((s_l3Bytes p_s ([46, 45, 44, 95] : Str))) by simp only [s_l3Val, hb3, cL]]
  exact ⟨rfl, (Ex.trans (Ex.refl w) hE6)⟩
 ·refine sz rfl rfl hb3 (sz rfl rfl hb3 (sd rfl (yl_pick_f rfl rfl hb3 rfl (sA rfl (dn (CW.ret (rr rfl (.cons rfl .nil) ?_)))))))
  rw [show (s_l3Val p_s) = (false) by simp only [s_l3Val, hb3, cL]]
  exact ⟨rfl, (Ex.refl w)⟩
theorem c_s_l3Write {w : World} (p_key : Str) (p_val : Str) (p_gone : Bool) (o1 : okS p_key) (o2 : okS p_val) : Cal Tryz.prog 121 #[.string (bs (p_key)), .string (bs (p_val)), .bool (p_gone)] w fun v w' => v = .bool ((s_l3Write p_key p_val p_gone)) ∧ Ex w w' := by
 refine Cal.of func121 rfl ntmps121 rfl (cR (sA rfl (dn (cR (sM rfl ?_)))))
 refine sd rfl (yC en90 rfl (oc rfl oz) (Cal.mono (c_s_l3Key p_key o1) ?_))
 rintro v6 w5 ⟨rfl, hE7⟩
 refine sM rfl (bcase (s_l3Key p_key) (fun hb8 => ?_) (fun hb8 => ?_))
 ·refine sy rfl rfl hb8 (yM rfl rfl (sy rfl rfl hb8 (yC en168 rfl (oc rfl oz) (Cal.mono (c_s_l3Val p_val o2) ?_))))
  rintro v10 w9 ⟨rfl, hE11⟩
  refine sd rfl (yl_pick_t rfl rfl hb8 rfl (sM rfl (bcase (s_l3Val p_val) (fun hb12 => ?_) (fun hb12 => ?_))))
  ·refine sy rfl rfl hb12 (yM rfl rfl (sy rfl rfl hb12 (yl_not rfl rfl (sy rfl rfl hb12 (yM rfl rfl (bcase (p_gone) (fun hb13 => ?_) (fun hb13 => ?_)))))))
   ·refine sy rfl rfl (not_t hb13) (yM rfl rfl (sy rfl rfl (not_t hb13) (yl_seql (a := p_val) (b := ([] : Str)) rfl rfl rfl (sy rfl rfl hb12 (yl_pick_f rfl rfl (not_t hb13) rfl (sd rfl (yl_pick_t rfl rfl hb12 rfl (sA rfl (dn (CW.ret (rr rfl (.cons rfl .nil) ?_)))))))))))
    rw [show (s_l3Write p_key p_val p_gone) = (p_val == ([] : Str)) by simp only [s_l3Write, hb8, hb12, hb13, cL]]
    exact ⟨rfl, (Ex.trans (Ex.trans (Ex.refl w) hE7) hE11)⟩
   ·refine sz rfl rfl (not_f hb13) (sz rfl rfl (not_f hb13) (sy rfl rfl hb12 (yl_pick_t rfl rfl (not_f hb13) rfl (sd rfl (yl_pick_t rfl rfl hb12 rfl (sA rfl (dn (CW.ret (rr rfl (.cons rfl .nil) ?_)))))))))
    rw [show (s_l3Write p_key p_val p_gone) = (true) by simp only [s_l3Write, hb8, hb12, hb13, cL]]
    exact ⟨rfl, (Ex.trans (Ex.trans (Ex.refl w) hE7) hE11)⟩
  ·refine sz rfl rfl hb12 (sz rfl rfl hb12 (sz rfl rfl hb12 (sq rfl rfl (sq rfl rfl (sz rfl rfl hb12 (sd rfl (yl_pick_f rfl rfl hb12 rfl (sA rfl (SeqR.done ?_)))))))))
   refine tn (CW.ret (rr rfl (.cons rfl .nil) ?_))
   rw [show (s_l3Write p_key p_val p_gone) = (false) by simp only [s_l3Write, hb8, hb12, cL]]
   exact ⟨rfl, (Ex.trans (Ex.trans (Ex.refl w) hE7) hE11)⟩
 ·refine sz rfl rfl hb8 (sz rfl rfl hb8 (sd rfl (yl_pick_f rfl rfl hb8 rfl (sM rfl (sz rfl rfl rfl (sz rfl rfl rfl (sz rfl rfl rfl (sq rfl rfl (sq rfl rfl ?_)))))))))
  refine sz rfl rfl rfl (sd rfl (yl_pick_f rfl rfl rfl rfl (sA rfl (dn (CW.ret (rr rfl (.cons rfl .nil) ?_))))))
  rw [show (s_l3Write p_key p_val p_gone) = (false) by simp only [s_l3Write, hb8, cL]]
  exact ⟨rfl, (Ex.trans (Ex.refl w) hE7)⟩
theorem c_s_l3Writes {A1 : Option Addr} {c1 : Nat} {w : World} (p_l : List DWrite) (h1 : RdS w (Iv 0 w.heap.size) (RF e_Write) 3 A1 p_l.length c1 p_l) (o2 : (okL ok_Write) p_l) : Cal Tryz.prog 72 #[.slice A1 p_l.length c1] w fun v w' => v = .bool ((s_l3Writes p_l)) ∧ Ex w w' := by
 have hol3 := o2.1
 refine Cal.of func72 rfl ntmps72 rfl (cR (sA rfl (dn (CW.seq (cR ?_)))))
 refine sM rfl (sd rfl (yL un34 rfl rfl (sM rfl (dn (CW.block (CW.loop (fun m24 L25 w26 => ∃ (k4 : Nat), m24 = p_l.length - k4 ∧ k4 ≤ p_l.length ∧ w.heap.size ≤ w26.heap.size ∧ Sub [(0, .slice A1 p_l.length c1), (5, .slice A1 p_l.length c1), (6, .int .i64 ((p_l.length : Int))), (7, .int .i64 ((k4 : Int)))] L25 ∧ RdS w26 (Iv 0 w.heap.size) (RF e_Write) 3 A1 p_l.length c1 p_l ∧ Ex w w26 ∧ loopM (B_s_l3Writes_0 p_l) (p_l.length - k4) k4 () = loopM (B_s_l3Writes_0 p_l) (p_l.length - 0) 0 ()) (p_l.length - 0) ?_ ?_))))))
 ·exact ⟨0, rfl, oM, Nat.le_refl _, (sR rfl), h1, (Ex.refl w), rfl⟩
 ·rintro m27 L28 w29 ⟨k4, rfl, hk30, hsz32, hl33, hf34, hf35, hI31⟩
  refine CW.sub hl33 ?_
  have hf35z := Ex.size hf35
  have hbg36 := RdS.big hf34
  rcases Nat.lt_or_ge k4 p_l.length with hlt37 | hlt37
  ·refine cR (sd rfl (yl_lss rfl rfl rfl (dn (CW.seq (CW.cond_t rfl (lt_t hlt37) (CW.skip (tn ?_)))))))
   refine CW.seq (CW.block (cR (sM rfl ?_)))
   obtain ⟨_, _, _, eA38, _, ebl38, _, eR38, eC38⟩ := RdS.aD hf34 d_Write (i := k4)
   obtain rfl := eR38
   refine sd rfl (yl_ixN un34 ty80 rfl rfl rfl eA38 (sd rfl (yl_loadN ty80 rfl rfl eC38 rfl (sd rfl (yB ty80 (cs := [.string (bs (([] : Str))), .string (bs (([] : Str))), .bool (false)]) rfl rfl ?_)))))
   intro b39 w40 hs41 hz42 hB43 hE44
   refine sA rfl (SeqR.u rfl rfl (yl_storeA (vs := [.string (bs ((p_l.getD k4 d_Write).Key)), .string (bs ((p_l.getD k4 d_Write).Val)), .bool ((p_l.getD k4 d_Write).Gone)]) ty80 rfl rfl rfl rfl rfl rfl hB43 rfl ?_))
   intro w45 hB46 hO47
   have hO47z := hO47.size
   refine dn (CW.seq (bcase (s_l3Write ((p_l.getD k4 d_Write).Key) ((p_l.getD k4 d_Write).Val) ((p_l.getD k4 d_Write).Gone)) (fun hb49 => ?_) (fun hb49 => ?_)))
   ·refine bcD (q := 0 < (k4 : Int)) (fun hb51 hb51p => ?_) (fun hb51 hb51p => ?_)
    ·have q54 := RdS.only gW (RdS.ex gW hf34 hE44) hO47 iV
     obtain ⟨eb55, eo55, _, eA55, _, ebl55, _, eR55, eC55⟩ := RdS.atD q54 d_Write (i := (IntKind.wrap .i64 ((k4 : Int) - 1)).toNat) Bo
     obtain rfl := eR55
     refine drJ 23 [.pointer (some ⟨b39, 0 + 0, none⟩), .string (bs ((p_l.getD k4 d_Write).Key)), .pointer (some ⟨b39, 0 + 1, none⟩), .string (bs ((p_l.getD k4 d_Write).Val)), .pointer (some ⟨b39, 0 + 2, none⟩), .bool ((p_l.getD k4 d_Write).Gone), .bool ((s_l3Write ((p_l.getD k4 d_Write).Key) ((p_l.getD k4 d_Write).Val) ((p_l.getD k4 d_Write).Gone))), .bool (!(s_l3Write ((p_l.getD k4 d_Write).Key) ((p_l.getD k4 d_Write).Val) ((p_l.getD k4 d_Write).Gone))), .bool (!(s_l3Write ((p_l.getD k4 d_Write).Key) ((p_l.getD k4 d_Write).Val) ((p_l.getD k4 d_Write).Gone))), .int .i64 ((k4 : Int)), .bool (decide (0 < (k4 : Int))), .bool (decide (0 < (k4 : Int))), .slice A1 p_l.length c1, .int .i64 ((k4 : Int)), .int .i64 (IntKind.wrap .i64 ((k4 : Int) - 1)), .pointer (some ⟨eb55, eo55 + ((IntKind.wrap .i64 ((k4 : Int) - 1)).toNat) * 3, none⟩), .pointer (some ⟨eb55, eo55 + ((IntKind.wrap .i64 ((k4 : Int) - 1)).toNat) * 3 + 0, none⟩), .string (bs ((p_l.getD ((IntKind.wrap .i64 ((k4 : Int) - 1)).toNat) d_Write).Key)), .pointer (some ⟨b39, 0 + 0, none⟩), .string (bs ((p_l.getD k4 d_Write).Key)), .bool (!(sLt ((p_l.getD ((IntKind.wrap .i64 ((k4 : Int) - 1)).toNat) d_Write).Key) ((p_l.getD k4 d_Write).Key))), .bool (!(sLt ((p_l.getD ((IntKind.wrap .i64 ((k4 : Int) - 1)).toNat) d_Write).Key) ((p_l.getD k4 d_Write).Key))), .bool (!(sLt ((p_l.getD ((IntKind.wrap .i64 ((k4 : Int) - 1)).toNat) d_Write).Key) ((p_l.getD k4 d_Write).Key)))] Tryz.follows rfl ?_ ?_
     ·refine ⟨oI rfl fun h => yl_fieldAddr fd80_0 rfl (h.g 4 rfl) kI, oI rfl fun h => yl_load1 ty9 rfl (h.g 12 rfl) (((Box.ex hB46 h.ex).cell 0).trans rfl) kI, oI rfl fun h => yl_fieldAddr fd80_1 rfl (h.g 4 rfl) kI, oI rfl fun h => yl_load1 ty9 rfl (h.g 14 rfl) (((Box.ex hB46 h.ex).cell 1).trans rfl) kI, oI rfl fun h => yl_fieldAddr fd80_2 rfl (h.g 4 rfl) kI, oI rfl fun h => yl_load1 ty4 rfl (h.g 16 rfl) (((Box.ex hB46 h.ex).cell 2).trans rfl) kI, ?_, oI rfl fun h => yl_not rfl (h.g 18 rfl) kI, oI rfl fun h => yM rfl (h.g 19 rfl) kI, oW rfl rfl rfl rfl (not_t hb49) fun h => yM rfl (h.g 3 rfl) kI, oW rfl rfl rfl rfl (not_t hb49) fun h => yl_gtr rfl (h.g 21 rfl) rfl kI, oW rfl rfl rfl rfl (not_t hb49) fun h => yM rfl (h.g 22 rfl) kI, oW rfl rfl rfl rfl hb51 fun h => yM rfl (h.g 0 rfl) kI, oW rfl rfl rfl rfl hb51 fun h => yM rfl (h.g 3 rfl) kI, oW rfl rfl rfl rfl hb51 fun h => yl_sub rfl (h.g 25 rfl) rfl kI, ?_, oW rfl rfl rfl rfl hb51 fun h => yl_fieldAddr fd80_0 rfl (h.g 27 rfl) kI, oW rfl rfl rfl rfl hb51 fun h => yl_load1 ty9 rfl (h.g 28 rfl) ((Cells.ex eC55 h.ex) 0 _ rfl) kI, oW rfl rfl rfl rfl hb51 fun h => yl_fieldAddr fd80_0 rfl (h.g 4 rfl) kI, oW rfl rfl rfl rfl hb51 fun h => yl_load1 ty9 rfl (h.g 30 rfl) (((Box.ex hB46 h.ex).cell 0).trans rfl) kI, oW rfl rfl rfl rfl hb51 fun h => yl_sgeq (a := ((p_l.getD ((IntKind.wrap .i64 ((k4 : Int) - 1)).toNat) d_Write).Key)) (b := ((p_l.getD k4 d_Write).Key)) rfl (h.g 29 rfl) (h.g 31 rfl) kI, oW rfl rfl rfl rfl (not_t hb49) fun h => yl_pick_t rfl (h.g 23 rfl) hb51 (h.g 32 rfl) kI, oI rfl fun h => yl_pick_f rfl (h.g 20 rfl) (not_t hb49) (h.g 33 rfl) kI, trivial⟩
      ·intro L89 w90 hi91
       exact OpR.op' rfl (yC en121 rfl (oc (hi91.g 13 rfl) (oc (hi91.g 15 rfl) (oc (hi91.g 17 rfl) oz))) (Cal.mono (c_s_l3Write ((p_l.getD k4 d_Write).Key) ((p_l.getD k4 d_Write).Val) ((p_l.getD k4 d_Write).Gone) ((okL.getD o2 ok_d_Write _).1) ((okL.getD o2 ok_d_Write _).2)) fun _ _ h => h))
      ·intro L145 w146 hi147
       have hE148 := hi147.ex
       have hE148z := Ex.size hE148
       exact OpR.want rfl rfl (hi147.g 23 rfl) hb51 (Yl.sameI (yl_indexAddr un34 ty80 rfl (hi147.g 24 rfl) (hi147.g 26 rfl) eA55 Bo Bo kI))
     ·intro fl201 fh202 L198 w199 hp200
      have hE203 := hp200.ex
      have hE203z := Ex.size hE203
      refine dn (CW.sub (hp200.ss [0, 5, 6, 7, 34] rfl) (bcase (sLt ((p_l.getD ((IntKind.wrap .i64 ((k4 : Int) - 1)).toNat) d_Write).Key) ((p_l.getD k4 d_Write).Key)) (fun hb209 => ?_) (fun hb209 => ?_)))
      ·refine CW.cond_f rfl (not_t hb209) (CW.skip (bn (tn (CW.region (sd rfl (yl_inc rfl rfl rfl oM (sM rfl (dn ?_))))))))
       have hB210 : B_s_l3Writes_0 p_l k4 () = .cont () := by simp only [B_s_l3Writes_0, hb49, hb51, hb209, cL]
       exact ⟨p_l.length - (k4 + 1), oM, k4 + 1, rfl, hlt37, oM, (sR rfl), (RdS.ex gW q54 hE203), (Ex.trans (Below.only (Ex.trans hf35 hE44) hO47 oM) hE203), (loopM.cont hlt37 hB210).symm.trans hI31⟩
      ·refine CW.cond_t rfl (not_f hb209) (cR (sA rfl (dn (CW.ret (br (tr ?_))))))
       refine tr ?_
       have hB216 : B_s_l3Writes_0 p_l k4 () = .ret false := by simp only [B_s_l3Writes_0, hb49, hb51, hb209, cL]
       have hL215 : loopM (B_s_l3Writes_0 p_l) (p_l.length - 0) 0 () = .ret false := hI31.symm.trans (loopM.ret hlt37 hB216)
       refine br (tr (rr rfl (.cons rfl .nil) ?_))
       rw [show (s_l3Writes p_l) = (false) by simp only [s_l3Writes, hb49, hb51, hb209, hL215, cL]]
       exact ⟨rfl, (Ex.trans (Below.only (Ex.trans hf35 hE44) hO47 oM) hE203)⟩
    ·refine drJ 23 [.pointer (some ⟨b39, 0 + 0, none⟩), .string (bs ((p_l.getD k4 d_Write).Key)), .pointer (some ⟨b39, 0 + 1, none⟩), .string (bs ((p_l.getD k4 d_Write).Val)), .pointer (some ⟨b39, 0 + 2, none⟩), .bool ((p_l.getD k4 d_Write).Gone), .bool ((s_l3Write ((p_l.getD k4 d_Write).Key) ((p_l.getD k4 d_Write).Val) ((p_l.getD k4 d_Write).Gone))), .bool (!(s_l3Write ((p_l.getD k4 d_Write).Key) ((p_l.getD k4 d_Write).Val) ((p_l.getD k4 d_Write).Gone))), .bool (!(s_l3Write ((p_l.getD k4 d_Write).Key) ((p_l.getD k4 d_Write).Val) ((p_l.getD k4 d_Write).Gone))), .int .i64 ((k4 : Int)), .bool (decide (0 < (k4 : Int))), .bool (decide (0 < (k4 : Int))), undef, undef, undef, undef, undef, undef, undef, undef, undef, .bool (false), .bool (false)] Tryz.follows rfl ?_ ?_
     ·refine ⟨oI rfl fun h => yl_fieldAddr fd80_0 rfl (h.g 4 rfl) kI, oI rfl fun h => yl_load1 ty9 rfl (h.g 12 rfl) (((Box.ex hB46 h.ex).cell 0).trans rfl) kI, oI rfl fun h => yl_fieldAddr fd80_1 rfl (h.g 4 rfl) kI, oI rfl fun h => yl_load1 ty9 rfl (h.g 14 rfl) (((Box.ex hB46 h.ex).cell 1).trans rfl) kI, oI rfl fun h => yl_fieldAddr fd80_2 rfl (h.g 4 rfl) kI, oI rfl fun h => yl_load1 ty4 rfl (h.g 16 rfl) (((Box.ex hB46 h.ex).cell 2).trans rfl) kI, ?_, oI rfl fun h => yl_not rfl (h.g 18 rfl) kI, oI rfl fun h => yM rfl (h.g 19 rfl) kI, oW rfl rfl rfl rfl (not_t hb49) fun h => yM rfl (h.g 3 rfl) kI, oW rfl rfl rfl rfl (not_t hb49) fun h => yl_gtr rfl (h.g 21 rfl) rfl kI, oW rfl rfl rfl rfl (not_t hb49) fun h => yM rfl (h.g 22 rfl) kI, oS rfl rfl rfl rfl rfl hb51, oS rfl rfl rfl rfl rfl hb51, oS rfl rfl rfl rfl rfl hb51, oS rfl rfl rfl rfl rfl hb51, oS rfl rfl rfl rfl rfl hb51, oS rfl rfl rfl rfl rfl hb51, oS rfl rfl rfl rfl rfl hb51, oS rfl rfl rfl rfl rfl hb51, oS rfl rfl rfl rfl rfl hb51, oW rfl rfl rfl rfl (not_t hb49) fun h => yl_pick_f rfl (h.g 23 rfl) hb51 rfl kI, oI rfl fun h => yl_pick_f rfl (h.g 20 rfl) (not_t hb49) (h.g 33 rfl) kI, trivial⟩
      ·intro L255 w256 hi257
       exact OpR.op' rfl (yC en121 rfl (oc (hi257.g 13 rfl) (oc (hi257.g 15 rfl) (oc (hi257.g 17 rfl) oz))) (Cal.mono (c_s_l3Write ((p_l.getD k4 d_Write).Key) ((p_l.getD k4 d_Write).Val) ((p_l.getD k4 d_Write).Gone) ((okL.getD o2 ok_d_Write _).1) ((okL.getD o2 ok_d_Write _).2)) fun _ _ h => h))
     ·intro fl354 fh355 L351 w352 hp353
      have hE356 := hp353.ex
      have hE356z := Ex.size hE356
      refine dn (CW.sub (hp353.ss [0, 5, 6, 7, 34] rfl) (CW.cond_f rfl rfl (CW.skip (bn (tn (CW.region (sd rfl (yl_inc rfl rfl rfl oM ?_))))))))
      refine sM rfl (dn ?_)
      have hB362 : B_s_l3Writes_0 p_l k4 () = .cont () := by simp only [B_s_l3Writes_0, hb49, hb51, cL]
      exact ⟨p_l.length - (k4 + 1), oM, k4 + 1, rfl, hlt37, oM, (sR rfl), (RdS.ex gW (RdS.only gW (RdS.ex gW hf34 hE44) hO47 iV) hE356), (Ex.trans (Below.only (Ex.trans hf35 hE44) hO47 oM) hE356), (loopM.cont hlt37 hB362).symm.trans hI31⟩
   ·refine drJ 23 [.pointer (some ⟨b39, 0 + 0, none⟩), .string (bs ((p_l.getD k4 d_Write).Key)), .pointer (some ⟨b39, 0 + 1, none⟩), .string (bs ((p_l.getD k4 d_Write).Val)), .pointer (some ⟨b39, 0 + 2, none⟩), .bool ((p_l.getD k4 d_Write).Gone), .bool ((s_l3Write ((p_l.getD k4 d_Write).Key) ((p_l.getD k4 d_Write).Val) ((p_l.getD k4 d_Write).Gone))), .bool (!(s_l3Write ((p_l.getD k4 d_Write).Key) ((p_l.getD k4 d_Write).Val) ((p_l.getD k4 d_Write).Gone))), .bool (!(s_l3Write ((p_l.getD k4 d_Write).Key) ((p_l.getD k4 d_Write).Val) ((p_l.getD k4 d_Write).Gone))), undef, undef, undef, undef, undef, undef, undef, undef, undef, undef, undef, undef, undef, .bool (true)] Tryz.follows rfl ?_ ?_
    ·refine ⟨oI rfl fun h => yl_fieldAddr fd80_0 rfl (h.g 4 rfl) kI, oI rfl fun h => yl_load1 ty9 rfl (h.g 12 rfl) (((Box.ex hB46 h.ex).cell 0).trans rfl) kI, oI rfl fun h => yl_fieldAddr fd80_1 rfl (h.g 4 rfl) kI, oI rfl fun h => yl_load1 ty9 rfl (h.g 14 rfl) (((Box.ex hB46 h.ex).cell 1).trans rfl) kI, oI rfl fun h => yl_fieldAddr fd80_2 rfl (h.g 4 rfl) kI, oI rfl fun h => yl_load1 ty4 rfl (h.g 16 rfl) (((Box.ex hB46 h.ex).cell 2).trans rfl) kI, ?_, oI rfl fun h => yl_not rfl (h.g 18 rfl) kI, oI rfl fun h => yM rfl (h.g 19 rfl) kI, oS rfl rfl rfl rfl rfl (not_f hb49), oS rfl rfl rfl rfl rfl (not_f hb49), oS rfl rfl rfl rfl rfl (not_f hb49), oU rfl rfl rfl rfl rfl, oU rfl rfl rfl rfl rfl, oU rfl rfl rfl rfl rfl, oU rfl rfl rfl rfl rfl, oU rfl rfl rfl rfl rfl, oU rfl rfl rfl rfl rfl, oU rfl rfl rfl rfl rfl, oU rfl rfl rfl rfl rfl, oU rfl rfl rfl rfl rfl, oS rfl rfl rfl rfl rfl (not_f hb49), oI rfl fun h => yl_pick_t rfl (h.g 20 rfl) (not_f hb49) rfl kI, trivial⟩
     ·intro L403 w404 hi405
      exact OpR.op' rfl (yC en121 rfl (oc (hi405.g 13 rfl) (oc (hi405.g 15 rfl) (oc (hi405.g 17 rfl) oz))) (Cal.mono (c_s_l3Write ((p_l.getD k4 d_Write).Key) ((p_l.getD k4 d_Write).Val) ((p_l.getD k4 d_Write).Gone) ((okL.getD o2 ok_d_Write _).1) ((okL.getD o2 ok_d_Write _).2)) fun _ _ h => h))
    ·intro fl497 fh498 L494 w495 hp496
     have hE499 := hp496.ex
     have hE499z := Ex.size hE499
     refine dn (CW.sub (hp496.ss [0, 5, 6, 7, 34] rfl) (CW.cond_t rfl rfl (cR (sA rfl (dn ?_)))))
     refine CW.ret (br (tr (tr ?_)))
     have hB506 : B_s_l3Writes_0 p_l k4 () = .ret false := by simp only [B_s_l3Writes_0, hb49, cL]
     have hL505 : loopM (B_s_l3Writes_0 p_l) (p_l.length - 0) 0 () = .ret false := hI31.symm.trans (loopM.ret hlt37 hB506)
     refine br (tr (rr rfl (.cons rfl .nil) ?_))
     rw [show (s_l3Writes p_l) = (false) by simp only [s_l3Writes, hb49, hL505, cL]]
     exact ⟨rfl, (Ex.trans (Below.only (Ex.trans hf35 hE44) hO47 oM) hE499)⟩
  ·refine cR (sd rfl (yl_lss rfl rfl rfl (dn (CW.seq (CW.cond_f rfl (lt_f hlt37) (CW.exit (tx ?_)))))))
   refine tx ?_
   have hL511 : loopM (B_s_l3Writes_0 p_l) (p_l.length - 0) 0 () = .done () := hI31.symm.trans (loopM.stop hlt37)
   refine bx (tn (cR (sM rfl (sd rfl (yL un34 rfl rfl (sd rfl (yl_leq rfl rfl rfl (sA rfl (SeqR.done ?_)))))))))
   refine tn (CW.ret (rr rfl (.cons rfl .nil) ?_))
   rw [show (s_l3Writes p_l) = (decide ((p_l.length : Int) ≤ 24)) by simp only [s_l3Writes, hL511, cL]]
   exact ⟨rfl, hf35⟩
theorem c_s_l5Rows {A1 : Option Addr} {c1 : Nat} {w : World} (p_l : List DWrite) (h1 : RdS w (Iv 0 w.heap.size) (RF e_Write) 3 A1 p_l.length c1 p_l) (o2 : (okL ok_Write) p_l) : Cal Tryz.prog 40 #[.slice A1 p_l.length c1] w fun v w' => v = .bool ((s_l5Rows p_l)) ∧ Ex w w' := by
 have hol3 := o2.1
 refine Cal.of func40 rfl ntmps40 rfl (cR (sA rfl (dn (CW.seq (cR ?_)))))
 refine sM rfl (sd rfl (yL un34 rfl rfl (sM rfl (dn (CW.block (CW.loop (fun m16 L17 w18 => ∃ (k4 : Nat), m16 = p_l.length - k4 ∧ k4 ≤ p_l.length ∧ w.heap.size ≤ w18.heap.size ∧ Sub [(0, .slice A1 p_l.length c1), (5, .slice A1 p_l.length c1), (6, .int .i64 ((p_l.length : Int))), (7, .int .i64 ((k4 : Int)))] L17 ∧ RdS w18 (Iv 0 w.heap.size) (RF e_Write) 3 A1 p_l.length c1 p_l ∧ Ex w w18 ∧ loopM (B_s_l5Rows_0 p_l) (p_l.length - k4) k4 () = loopM (B_s_l5Rows_0 p_l) (p_l.length - 0) 0 ()) (p_l.length - 0) ?_ ?_))))))
 ·exact ⟨0, rfl, oM, Nat.le_refl _, (sR rfl), h1, (Ex.refl w), rfl⟩
 ·rintro m19 L20 w21 ⟨k4, rfl, hk22, hsz24, hl25, hf26, hf27, hI23⟩
  refine CW.sub hl25 ?_
  have hf27z := Ex.size hf27
  have hbg28 := RdS.big hf26
  rcases Nat.lt_or_ge k4 p_l.length with hlt29 | hlt29
  ·refine cR (sd rfl (yl_lss rfl rfl rfl (dn (CW.seq (CW.cond_t rfl (lt_t hlt29) (CW.skip (tn ?_)))))))
   refine CW.seq (CW.block (cR ?_))
   obtain ⟨_, _, _, eA30, _, ebl30, _, eR30, eC30⟩ := RdS.aD hf26 d_Write (i := k4)
   obtain rfl := eR30
   refine sd rfl (yl_ixN un34 ty80 rfl rfl rfl eA30 (sd rfl (yl_loadN ty80 rfl rfl eC30 rfl (sd rfl (yB ty80 (cs := [.string (bs (([] : Str))), .string (bs (([] : Str))), .bool (false)]) rfl rfl ?_)))))
   intro b31 w32 hs33 hz34 hB35 hE36
   refine SeqR.u rfl rfl (yl_storeA (vs := [.string (bs ((p_l.getD k4 d_Write).Key)), .string (bs ((p_l.getD k4 d_Write).Val)), .bool ((p_l.getD k4 d_Write).Gone)]) ty80 rfl rfl rfl rfl rfl rfl hB35 rfl ?_)
   intro w37 hB38 hO39
   have hO39z := hO39.size
   refine dn (cR (sd rfl (yl_fieldAddr fd80_2 rfl rfl (sd rfl (yl_load1 ty4 rfl rfl ((hB38.cell 2).trans rfl) (dn (bcase ((p_l.getD k4 d_Write).Gone) (fun hb40 => ?_) (fun hb40 => ?_))))))))
   ·refine CW.cond_t rfl hb40 (cR (sA rfl (dn (CW.ret (br (tr ?_))))))
    refine tr ?_
    have hB42 : B_s_l5Rows_0 p_l k4 () = .ret false := by simp only [B_s_l5Rows_0, hb40, cL]
    have hL41 : loopM (B_s_l5Rows_0 p_l) (p_l.length - 0) 0 () = .ret false := hI23.symm.trans (loopM.ret hlt29 hB42)
    refine br (tr (rr rfl (.cons rfl .nil) ?_))
    rw [show (s_l5Rows p_l) = (false) by simp only [s_l5Rows, hb40, hL41, cL]]
    exact ⟨rfl, (Below.only (Ex.trans hf27 hE36) hO39 oM)⟩
   ·refine CW.cond_f rfl hb40 (CW.skip (bn (tn (CW.region (sd rfl (yl_inc rfl rfl rfl oM (sM rfl (dn ?_))))))))
    have hB46 : B_s_l5Rows_0 p_l k4 () = .cont () := by simp only [B_s_l5Rows_0, hb40, cL]
    exact ⟨p_l.length - (k4 + 1), oM, k4 + 1, rfl, hlt29, oM, (sR rfl), (RdS.only gW (RdS.ex gW hf26 hE36) hO39 iV), (Below.only (Ex.trans hf27 hE36) hO39 oM), (loopM.cont hlt29 hB46).symm.trans hI23⟩
  ·refine cR (sd rfl (yl_lss rfl rfl rfl (dn (CW.seq (CW.cond_f rfl (lt_f hlt29) (CW.exit (tx ?_)))))))
   refine tx ?_
   have hL51 : loopM (B_s_l5Rows_0 p_l) (p_l.length - 0) 0 () = .done () := hI23.symm.trans (loopM.stop hlt29)
   refine bx (tn (cR (sM rfl (sd rfl (yC en72 rfl (oc rfl oz) (Cal.mono (c_s_l3Writes p_l (RdS.up hf26 gW) o2) ?_))))))
   rintro v53 w52 ⟨rfl, hE54⟩
   have hE54z := Ex.size hE54
   refine sA rfl (dn (CW.ret (rr rfl (.cons rfl .nil) ?_)))
   rw [show (s_l5Rows p_l) = ((s_l3Writes p_l)) by simp only [s_l5Rows, hL51, cL]]
   exact ⟨rfl, (Ex.trans hf27 hE54)⟩
theorem c_s_l24Letters {w : World} (p_s : Str) (p_most : Int) (o1 : okS p_s) : Cal Tryz.prog 107 #[.string (bs (p_s)), .int .i64 (p_most)] w fun v w' => v = .bool ((s_l24Letters p_s p_most)) ∧ Ex w w' := by
 have hol2 : p_s.length ≤ 1073741824 := o1
 refine Cal.of func107 rfl ntmps107 rfl (cR (sA rfl (dn (CW.seq (cR ?_)))))
 refine sA rfl (dn (CW.block (CW.loop (fun m4 L5 w6 => ∃ (k3 : Nat), m4 = p_s.length - k3 ∧ k3 ≤ p_s.length ∧ w.heap.size ≤ w6.heap.size ∧ Sub [(0, .string (bs (p_s))), (1, .int .i64 (p_most)), (5, .int .i64 ((k3 : Int)))] L5 ∧ Ex w w6 ∧ loopM (B_s_l24Letters_0 p_s p_most) (p_s.length - k3) k3 () = loopM (B_s_l24Letters_0 p_s p_most) (p_s.length - 0) 0 ()) (p_s.length - 0) ?_ ?_)))
 ·exact ⟨0, rfl, oM, Nat.le_refl _, (sR rfl), (Ex.refl w), rfl⟩
 ·rintro m7 L8 w9 ⟨k3, rfl, hk10, hsz12, hl13, hf14, hI11⟩
  refine CW.sub hl13 ?_
  have hf14z := Ex.size hf14
  have hbg15 : p_s.length ≤ 1073741824 := o1
  rcases Nat.lt_or_ge k3 p_s.length with hlt16 | hlt16
  ·refine CW.seq (cR (sM rfl (sM rfl (sd rfl (yl_slen un9 (a := p_s) rfl rfl (sd rfl (yl_lss rfl rfl rfl (dn ?_))))))))
   refine CW.cond_t rfl (lt_t hlt16) (CW.skip (tn (CW.seq (CW.block (cR (sM rfl (sM rfl ?_)))))))
   refine sd rfl (yl_sindexN un9 (a := p_s) rfl rfl rfl Bo (sd rfl (yl_lss rfl rfl rfl (sM rfl (bcD (q := ((p_s.getD k3 0).toNat : Int) < 97) (fun hb17 hb17p => ?_) (fun hb17 hb17p => ?_))))))
   ·refine sz rfl rfl hb17 (sz rfl rfl hb17 (sz rfl rfl hb17 (sz rfl rfl hb17 (sd rfl (yl_pick_t rfl rfl hb17 rfl (dn (CW.cond_t rfl rfl (CW.seq ?_))))))))
    refine CW.region (sA rfl (dn (CW.ret (br (tr (tr ?_))))))
    have hB19 : B_s_l24Letters_0 p_s p_most k3 () = .ret false := by simp only [B_s_l24Letters_0, hb17, cL]
    have hL18 : loopM (B_s_l24Letters_0 p_s p_most) (p_s.length - 0) 0 () = .ret false := hI11.symm.trans (loopM.ret hlt16 hB19)
    refine br (tr (rr rfl (.cons rfl .nil) ?_))
    rw [show (s_l24Letters p_s p_most) = (false) by simp only [s_l24Letters, hb17, hL18, cL]]
    exact ⟨rfl, hf14⟩
   ·refine sy rfl rfl hb17 (yM rfl rfl (sy rfl rfl hb17 (yM rfl rfl (sy rfl rfl hb17 (yl_sindexN un9 (a := p_s) rfl rfl rfl Bo (sy rfl rfl hb17 (yl_gtr rfl rfl rfl (sd rfl (yl_pick_f rfl rfl hb17 rfl (dn (bcD (q := 122 < ((p_s.getD k3 0).toNat : Int)) (fun hb21 hb21p => ?_) (fun hb21 hb21p => ?_))))))))))))
    ·refine CW.cond_t rfl hb21 (cR (sA rfl (dn (CW.ret (br (tr ?_))))))
     refine tr ?_
     have hB23 : B_s_l24Letters_0 p_s p_most k3 () = .ret false := by simp only [B_s_l24Letters_0, hb17, hb21, cL]
     have hL22 : loopM (B_s_l24Letters_0 p_s p_most) (p_s.length - 0) 0 () = .ret false := hI11.symm.trans (loopM.ret hlt16 hB23)
     refine br (tr (rr rfl (.cons rfl .nil) ?_))
     rw [show (s_l24Letters p_s p_most) = (false) by simp only [s_l24Letters, hb17, hb21, hL22, cL]]
     exact ⟨rfl, hf14⟩
    ·refine CW.cond_f rfl hb21 (CW.skip (bn (tn (CW.region (sM rfl (sd rfl (yl_inc rfl rfl rfl oM (sA rfl (SeqR.done ?_)))))))))
     refine tn ?_
     have hB25 : B_s_l24Letters_0 p_s p_most k3 () = .cont () := by simp only [B_s_l24Letters_0, hb17, hb21, cL]
     exact ⟨p_s.length - (k3 + 1), oM, k3 + 1, rfl, hlt16, oM, (sR rfl), hf14, (loopM.cont hlt16 hB25).symm.trans hI11⟩
  ·refine CW.seq (cR (sM rfl (sM rfl (sd rfl (yl_slen un9 (a := p_s) rfl rfl (sd rfl (yl_lss rfl rfl rfl (dn ?_))))))))
   refine CW.cond_f rfl (lt_f hlt16) (CW.exit (tx (tx ?_)))
   have hL26 : loopM (B_s_l24Letters_0 p_s p_most) (p_s.length - 0) 0 () = .done () := hI11.symm.trans (loopM.stop hlt16)
   refine bx (tn (cR (sM rfl (sd rfl (yl_slen un9 (a := p_s) rfl rfl (sd rfl (yl_geq rfl rfl rfl (sM rfl (bcD (q := 1 ≤ (p_s.length : Int)) (fun hb27 hb27p => ?_) (fun hb27 hb27p => ?_))))))))))
   ·refine sy rfl rfl hb27 (yM rfl rfl (sy rfl rfl hb27 (yl_slen un9 (a := p_s) rfl rfl (sy rfl rfl hb27 (yM rfl rfl (sy rfl rfl hb27 (yl_leq rfl rfl rfl (sd rfl (yl_pick_t rfl rfl hb27 rfl (sA rfl (dn (CW.ret ?_))))))))))))
    refine rr rfl (.cons rfl .nil) ?_
    rw [show (s_l24Letters p_s p_most) = (decide ((p_s.length : Int) ≤ p_most)) by simp only [s_l24Letters, hb27, hL26, cL]]
    exact ⟨rfl, hf14⟩
   ·refine sz rfl rfl hb27 (sz rfl rfl hb27 (sz rfl rfl hb27 (sz rfl rfl hb27 (sd rfl (yl_pick_f rfl rfl hb27 rfl (sA rfl (dn (CW.ret ?_))))))))
    refine rr rfl (.cons rfl .nil) ?_
    rw [show (s_l24Letters p_s p_most) = (false) by simp only [s_l24Letters, hb27, hL26, cL]]
    exact ⟨rfl, hf14⟩
theorem c_s_l24At {A1 : Option Addr} {c1 : Nat} {w : World} (p_l : List Str) (p_s : Str) (h1 : RdS w (Iv 0 w.heap.size) (RF e_Str) 1 A1 p_l.length c1 p_l) (o2 : (okL okS) p_l) (o3 : okS p_s) : Cal Tryz.prog 147 #[.slice A1 p_l.length c1, .string (bs (p_s))] w fun v w' => v = .int .i64 ((s_l24At p_l p_s)) ∧ Ex w w' := by
 have hol4 := o2.1
 have hol5 : p_s.length ≤ 1073741824 := o3
 refine Cal.of func147 rfl ntmps147 rfl (cR (sA rfl (dn (CW.seq (cR ?_)))))
 refine sM rfl (sd rfl (yL un22 rfl rfl (sM rfl (dn (CW.block (CW.loop (fun m7 L8 w9 => ∃ (k6 : Nat), m7 = p_l.length - k6 ∧ k6 ≤ p_l.length ∧ w.heap.size ≤ w9.heap.size ∧ Sub [(1, .string (bs (p_s))), (7, .slice A1 p_l.length c1), (8, .int .i64 ((p_l.length : Int))), (9, .int .i64 ((k6 : Int)))] L8 ∧ RdS w9 (Iv 0 w.heap.size) (RF e_Str) 1 A1 p_l.length c1 p_l ∧ Ex w w9 ∧ loopM (B_s_l24At_0 p_l p_s) (p_l.length - k6) k6 () = loopM (B_s_l24At_0 p_l p_s) (p_l.length - 0) 0 ()) (p_l.length - 0) ?_ ?_))))))
 ·exact ⟨0, rfl, oM, Nat.le_refl _, (sR rfl), h1, (Ex.refl w), rfl⟩
 ·rintro m10 L11 w12 ⟨k6, rfl, hk13, hsz15, hl16, hf17, hf18, hI14⟩
  refine CW.sub hl16 ?_
  have hf18z := Ex.size hf18
  have hbg19 := RdS.big hf17
  rcases Nat.lt_or_ge k6 p_l.length with hlt20 | hlt20
  ·refine cR (sd rfl (yl_lss rfl rfl rfl (dn (CW.seq (CW.cond_t rfl (lt_t hlt20) (CW.skip (tn ?_)))))))
   refine CW.seq (CW.block (cR (sM rfl ?_)))
   obtain ⟨_, _, _, eA21, _, ebl21, _, eR21, eC21⟩ := RdS.aD hf17 d_Str (i := k6)
   obtain rfl := eR21
   refine sd rfl (yl_ixN un22 ty9 rfl rfl rfl eA21 (sd rfl (yl_load1 ty9 rfl rfl (eC21 0 _ rfl) (sA rfl (sA rfl (dn (cR (sM rfl ?_))))))))
   refine sM rfl (sd rfl (yl_seql (a := (p_l.getD k6 d_Str)) (b := p_s) rfl rfl rfl (dn (bcase ((p_l.getD k6 d_Str) == p_s) (fun hb22 => ?_) (fun hb22 => ?_)))))
   ·refine CW.cond_t rfl hb22 (cR (sM rfl (sA rfl (dn (CW.ret (br ?_))))))
    refine tr (tr ?_)
    have hB24 : B_s_l24At_0 p_l p_s k6 () = .ret (k6 : Int) := by simp only [B_s_l24At_0, hb22, cL]
    have hL23 : loopM (B_s_l24At_0 p_l p_s) (p_l.length - 0) 0 () = .ret (k6 : Int) := hI14.symm.trans (loopM.ret hlt20 hB24)
    refine br (tr (rr rfl (.cons rfl .nil) ?_))
    rw [show (s_l24At p_l p_s) = ((k6 : Int)) by simp only [s_l24At, hb22, hL23, cL]]
    exact ⟨rfl, hf18⟩
   ·refine CW.cond_f rfl hb22 (CW.skip (bn (tn (CW.region (sd rfl (yl_inc rfl rfl rfl oM (sM rfl (dn ?_))))))))
    have hB26 : B_s_l24At_0 p_l p_s k6 () = .cont () := by simp only [B_s_l24At_0, hb22, cL]
    exact ⟨p_l.length - (k6 + 1), oM, k6 + 1, rfl, hlt20, oM, (sR rfl), hf17, hf18, (loopM.cont hlt20 hB26).symm.trans hI14⟩
  ·refine cR (sd rfl (yl_lss rfl rfl rfl (dn (CW.seq (CW.cond_f rfl (lt_f hlt20) (CW.exit (tx ?_)))))))
   refine tx ?_
   have hL27 : loopM (B_s_l24At_0 p_l p_s) (p_l.length - 0) 0 () = .done () := hI14.symm.trans (loopM.stop hlt20)
   refine bx (tn (cR (sA rfl (dn (CW.ret (rr rfl (.cons rfl .nil) ?_))))))
   rw [show (s_l24At p_l p_s) = (-1) by simp only [s_l24At, hL27, cL]]
   exact ⟨rfl, hf18⟩
theorem c_s_l24Cols {A1 : Option Addr} {c1 : Nat} {w : World} (p_l : List Str) (h1 : RdS w (Iv 0 w.heap.size) (RF e_Str) 1 A1 p_l.length c1 p_l) (o2 : (okL okS) p_l) : Cal Tryz.prog 108 #[.slice A1 p_l.length c1] w fun v w' => v = .bool ((s_l24Cols p_l)) ∧ Ex w w' := by
 have hol3 := o2.1
 refine Cal.of func108 rfl ntmps108 rfl (cR (sA rfl (dn (CW.seq (cR ?_)))))
 refine sM rfl (sd rfl (yL un22 rfl rfl (sM rfl (dn (CW.block (CW.loop (fun m5 L6 w7 => ∃ (k4 : Nat), m5 = p_l.length - k4 ∧ k4 ≤ p_l.length ∧ w.heap.size ≤ w7.heap.size ∧ Sub [(0, .slice A1 p_l.length c1), (5, .slice A1 p_l.length c1), (6, .int .i64 ((p_l.length : Int))), (7, .int .i64 ((k4 : Int)))] L6 ∧ RdS w7 (Iv 0 w.heap.size) (RF e_Str) 1 A1 p_l.length c1 p_l ∧ Ex w w7 ∧ loopM (B_s_l24Cols_0 p_l) (p_l.length - k4) k4 () = loopM (B_s_l24Cols_0 p_l) (p_l.length - 0) 0 ()) (p_l.length - 0) ?_ ?_))))))
 ·exact ⟨0, rfl, oM, Nat.le_refl _, (sR rfl), h1, (Ex.refl w), rfl⟩
 ·rintro m8 L9 w10 ⟨k4, rfl, hk11, hsz13, hl14, hf15, hf16, hI12⟩
  refine CW.sub hl14 ?_
  have hf16z := Ex.size hf16
  have hbg17 := RdS.big hf15
  rcases Nat.lt_or_ge k4 p_l.length with hlt18 | hlt18
  ·refine cR (sd rfl (yl_lss rfl rfl rfl (dn (CW.seq (CW.cond_t rfl (lt_t hlt18) (CW.skip (tn ?_)))))))
   refine CW.seq (CW.block (cR (sM rfl ?_)))
   obtain ⟨_, _, _, eA19, _, ebl19, _, eR19, eC19⟩ := RdS.aD hf15 d_Str (i := k4)
   obtain rfl := eR19
   refine sd rfl (yl_ixN un22 ty9 rfl rfl rfl eA19 (sd rfl (yl_load1 ty9 rfl rfl (eC19 0 _ rfl) (sA rfl (sA rfl (dn (cR (sM rfl ?_))))))))
   refine sd rfl (yC en107 rfl (oc rfl (oc rfl oz)) (Cal.mono (c_s_l24Letters (p_l.getD k4 d_Str) 3 (okL.getD o2 ok_d_Str _)) ?_))
   rintro v21 w20 ⟨rfl, hE22⟩
   have hE22z := Ex.size hE22
   refine sd rfl (yl_not rfl rfl (sM rfl (bcase (s_l24Letters (p_l.getD k4 d_Str) 3) (fun hb23 => ?_) (fun hb23 => ?_))))
   ·refine sy rfl rfl (not_t hb23) (yM rfl rfl (sy rfl rfl (not_t hb23) (yM rfl rfl ?_)))
    have q24 := RdS.ex gS hf15 hE22
    obtain ⟨A25, c26, he29, h28⟩ := RdS.sl (RdS.drop (RdS.take q24 (k := k4) oM) (k := 0) oM)
    have hrc30 := (q24).2.1
    refine sy rfl rfl (not_t hb23) (yl_sliceR (kl := .i64) (l := 0) (h := k4) un22 ty9 rfl rfl (.inl ⟨rfl, rfl⟩) (.inr ⟨_, rfl, rfl⟩) oM oM he29 (sy rfl rfl (not_t hb23) (yM rfl rfl (sy rfl rfl (not_t hb23) (yC en147 rfl (oc rfl (oc rfl oz)) (Cal.mono (c_s_l24At (p_l.take k4) (p_l.getD k4 d_Str) (RdS.up h28 gS) (okL.take o2 _) (okL.getD o2 ok_d_Str _)) ?_))))))
    rintro v32 w31 ⟨rfl, hE33⟩
    have hE33z := Ex.size hE33
    refine sy rfl rfl (not_t hb23) (yl_geq rfl rfl rfl (sd rfl (yl_pick_f rfl rfl (not_t hb23) rfl (dn (bcD (q := 0 ≤ (s_l24At (p_l.take k4) (p_l.getD k4 d_Str))) (fun hb34 hb34p => ?_) (fun hb34 hb34p => ?_))))))
    ·refine CW.cond_t rfl hb34 (cR (sA rfl (dn (CW.ret (br (tr ?_))))))
     refine tr ?_
     have hB36 : B_s_l24Cols_0 p_l k4 () = .ret false := by simp only [B_s_l24Cols_0, hb23, hb34, cL]
     have hL35 : loopM (B_s_l24Cols_0 p_l) (p_l.length - 0) 0 () = .ret false := hI12.symm.trans (loopM.ret hlt18 hB36)
     refine br (tr (rr rfl (.cons rfl .nil) ?_))
     rw [show (s_l24Cols p_l) = (false) by simp only [s_l24Cols, hb23, hb34, hL35, cL]]
     exact ⟨rfl, (Ex.trans (Ex.trans hf16 hE22) hE33)⟩
    ·refine CW.cond_f rfl hb34 (CW.skip (bn (tn (CW.region (sd rfl (yl_inc rfl rfl rfl oM (sM rfl (dn ?_))))))))
     have hB40 : B_s_l24Cols_0 p_l k4 () = .cont () := by simp only [B_s_l24Cols_0, hb23, hb34, cL]
     exact ⟨p_l.length - (k4 + 1), oM, k4 + 1, rfl, hlt18, oM, (sR rfl), (RdS.ex gS q24 hE33), (Ex.trans (Ex.trans hf16 hE22) hE33), (loopM.cont hlt18 hB40).symm.trans hI12⟩
   ·refine sz rfl rfl (not_f hb23) (sz rfl rfl (not_f hb23) (sz rfl rfl (not_f hb23) (sz rfl rfl (not_f hb23) (sz rfl rfl (not_f hb23) (sz rfl rfl (not_f hb23) (sd rfl (yl_pick_t rfl rfl (not_f hb23) rfl (dn ?_))))))))
    refine CW.cond_t rfl rfl (cR (sA rfl (dn (CW.ret (br (tr ?_))))))
    refine tr ?_
    have hB45 : B_s_l24Cols_0 p_l k4 () = .ret false := by simp only [B_s_l24Cols_0, hb23, cL]
    have hL44 : loopM (B_s_l24Cols_0 p_l) (p_l.length - 0) 0 () = .ret false := hI12.symm.trans (loopM.ret hlt18 hB45)
    refine br (tr (rr rfl (.cons rfl .nil) ?_))
    rw [show (s_l24Cols p_l) = (false) by simp only [s_l24Cols, hb23, hL44, cL]]
    exact ⟨rfl, (Ex.trans hf16 hE22)⟩
  ·refine cR (sd rfl (yl_lss rfl rfl rfl (dn (CW.seq (CW.cond_f rfl (lt_f hlt18) (CW.exit (tx ?_)))))))
   refine tx ?_
   have hL48 : loopM (B_s_l24Cols_0 p_l) (p_l.length - 0) 0 () = .done () := hI12.symm.trans (loopM.stop hlt18)
   refine bx (tn (cR (sM rfl (sd rfl (yL un22 rfl rfl (sd rfl (yC en91 rfl (oc rfl (oc rfl (oc rfl oz))) (Cal.mono (c_s_l1In (p_l.length : Int) 2 4) ?_))))))))
   rintro v50 w49 ⟨rfl, hE51⟩
   have hE51z := Ex.size hE51
   refine sA rfl (dn (CW.ret (rr rfl (.cons rfl .nil) ?_)))
   rw [show (s_l24Cols p_l) = ((s_l1In (p_l.length : Int) 2 4)) by simp only [s_l24Cols, hL48, cL]]
   exact ⟨rfl, (Ex.trans hf16 hE51)⟩
theorem c_s_GoodTable {A1 : Option Addr} {c1 : Nat} {A2 : Option Addr} {c2 : Nat} {w : World} (p_0 : DTable) (h1 : RdS w (Iv 0 w.heap.size) (RF e_Str) 1 A1 p_0.Cols.length c1 p_0.Cols) (h2 : RdS w (Iv 0 w.heap.size) (RF e_Idx) 3 A2 p_0.Idxs.length c2 p_0.Idxs) (o3 : ok_Table p_0) : Cal Tryz.prog 65 #[.agg #[.string (bs (p_0.Name)), .slice A1 p_0.Cols.length c1, .slice A2 p_0.Idxs.length c2]] w fun v w' => v = .bool ((s_GoodTable p_0)) ∧ Ex w w' := by
 have hol4 : p_0.Name.length ≤ 1073741824 := o3.1
 have hol5 := o3.2.1.1
 have hol6 := o3.2.2.1
 refine Cal.of func65 rfl ntmps65 rfl (cR (sd rfl (yl_box rfl rfl rfl ?_)))
 intro b7 w8 hs9 hz10 hB11 hE12
 refine sA rfl (dn (CW.seq (cR (sd rfl (yl_fieldAddr fd39_0 rfl rfl (sd rfl (yl_load1 ty9 rfl rfl ((hB11.cell 0).trans rfl) (sd rfl (yC en107 rfl (oc rfl (oc rfl oz)) (Cal.mono (c_s_l24Letters p_0.Name 1 o3.1) ?_))))))))))
 rintro v14 w13 ⟨rfl, hE15⟩
 have hE15z := Ex.size hE15
 refine sd rfl (yl_not rfl rfl (sM rfl (bcase (s_l24Letters p_0.Name 1) (fun hb16 => ?_) (fun hb16 => ?_))))
 ·refine sy rfl rfl (not_t hb16) (yl_fieldAddr fd39_1 rfl rfl ?_)
  have q17 := Box.ex hB11 hE15
  refine sy rfl rfl (not_t hb16) (yl_load1 ty22 rfl rfl ((q17.cell 1).trans rfl) ?_)
  have q19 := RdS.ex gS (RdS.ex gS h1 hE12) hE15
  refine sy rfl rfl (not_t hb16) (yC en108 rfl (oc rfl oz) (Cal.mono (c_s_l24Cols p_0.Cols (RdS.up q19 gS) o3.2.1) ?_))
  rintro v21 w20 ⟨rfl, hE22⟩
  have hE22z := Ex.size hE22
  refine sy rfl rfl (not_t hb16) (yl_not rfl rfl (sd rfl (yl_pick_f rfl rfl (not_t hb16) rfl (sM rfl (bcase (s_l24Cols p_0.Cols) (fun hb23 => ?_) (fun hb23 => ?_))))))
  ·refine sy rfl rfl (not_t hb23) (yl_fieldAddr fd39_2 rfl rfl ?_)
   have q24 := Box.ex q17 hE22
   refine sy rfl rfl (not_t hb23) (yl_load1 ty37 rfl rfl ((q24.cell 2).trans rfl) (sy rfl rfl (not_t hb23) (yL un37 rfl rfl (sy rfl rfl (not_t hb23) (yl_gtr rfl rfl rfl (sd rfl (yl_pick_f rfl rfl (not_t hb23) rfl (dn (bcD (q := 3 < (p_0.Idxs.length : Int)) (fun hb25 hb25p => ?_) (fun hb25 hb25p => ?_))))))))))
   ·refine CW.cond_t rfl hb25 (cR (sA rfl (dn (CW.ret (tr (rr rfl (.cons rfl .nil) ?_))))))
    rw [show (s_GoodTable p_0) = (false) by simp only [s_GoodTable, hb16, hb23, hb25, cL]]
    exact ⟨rfl, (Ex.trans (Ex.trans (Ex.trans (Ex.refl w) hE12) hE15) hE22)⟩
   ·refine CW.cond_f rfl hb25 (CW.skip (tn (CW.seq (cR (sd rfl (yl_fieldAddr fd39_2 rfl rfl (sd rfl (yl_load1 ty37 rfl rfl ((q24.cell 2).trans rfl) (sd rfl (yL un37 rfl rfl ?_))))))))))
    refine sM rfl (dn (CW.block (CW.loop (fun m68 L69 w70 => ∃ (k30 : Nat), m68 = p_0.Idxs.length - k30 ∧ k30 ≤ p_0.Idxs.length ∧ w20.heap.size ≤ w70.heap.size ∧ Sub [(1, .pointer (some ⟨b7, 0, none⟩)), (22, .slice A2 p_0.Idxs.length c2), (23, .int .i64 ((p_0.Idxs.length : Int))), (24, .int .i64 ((k30 : Int)))] L69 ∧ Box w70 b7 39 [.string (bs (p_0.Name)), .slice A1 p_0.Cols.length c1, .slice A2 p_0.Idxs.length c2] ∧ RdS w70 (Iv 0 w.heap.size) (RF e_Str) 1 A1 p_0.Cols.length c1 p_0.Cols ∧ RdS w70 (Iv 0 w.heap.size) (RF e_Idx) 3 A2 p_0.Idxs.length c2 p_0.Idxs ∧ Ex w w70 ∧ loopM (B_s_GoodTable_0 p_0) (p_0.Idxs.length - k30) k30 () = loopM (B_s_GoodTable_0 p_0) (p_0.Idxs.length - 0) 0 ()) (p_0.Idxs.length - 0) ?_ ?_)))
    ·exact ⟨0, rfl, oM, Nat.le_refl _, (sR rfl), q24, (RdS.ex gS q19 hE22), (RdS.ex gI (RdS.ex gI (RdS.ex gI h2 hE12) hE15) hE22), (Ex.trans (Ex.trans (Ex.trans (Ex.refl w) hE12) hE15) hE22), rfl⟩
    ·rintro m78 L79 w80 ⟨k30, rfl, hk81, hsz83, hl84, hf85, hf86, hf87, hf88, hI82⟩
     refine CW.sub hl84 ?_
     have hf85z := Box.lt hf85
     have hf88z := Ex.size hf88
     have hbg89 := RdS.big hf87
     rcases Nat.lt_or_ge k30 p_0.Idxs.length with hlt90 | hlt90
     ·refine cR (sd rfl (yl_lss rfl rfl rfl (dn (CW.seq (CW.cond_t rfl (lt_t hlt90) (CW.skip (tn ?_)))))))
      refine CW.seq (CW.block (cR (sM rfl ?_)))
      obtain ⟨_, _, _, eA91, _, ebl91, _, eR91, eC91⟩ := RdS.aD hf87 d_Idx (i := k30)
      obtain rfl := eR91
      refine sd rfl (yl_ixN un37 ty111 rfl rfl rfl eA91 (sd rfl (yl_loadN ty111 rfl rfl eC91 rfl (sd rfl (yB ty111 (cs := [.string (bs (([] : Str))), .int .i64 (0), .int .i64 (0)]) rfl rfl ?_)))))
      intro b92 w93 hs94 hz95 hB96 hE97
      refine sA rfl (SeqR.u rfl rfl (yl_storeA (vs := [.string (bs ((p_0.Idxs.getD k30 d_Idx).Name)), .int .i64 ((p_0.Idxs.getD k30 d_Idx).Col), .int .i64 ((p_0.Idxs.getD k30 d_Idx).Stage)]) ty111 rfl rfl rfl rfl rfl rfl hB96 rfl ?_))
      intro w98 hB99 hO100
      have hO100z := hO100.size
      refine dn (CW.seq (bcase (s_l24Letters ((p_0.Idxs.getD k30 d_Idx).Name) 1) (fun hb102 => ?_) (fun hb102 => ?_)))
      ·refine bcase (s_l1In ((p_0.Idxs.getD k30 d_Idx).Col) 1 (IntKind.wrap .i64 ((p_0.Cols.length : Int) - 1))) (fun hb107 => ?_) (fun hb107 => ?_)
       ·have hb107p := f_l1In hb107
        refine bcase (s_l1In ((p_0.Idxs.getD k30 d_Idx).Stage) 0 3) (fun hb113 => ?_) (fun hb113 => ?_)
        ·have hb113p := f_l1In hb113
         refine bcD (q := 0 < (k30 : Int)) (fun hb119 hb119p => ?_) (fun hb119 hb119p => ?_)
         ·have q122 := Box.only (Box.ex hf85 hE97) hO100 oM
          have q126 := RdS.only gI (RdS.ex gI hf87 hE97) hO100 iV
          obtain ⟨eb127, eo127, _, eA127, _, ebl127, _, eR127, eC127⟩ := RdS.atD q126 d_Idx (i := (IntKind.wrap .i64 ((k30 : Int) - 1)).toNat) Bo
          obtain rfl := eR127
          refine drJ 36 [.pointer (some ⟨b92, 0 + 0, none⟩), .string (bs ((p_0.Idxs.getD k30 d_Idx).Name)), .bool ((s_l24Letters ((p_0.Idxs.getD k30 d_Idx).Name) 1)), .bool (!(s_l24Letters ((p_0.Idxs.getD k30 d_Idx).Name) 1)), .bool (!(s_l24Letters ((p_0.Idxs.getD k30 d_Idx).Name) 1)), .pointer (some ⟨b92, 0 + 1, none⟩), .int .i64 ((p_0.Idxs.getD k30 d_Idx).Col), .pointer (some ⟨b7, 0 + 1, none⟩), .slice A1 p_0.Cols.length c1, .int .i64 ((p_0.Cols.length : Int)), .int .i64 (IntKind.wrap .i64 ((p_0.Cols.length : Int) - 1)), .bool ((s_l1In ((p_0.Idxs.getD k30 d_Idx).Col) 1 (IntKind.wrap .i64 ((p_0.Cols.length : Int) - 1)))), .bool (!(s_l1In ((p_0.Idxs.getD k30 d_Idx).Col) 1 (IntKind.wrap .i64 ((p_0.Cols.length : Int) - 1)))), .bool (!(s_l1In ((p_0.Idxs.getD k30 d_Idx).Col) 1 (IntKind.wrap .i64 ((p_0.Cols.length : Int) - 1)))), .bool (!(s_l1In ((p_0.Idxs.getD k30 d_Idx).Col) 1 (IntKind.wrap .i64 ((p_0.Cols.length : Int) - 1)))), .pointer (some ⟨b92, 0 + 2, none⟩), .int .i64 ((p_0.Idxs.getD k30 d_Idx).Stage), .bool ((s_l1In ((p_0.Idxs.getD k30 d_Idx).Stage) 0 3)), .bool (!(s_l1In ((p_0.Idxs.getD k30 d_Idx).Stage) 0 3)), .bool (!(s_l1In ((p_0.Idxs.getD k30 d_Idx).Stage) 0 3)), .bool (!(s_l1In ((p_0.Idxs.getD k30 d_Idx).Stage) 0 3)), .int .i64 ((k30 : Int)), .bool (decide (0 < (k30 : Int))), .bool (decide (0 < (k30 : Int))), .pointer (some ⟨b7, 0 + 2, none⟩), .slice A2 p_0.Idxs.length c2, .int .i64 ((k30 : Int)), .int .i64 (IntKind.wrap .i64 ((k30 : Int) - 1)), .pointer (some ⟨eb127, eo127 + ((IntKind.wrap .i64 ((k30 : Int) - 1)).toNat) * 3, none⟩), .pointer (some ⟨eb127, eo127 + ((IntKind.wrap .i64 ((k30 : Int) - 1)).toNat) * 3 + 0, none⟩), .string (bs ((p_0.Idxs.getD ((IntKind.wrap .i64 ((k30 : Int) - 1)).toNat) d_Idx).Name)), .pointer (some ⟨b92, 0 + 0, none⟩), .string (bs ((p_0.Idxs.getD k30 d_Idx).Name)), .bool (!(sLt ((p_0.Idxs.getD ((IntKind.wrap .i64 ((k30 : Int) - 1)).toNat) d_Idx).Name) ((p_0.Idxs.getD k30 d_Idx).Name))), .bool (!(sLt ((p_0.Idxs.getD ((IntKind.wrap .i64 ((k30 : Int) - 1)).toNat) d_Idx).Name) ((p_0.Idxs.getD k30 d_Idx).Name))), .bool (!(sLt ((p_0.Idxs.getD ((IntKind.wrap .i64 ((k30 : Int) - 1)).toNat) d_Idx).Name) ((p_0.Idxs.getD k30 d_Idx).Name)))] Tryz.follows rfl ?_ ?_
          ·refine ⟨oI rfl fun h => yl_fieldAddr fd111_0 rfl (h.g 4 rfl) kI, oI rfl fun h => yl_load1 ty9 rfl (h.g 29 rfl) (((Box.ex hB99 h.ex).cell 0).trans rfl) kI, ?_, oI rfl fun h => yl_not rfl (h.g 31 rfl) kI, oI rfl fun h => yM rfl (h.g 32 rfl) kI, oW rfl rfl rfl rfl (not_t hb102) fun h => yl_fieldAddr fd111_1 rfl (h.g 4 rfl) kI, oW rfl rfl rfl rfl (not_t hb102) fun h => yl_load1 ty3 rfl (h.g 34 rfl) (((Box.ex hB99 h.ex).cell 1).trans rfl) kI, oW rfl rfl rfl rfl (not_t hb102) fun h => yl_fieldAddr fd39_1 rfl (h.g 1 rfl) kI, oW rfl rfl rfl rfl (not_t hb102) fun h => yl_load1 ty22 rfl (h.g 36 rfl) (((Box.ex q122 h.ex).cell 1).trans rfl) kI, oW rfl rfl rfl rfl (not_t hb102) fun h => yL un22 rfl (h.g 37 rfl) kI, oW rfl rfl rfl rfl (not_t hb102) fun h => yl_sub rfl (h.g 38 rfl) rfl kI, ?_, oW rfl rfl rfl rfl (not_t hb102) fun h => yl_not rfl (h.g 40 rfl) kI, oI rfl fun h => yl_pick_f rfl (h.g 33 rfl) (not_t hb102) (h.g 41 rfl) kI, oI rfl fun h => yM rfl (h.g 42 rfl) kI, oW rfl rfl rfl rfl (not_t hb107) fun h => yl_fieldAddr fd111_2 rfl (h.g 4 rfl) kI, oW rfl rfl rfl rfl (not_t hb107) fun h => yl_load1 ty3 rfl (h.g 44 rfl) (((Box.ex hB99 h.ex).cell 2).trans rfl) kI, ?_, oW rfl rfl rfl rfl (not_t hb107) fun h => yl_not rfl (h.g 46 rfl) kI, oI rfl fun h => yl_pick_f rfl (h.g 43 rfl) (not_t hb107) (h.g 47 rfl) kI, oI rfl fun h => yM rfl (h.g 48 rfl) kI, oW rfl rfl rfl rfl (not_t hb113) fun h => yM rfl (h.g 3 rfl) kI, oW rfl rfl rfl rfl (not_t hb113) fun h => yl_gtr rfl (h.g 50 rfl) rfl kI, oW rfl rfl rfl rfl (not_t hb113) fun h => yM rfl (h.g 51 rfl) kI, oW rfl rfl rfl rfl hb119 fun h => yl_fieldAddr fd39_2 rfl (h.g 1 rfl) kI, oW rfl rfl rfl rfl hb119 fun h => yl_load1 ty37 rfl (h.g 53 rfl) (((Box.ex q122 h.ex).cell 2).trans rfl) kI, oW rfl rfl rfl rfl hb119 fun h => yM rfl (h.g 3 rfl) kI, oW rfl rfl rfl rfl hb119 fun h => yl_sub rfl (h.g 55 rfl) rfl kI, ?_, oW rfl rfl rfl rfl hb119 fun h => yl_fieldAddr fd111_0 rfl (h.g 57 rfl) kI, oW rfl rfl rfl rfl hb119 fun h => yl_load1 ty9 rfl (h.g 58 rfl) ((Cells.ex eC127 h.ex) 0 _ rfl) kI, oW rfl rfl rfl rfl hb119 fun h => yl_fieldAddr fd111_0 rfl (h.g 4 rfl) kI, oW rfl rfl rfl rfl hb119 fun h => yl_load1 ty9 rfl (h.g 60 rfl) (((Box.ex hB99 h.ex).cell 0).trans rfl) kI, oW rfl rfl rfl rfl hb119 fun h => yl_sgeq (a := ((p_0.Idxs.getD ((IntKind.wrap .i64 ((k30 : Int) - 1)).toNat) d_Idx).Name)) (b := ((p_0.Idxs.getD k30 d_Idx).Name)) rfl (h.g 59 rfl) (h.g 61 rfl) kI, oW rfl rfl rfl rfl (not_t hb113) fun h => yl_pick_t rfl (h.g 52 rfl) hb119 (h.g 62 rfl) kI, oI rfl fun h => yl_pick_f rfl (h.g 49 rfl) (not_t hb113) (h.g 63 rfl) kI, trivial⟩
           ·intro L139 w140 hi141
            exact OpR.op' rfl (yC en107 rfl (oc (hi141.g 30 rfl) (oc rfl oz)) (Cal.mono (c_s_l24Letters ((p_0.Idxs.getD k30 d_Idx).Name) 1 (okL.getD o3.2.2 ok_d_Idx _)) fun _ _ h => h))
           ·intro L195 w196 hi197
            exact OpR.want rfl rfl (hi197.g 33 rfl) (not_t hb102) (yC en91 rfl (oc (hi197.g 35 rfl) (oc rfl (oc (hi197.g 39 rfl) oz))) (Cal.mono (c_s_l1In ((p_0.Idxs.getD k30 d_Idx).Col) 1 (IntKind.wrap .i64 ((p_0.Cols.length : Int) - 1))) fun _ _ h => h))
           ·intro L235 w236 hi237
            exact OpR.want rfl rfl (hi237.g 43 rfl) (not_t hb107) (yC en91 rfl (oc (hi237.g 45 rfl) (oc rfl (oc rfl oz))) (Cal.mono (c_s_l1In ((p_0.Idxs.getD k30 d_Idx).Stage) 0 3) fun _ _ h => h))
           ·intro L304 w305 hi306
            have hE307 := hi306.ex
            have hE307z := Ex.size hE307
            exact OpR.want rfl rfl (hi306.g 52 rfl) hb119 (Yl.sameI (yl_indexAddr un37 ty111 rfl (hi306.g 54 rfl) (hi306.g 56 rfl) eA127 Bo Bo kI))
          ·intro fl360 fh361 L357 w358 hp359
           have hE362 := hp359.ex
           have hE362z := Ex.size hE362
           refine dn (CW.sub (hp359.ss [1, 22, 23, 24, 64] rfl) (bcase (sLt ((p_0.Idxs.getD ((IntKind.wrap .i64 ((k30 : Int) - 1)).toNat) d_Idx).Name) ((p_0.Idxs.getD k30 d_Idx).Name)) (fun hb368 => ?_) (fun hb368 => ?_)))
           ·refine CW.cond_f rfl (not_t hb368) (CW.skip (bn (tn (CW.region (sd rfl (yl_inc rfl rfl rfl oM (sM rfl (dn ?_))))))))
            have hB369 : B_s_GoodTable_0 p_0 k30 () = .cont () := by simp only [B_s_GoodTable_0, hb16, hb23, hb25, hb102, hb107, hb113, hb119, hb368, cL]
            exact ⟨p_0.Idxs.length - (k30 + 1), oM, k30 + 1, rfl, hlt90, oM, (sR rfl), (Box.ex q122 hE362), (RdS.ex gS (RdS.only gS (RdS.ex gS hf86 hE97) hO100 iV) hE362), (RdS.ex gI q126 hE362), (Ex.trans (Below.only (Ex.trans hf88 hE97) hO100 oM) hE362), (loopM.cont hlt90 hB369).symm.trans hI82⟩
           ·refine CW.cond_t rfl (not_f hb368) (cR (sA rfl (dn (CW.ret (br (tr ?_))))))
            refine tr ?_
            have hB379 : B_s_GoodTable_0 p_0 k30 () = .ret false := by simp only [B_s_GoodTable_0, hb16, hb23, hb25, hb102, hb107, hb113, hb119, hb368, cL]
            have hL378 : loopM (B_s_GoodTable_0 p_0) (p_0.Idxs.length - 0) 0 () = .ret false := hI82.symm.trans (loopM.ret hlt90 hB379)
            refine br (tr (rr rfl (.cons rfl .nil) ?_))
            rw [show (s_GoodTable p_0) = (false) by simp only [s_GoodTable, hb16, hb23, hb25, hb102, hb107, hb113, hb119, hb368, hL378, cL]]
            exact ⟨rfl, (Ex.trans (Below.only (Ex.trans hf88 hE97) hO100 oM) hE362)⟩
         ·have q386 := Box.only (Box.ex hf85 hE97) hO100 oM
          refine drJ 36 [.pointer (some ⟨b92, 0 + 0, none⟩), .string (bs ((p_0.Idxs.getD k30 d_Idx).Name)), .bool ((s_l24Letters ((p_0.Idxs.getD k30 d_Idx).Name) 1)), .bool (!(s_l24Letters ((p_0.Idxs.getD k30 d_Idx).Name) 1)), .bool (!(s_l24Letters ((p_0.Idxs.getD k30 d_Idx).Name) 1)), .pointer (some ⟨b92, 0 + 1, none⟩), .int .i64 ((p_0.Idxs.getD k30 d_Idx).Col), .pointer (some ⟨b7, 0 + 1, none⟩), .slice A1 p_0.Cols.length c1, .int .i64 ((p_0.Cols.length : Int)), .int .i64 (IntKind.wrap .i64 ((p_0.Cols.length : Int) - 1)), .bool ((s_l1In ((p_0.Idxs.getD k30 d_Idx).Col) 1 (IntKind.wrap .i64 ((p_0.Cols.length : Int) - 1)))), .bool (!(s_l1In ((p_0.Idxs.getD k30 d_Idx).Col) 1 (IntKind.wrap .i64 ((p_0.Cols.length : Int) - 1)))), .bool (!(s_l1In ((p_0.Idxs.getD k30 d_Idx).Col) 1 (IntKind.wrap .i64 ((p_0.Cols.length : Int) - 1)))), .bool (!(s_l1In ((p_0.Idxs.getD k30 d_Idx).Col) 1 (IntKind.wrap .i64 ((p_0.Cols.length : Int) - 1)))), .pointer (some ⟨b92, 0 + 2, none⟩), .int .i64 ((p_0.Idxs.getD k30 d_Idx).Stage), .bool ((s_l1In ((p_0.Idxs.getD k30 d_Idx).Stage) 0 3)), .bool (!(s_l1In ((p_0.Idxs.getD k30 d_Idx).Stage) 0 3)), .bool (!(s_l1In ((p_0.Idxs.getD k30 d_Idx).Stage) 0 3)), .bool (!(s_l1In ((p_0.Idxs.getD k30 d_Idx).Stage) 0 3)), .int .i64 ((k30 : Int)), .bool (decide (0 < (k30 : Int))), .bool (decide (0 < (k30 : Int))), undef, undef, undef, undef, undef, undef, undef, undef, undef, undef, .bool (false), .bool (false)] Tryz.follows rfl ?_ ?_
          ·refine ⟨oI rfl fun h => yl_fieldAddr fd111_0 rfl (h.g 4 rfl) kI, oI rfl fun h => yl_load1 ty9 rfl (h.g 29 rfl) (((Box.ex hB99 h.ex).cell 0).trans rfl) kI, ?_, oI rfl fun h => yl_not rfl (h.g 31 rfl) kI, oI rfl fun h => yM rfl (h.g 32 rfl) kI, oW rfl rfl rfl rfl (not_t hb102) fun h => yl_fieldAddr fd111_1 rfl (h.g 4 rfl) kI, oW rfl rfl rfl rfl (not_t hb102) fun h => yl_load1 ty3 rfl (h.g 34 rfl) (((Box.ex hB99 h.ex).cell 1).trans rfl) kI, oW rfl rfl rfl rfl (not_t hb102) fun h => yl_fieldAddr fd39_1 rfl (h.g 1 rfl) kI, oW rfl rfl rfl rfl (not_t hb102) fun h => yl_load1 ty22 rfl (h.g 36 rfl) (((Box.ex q386 h.ex).cell 1).trans rfl) kI, oW rfl rfl rfl rfl (not_t hb102) fun h => yL un22 rfl (h.g 37 rfl) kI, oW rfl rfl rfl rfl (not_t hb102) fun h => yl_sub rfl (h.g 38 rfl) rfl kI, ?_, oW rfl rfl rfl rfl (not_t hb102) fun h => yl_not rfl (h.g 40 rfl) kI, oI rfl fun h => yl_pick_f rfl (h.g 33 rfl) (not_t hb102) (h.g 41 rfl) kI, oI rfl fun h => yM rfl (h.g 42 rfl) kI, oW rfl rfl rfl rfl (not_t hb107) fun h => yl_fieldAddr fd111_2 rfl (h.g 4 rfl) kI, oW rfl rfl rfl rfl (not_t hb107) fun h => yl_load1 ty3 rfl (h.g 44 rfl) (((Box.ex hB99 h.ex).cell 2).trans rfl) kI, ?_, oW rfl rfl rfl rfl (not_t hb107) fun h => yl_not rfl (h.g 46 rfl) kI, oI rfl fun h => yl_pick_f rfl (h.g 43 rfl) (not_t hb107) (h.g 47 rfl) kI, oI rfl fun h => yM rfl (h.g 48 rfl) kI, oW rfl rfl rfl rfl (not_t hb113) fun h => yM rfl (h.g 3 rfl) kI, oW rfl rfl rfl rfl (not_t hb113) fun h => yl_gtr rfl (h.g 50 rfl) rfl kI, oW rfl rfl rfl rfl (not_t hb113) fun h => yM rfl (h.g 51 rfl) kI, oS rfl rfl rfl rfl rfl hb119, oS rfl rfl rfl rfl rfl hb119, oS rfl rfl rfl rfl rfl hb119, oS rfl rfl rfl rfl rfl hb119, oS rfl rfl rfl rfl rfl hb119, oS rfl rfl rfl rfl rfl hb119, oS rfl rfl rfl rfl rfl hb119, oS rfl rfl rfl rfl rfl hb119, oS rfl rfl rfl rfl rfl hb119, oS rfl rfl rfl rfl rfl hb119, oW rfl rfl rfl rfl (not_t hb113) fun h => yl_pick_f rfl (h.g 52 rfl) hb119 rfl kI, oI rfl fun h => yl_pick_f rfl (h.g 49 rfl) (not_t hb113) (h.g 63 rfl) kI, trivial⟩
           ·intro L400 w401 hi402
            exact OpR.op' rfl (yC en107 rfl (oc (hi402.g 30 rfl) (oc rfl oz)) (Cal.mono (c_s_l24Letters ((p_0.Idxs.getD k30 d_Idx).Name) 1 (okL.getD o3.2.2 ok_d_Idx _)) fun _ _ h => h))
           ·intro L456 w457 hi458
            exact OpR.want rfl rfl (hi458.g 33 rfl) (not_t hb102) (yC en91 rfl (oc (hi458.g 35 rfl) (oc rfl (oc (hi458.g 39 rfl) oz))) (Cal.mono (c_s_l1In ((p_0.Idxs.getD k30 d_Idx).Col) 1 (IntKind.wrap .i64 ((p_0.Cols.length : Int) - 1))) fun _ _ h => h))
           ·intro L496 w497 hi498
            exact OpR.want rfl rfl (hi498.g 43 rfl) (not_t hb107) (yC en91 rfl (oc (hi498.g 45 rfl) (oc rfl (oc rfl oz))) (Cal.mono (c_s_l1In ((p_0.Idxs.getD k30 d_Idx).Stage) 0 3) fun _ _ h => h))
          ·intro fl606 fh607 L603 w604 hp605
           have hE608 := hp605.ex
           have hE608z := Ex.size hE608
           refine dn (CW.sub (hp605.ss [1, 22, 23, 24, 64] rfl) (CW.cond_f rfl rfl (CW.skip (bn (tn (CW.region (sd rfl (yl_inc rfl rfl rfl oM ?_))))))))
           refine sM rfl (dn ?_)
           have hB614 : B_s_GoodTable_0 p_0 k30 () = .cont () := by simp only [B_s_GoodTable_0, hb16, hb23, hb25, hb102, hb107, hb113, hb119, cL]
           exact ⟨p_0.Idxs.length - (k30 + 1), oM, k30 + 1, rfl, hlt90, oM, (sR rfl), (Box.ex q386 hE608), (RdS.ex gS (RdS.only gS (RdS.ex gS hf86 hE97) hO100 iV) hE608), (RdS.ex gI (RdS.only gI (RdS.ex gI hf87 hE97) hO100 iV) hE608), (Ex.trans (Below.only (Ex.trans hf88 hE97) hO100 oM) hE608), (loopM.cont hlt90 hB614).symm.trans hI82⟩
        ·refine drJ 36 [.pointer (some ⟨b92, 0 + 0, none⟩), .string (bs ((p_0.Idxs.getD k30 d_Idx).Name)), .bool ((s_l24Letters ((p_0.Idxs.getD k30 d_Idx).Name) 1)), .bool (!(s_l24Letters ((p_0.Idxs.getD k30 d_Idx).Name) 1)), .bool (!(s_l24Letters ((p_0.Idxs.getD k30 d_Idx).Name) 1)), .pointer (some ⟨b92, 0 + 1, none⟩), .int .i64 ((p_0.Idxs.getD k30 d_Idx).Col), .pointer (some ⟨b7, 0 + 1, none⟩), .slice A1 p_0.Cols.length c1, .int .i64 ((p_0.Cols.length : Int)), .int .i64 (IntKind.wrap .i64 ((p_0.Cols.length : Int) - 1)), .bool ((s_l1In ((p_0.Idxs.getD k30 d_Idx).Col) 1 (IntKind.wrap .i64 ((p_0.Cols.length : Int) - 1)))), .bool (!(s_l1In ((p_0.Idxs.getD k30 d_Idx).Col) 1 (IntKind.wrap .i64 ((p_0.Cols.length : Int) - 1)))), .bool (!(s_l1In ((p_0.Idxs.getD k30 d_Idx).Col) 1 (IntKind.wrap .i64 ((p_0.Cols.length : Int) - 1)))), .bool (!(s_l1In ((p_0.Idxs.getD k30 d_Idx).Col) 1 (IntKind.wrap .i64 ((p_0.Cols.length : Int) - 1)))), .pointer (some ⟨b92, 0 + 2, none⟩), .int .i64 ((p_0.Idxs.getD k30 d_Idx).Stage), .bool ((s_l1In ((p_0.Idxs.getD k30 d_Idx).Stage) 0 3)), .bool (!(s_l1In ((p_0.Idxs.getD k30 d_Idx).Stage) 0 3)), .bool (!(s_l1In ((p_0.Idxs.getD k30 d_Idx).Stage) 0 3)), .bool (!(s_l1In ((p_0.Idxs.getD k30 d_Idx).Stage) 0 3)), undef, undef, undef, undef, undef, undef, undef, undef, undef, undef, undef, undef, undef, undef, .bool (true)] Tryz.follows rfl ?_ ?_
         ·refine ⟨oI rfl fun h => yl_fieldAddr fd111_0 rfl (h.g 4 rfl) kI, oI rfl fun h => yl_load1 ty9 rfl (h.g 29 rfl) (((Box.ex hB99 h.ex).cell 0).trans rfl) kI, ?_, oI rfl fun h => yl_not rfl (h.g 31 rfl) kI, oI rfl fun h => yM rfl (h.g 32 rfl) kI, oW rfl rfl rfl rfl (not_t hb102) fun h => yl_fieldAddr fd111_1 rfl (h.g 4 rfl) kI, oW rfl rfl rfl rfl (not_t hb102) fun h => yl_load1 ty3 rfl (h.g 34 rfl) (((Box.ex hB99 h.ex).cell 1).trans rfl) kI, oW rfl rfl rfl rfl (not_t hb102) fun h => yl_fieldAddr fd39_1 rfl (h.g 1 rfl) kI, ?_, oW rfl rfl rfl rfl (not_t hb102) fun h => yL un22 rfl (h.g 37 rfl) kI, oW rfl rfl rfl rfl (not_t hb102) fun h => yl_sub rfl (h.g 38 rfl) rfl kI, ?_, oW rfl rfl rfl rfl (not_t hb102) fun h => yl_not rfl (h.g 40 rfl) kI, oI rfl fun h => yl_pick_f rfl (h.g 33 rfl) (not_t hb102) (h.g 41 rfl) kI, oI rfl fun h => yM rfl (h.g 42 rfl) kI, oW rfl rfl rfl rfl (not_t hb107) fun h => yl_fieldAddr fd111_2 rfl (h.g 4 rfl) kI, oW rfl rfl rfl rfl (not_t hb107) fun h => yl_load1 ty3 rfl (h.g 44 rfl) (((Box.ex hB99 h.ex).cell 2).trans rfl) kI, ?_, oW rfl rfl rfl rfl (not_t hb107) fun h => yl_not rfl (h.g 46 rfl) kI, oI rfl fun h => yl_pick_f rfl (h.g 43 rfl) (not_t hb107) (h.g 47 rfl) kI, oI rfl fun h => yM rfl (h.g 48 rfl) kI, oS rfl rfl rfl rfl rfl (not_f hb113), oS rfl rfl rfl rfl rfl (not_f hb113), oS rfl rfl rfl rfl rfl (not_f hb113), oU rfl rfl rfl rfl rfl, oU rfl rfl rfl rfl rfl, oU rfl rfl rfl rfl rfl, oU rfl rfl rfl rfl rfl, oU rfl rfl rfl rfl rfl, oU rfl rfl rfl rfl rfl, oU rfl rfl rfl rfl rfl, oU rfl rfl rfl rfl rfl, oU rfl rfl rfl rfl rfl, oU rfl rfl rfl rfl rfl, oS rfl rfl rfl rfl rfl (not_f hb113), oI rfl fun h => yl_pick_t rfl (h.g 49 rfl) (not_f hb113) rfl kI, trivial⟩
          ·intro L641 w642 hi643
           exact OpR.op' rfl (yC en107 rfl (oc (hi643.g 30 rfl) (oc rfl oz)) (Cal.mono (c_s_l24Letters ((p_0.Idxs.getD k30 d_Idx).Name) 1 (okL.getD o3.2.2 ok_d_Idx _)) fun _ _ h => h))
          ·intro L678 w679 hi680
           have hE681 := hi680.ex
           have hE681z := Ex.size hE681
           exact OpR.want rfl rfl (hi680.g 33 rfl) (not_t hb102) (Yl.sameI (yl_load1 ty22 rfl (hi680.g 36 rfl) (((Box.ex (Box.only (Box.ex hf85 hE97) hO100 oM) hE681).cell 1).trans rfl) kI))
          ·intro L697 w698 hi699
           exact OpR.want rfl rfl (hi699.g 33 rfl) (not_t hb102) (yC en91 rfl (oc (hi699.g 35 rfl) (oc rfl (oc (hi699.g 39 rfl) oz))) (Cal.mono (c_s_l1In ((p_0.Idxs.getD k30 d_Idx).Col) 1 (IntKind.wrap .i64 ((p_0.Cols.length : Int) - 1))) fun _ _ h => h))
          ·intro L737 w738 hi739
           exact OpR.want rfl rfl (hi739.g 43 rfl) (not_t hb107) (yC en91 rfl (oc (hi739.g 45 rfl) (oc rfl (oc rfl oz))) (Cal.mono (c_s_l1In ((p_0.Idxs.getD k30 d_Idx).Stage) 0 3) fun _ _ h => h))
         ·intro fl842 fh843 L839 w840 hp841
          have hE844 := hp841.ex
          have hE844z := Ex.size hE844
          refine dn (CW.sub (hp841.ss [1, 22, 23, 24, 64] rfl) (CW.cond_t rfl rfl (cR (sA rfl (dn ?_)))))
          refine CW.ret (br (tr (tr ?_)))
          have hB851 : B_s_GoodTable_0 p_0 k30 () = .ret false := by simp only [B_s_GoodTable_0, hb16, hb23, hb25, hb102, hb107, hb113, cL]
          have hL850 : loopM (B_s_GoodTable_0 p_0) (p_0.Idxs.length - 0) 0 () = .ret false := hI82.symm.trans (loopM.ret hlt90 hB851)
          refine br (tr (rr rfl (.cons rfl .nil) ?_))
          rw [show (s_GoodTable p_0) = (false) by simp only [s_GoodTable, hb16, hb23, hb25, hb102, hb107, hb113, hL850, cL]]
          exact ⟨rfl, (Ex.trans (Below.only (Ex.trans hf88 hE97) hO100 oM) hE844)⟩
       ·refine drJ 36 [.pointer (some ⟨b92, 0 + 0, none⟩), .string (bs ((p_0.Idxs.getD k30 d_Idx).Name)), .bool ((s_l24Letters ((p_0.Idxs.getD k30 d_Idx).Name) 1)), .bool (!(s_l24Letters ((p_0.Idxs.getD k30 d_Idx).Name) 1)), .bool (!(s_l24Letters ((p_0.Idxs.getD k30 d_Idx).Name) 1)), .pointer (some ⟨b92, 0 + 1, none⟩), .int .i64 ((p_0.Idxs.getD k30 d_Idx).Col), .pointer (some ⟨b7, 0 + 1, none⟩), .slice A1 p_0.Cols.length c1, .int .i64 ((p_0.Cols.length : Int)), .int .i64 (IntKind.wrap .i64 ((p_0.Cols.length : Int) - 1)), .bool ((s_l1In ((p_0.Idxs.getD k30 d_Idx).Col) 1 (IntKind.wrap .i64 ((p_0.Cols.length : Int) - 1)))), .bool (!(s_l1In ((p_0.Idxs.getD k30 d_Idx).Col) 1 (IntKind.wrap .i64 ((p_0.Cols.length : Int) - 1)))), .bool (!(s_l1In ((p_0.Idxs.getD k30 d_Idx).Col) 1 (IntKind.wrap .i64 ((p_0.Cols.length : Int) - 1)))), .bool (!(s_l1In ((p_0.Idxs.getD k30 d_Idx).Col) 1 (IntKind.wrap .i64 ((p_0.Cols.length : Int) - 1)))), undef, undef, undef, undef, .bool (true), .bool (true), undef, undef, undef, undef, undef, undef, undef, undef, undef, undef, undef, undef, undef, undef, .bool (true)] Tryz.follows rfl ?_ ?_
        ·refine ⟨oI rfl fun h => yl_fieldAddr fd111_0 rfl (h.g 4 rfl) kI, oI rfl fun h => yl_load1 ty9 rfl (h.g 29 rfl) (((Box.ex hB99 h.ex).cell 0).trans rfl) kI, ?_, oI rfl fun h => yl_not rfl (h.g 31 rfl) kI, oI rfl fun h => yM rfl (h.g 32 rfl) kI, oW rfl rfl rfl rfl (not_t hb102) fun h => yl_fieldAddr fd111_1 rfl (h.g 4 rfl) kI, oW rfl rfl rfl rfl (not_t hb102) fun h => yl_load1 ty3 rfl (h.g 34 rfl) (((Box.ex hB99 h.ex).cell 1).trans rfl) kI, oW rfl rfl rfl rfl (not_t hb102) fun h => yl_fieldAddr fd39_1 rfl (h.g 1 rfl) kI, ?_, oW rfl rfl rfl rfl (not_t hb102) fun h => yL un22 rfl (h.g 37 rfl) kI, oW rfl rfl rfl rfl (not_t hb102) fun h => yl_sub rfl (h.g 38 rfl) rfl kI, ?_, oW rfl rfl rfl rfl (not_t hb102) fun h => yl_not rfl (h.g 40 rfl) kI, oI rfl fun h => yl_pick_f rfl (h.g 33 rfl) (not_t hb102) (h.g 41 rfl) kI, oI rfl fun h => yM rfl (h.g 42 rfl) kI, oS rfl rfl rfl rfl rfl (not_f hb107), oS rfl rfl rfl rfl rfl (not_f hb107), oS rfl rfl rfl rfl rfl (not_f hb107), oS rfl rfl rfl rfl rfl (not_f hb107), oI rfl fun h => yl_pick_t rfl (h.g 43 rfl) (not_f hb107) rfl kI, oI rfl fun h => yM rfl (h.g 48 rfl) kI, oS rfl rfl rfl rfl rfl rfl, oS rfl rfl rfl rfl rfl rfl, oS rfl rfl rfl rfl rfl rfl, oU rfl rfl rfl rfl rfl, oU rfl rfl rfl rfl rfl, oU rfl rfl rfl rfl rfl, oU rfl rfl rfl rfl rfl, oU rfl rfl rfl rfl rfl, oU rfl rfl rfl rfl rfl, oU rfl rfl rfl rfl rfl, oU rfl rfl rfl rfl rfl, oU rfl rfl rfl rfl rfl, oU rfl rfl rfl rfl rfl, oS rfl rfl rfl rfl rfl rfl, oI rfl fun h => yl_pick_t rfl (h.g 49 rfl) rfl rfl kI, trivial⟩
         ·intro L871 w872 hi873
          exact OpR.op' rfl (yC en107 rfl (oc (hi873.g 30 rfl) (oc rfl oz)) (Cal.mono (c_s_l24Letters ((p_0.Idxs.getD k30 d_Idx).Name) 1 (okL.getD o3.2.2 ok_d_Idx _)) fun _ _ h => h))
         ·intro L908 w909 hi910
          have hE911 := hi910.ex
          have hE911z := Ex.size hE911
          exact OpR.want rfl rfl (hi910.g 33 rfl) (not_t hb102) (Yl.sameI (yl_load1 ty22 rfl (hi910.g 36 rfl) (((Box.ex (Box.only (Box.ex hf85 hE97) hO100 oM) hE911).cell 1).trans rfl) kI))
         ·intro L927 w928 hi929
          exact OpR.want rfl rfl (hi929.g 33 rfl) (not_t hb102) (yC en91 rfl (oc (hi929.g 35 rfl) (oc rfl (oc (hi929.g 39 rfl) oz))) (Cal.mono (c_s_l1In ((p_0.Idxs.getD k30 d_Idx).Col) 1 (IntKind.wrap .i64 ((p_0.Cols.length : Int) - 1))) fun _ _ h => h))
        ·intro fl1064 fh1065 L1061 w1062 hp1063
         have hE1066 := hp1063.ex
         have hE1066z := Ex.size hE1066
         refine dn (CW.sub (hp1063.ss [1, 22, 23, 24, 64] rfl) (CW.cond_t rfl rfl (cR (sA rfl (dn ?_)))))
         refine CW.ret (br (tr (tr ?_)))
         have hB1073 : B_s_GoodTable_0 p_0 k30 () = .ret false := by simp only [B_s_GoodTable_0, hb16, hb23, hb25, hb102, hb107, cL]
         have hL1072 : loopM (B_s_GoodTable_0 p_0) (p_0.Idxs.length - 0) 0 () = .ret false := hI82.symm.trans (loopM.ret hlt90 hB1073)
         refine br (tr (rr rfl (.cons rfl .nil) ?_))
         rw [show (s_GoodTable p_0) = (false) by simp only [s_GoodTable, hb16, hb23, hb25, hb102, hb107, hL1072, cL]]
         exact ⟨rfl, (Ex.trans (Below.only (Ex.trans hf88 hE97) hO100 oM) hE1066)⟩
      ·refine drJ 36 [.pointer (some ⟨b92, 0 + 0, none⟩), .string (bs ((p_0.Idxs.getD k30 d_Idx).Name)), .bool ((s_l24Letters ((p_0.Idxs.getD k30 d_Idx).Name) 1)), .bool (!(s_l24Letters ((p_0.Idxs.getD k30 d_Idx).Name) 1)), .bool (!(s_l24Letters ((p_0.Idxs.getD k30 d_Idx).Name) 1)), undef, undef, undef, undef, undef, undef, undef, undef, .bool (true), .bool (true), undef, undef, undef, undef, .bool (true), .bool (true), undef, undef, undef, undef, undef, undef, undef, undef, undef, undef, undef, undef, undef, undef, .bool (true)] Tryz.follows rfl ?_ ?_
       ·refine ⟨oI rfl fun h => yl_fieldAddr fd111_0 rfl (h.g 4 rfl) kI, oI rfl fun h => yl_load1 ty9 rfl (h.g 29 rfl) (((Box.ex hB99 h.ex).cell 0).trans rfl) kI, ?_, oI rfl fun h => yl_not rfl (h.g 31 rfl) kI, oI rfl fun h => yM rfl (h.g 32 rfl) kI, oS rfl rfl rfl rfl rfl (not_f hb102), oS rfl rfl rfl rfl rfl (not_f hb102), oS rfl rfl rfl rfl rfl (not_f hb102), oS rfl rfl rfl rfl rfl (not_f hb102), oS rfl rfl rfl rfl rfl (not_f hb102), oS rfl rfl rfl rfl rfl (not_f hb102), oS rfl rfl rfl rfl rfl (not_f hb102), oS rfl rfl rfl rfl rfl (not_f hb102), oI rfl fun h => yl_pick_t rfl (h.g 33 rfl) (not_f hb102) rfl kI, oI rfl fun h => yM rfl (h.g 42 rfl) kI, oS rfl rfl rfl rfl rfl rfl, oS rfl rfl rfl rfl rfl rfl, oS rfl rfl rfl rfl rfl rfl, oS rfl rfl rfl rfl rfl rfl, oI rfl fun h => yl_pick_t rfl (h.g 43 rfl) rfl rfl kI, oI rfl fun h => yM rfl (h.g 48 rfl) kI, oS rfl rfl rfl rfl rfl rfl, oS rfl rfl rfl rfl rfl rfl, oS rfl rfl rfl rfl rfl rfl, oU rfl rfl rfl rfl rfl, oU rfl rfl rfl rfl rfl, oU rfl rfl rfl rfl rfl, oU rfl rfl rfl rfl rfl, oU rfl rfl rfl rfl rfl, oU rfl rfl rfl rfl rfl, oU rfl rfl rfl rfl rfl, oU rfl rfl rfl rfl rfl, oU rfl rfl rfl rfl rfl, oU rfl rfl rfl rfl rfl, oS rfl rfl rfl rfl rfl rfl, oI rfl fun h => yl_pick_t rfl (h.g 49 rfl) rfl rfl kI, trivial⟩
        ·intro L1090 w1091 hi1092
         exact OpR.op' rfl (yC en107 rfl (oc (hi1092.g 30 rfl) (oc rfl oz)) (Cal.mono (c_s_l24Letters ((p_0.Idxs.getD k30 d_Idx).Name) 1 (okL.getD o3.2.2 ok_d_Idx _)) fun _ _ h => h))
       ·intro fl1269 fh1270 L1266 w1267 hp1268
        have hE1271 := hp1268.ex
        have hE1271z := Ex.size hE1271
        refine dn (CW.sub (hp1268.ss [1, 22, 23, 24, 64] rfl) (CW.cond_t rfl rfl (cR (sA rfl (dn ?_)))))
        refine CW.ret (br (tr (tr ?_)))
        have hB1278 : B_s_GoodTable_0 p_0 k30 () = .ret false := by simp only [B_s_GoodTable_0, hb16, hb23, hb25, hb102, cL]
        have hL1277 : loopM (B_s_GoodTable_0 p_0) (p_0.Idxs.length - 0) 0 () = .ret false := hI82.symm.trans (loopM.ret hlt90 hB1278)
        refine br (tr (rr rfl (.cons rfl .nil) ?_))
        rw [show (s_GoodTable p_0) = (false) by simp only [s_GoodTable, hb16, hb23, hb25, hb102, hL1277, cL]]
        exact ⟨rfl, (Ex.trans (Below.only (Ex.trans hf88 hE97) hO100 oM) hE1271)⟩
     ·refine cR (sd rfl (yl_lss rfl rfl rfl (dn (CW.seq (CW.cond_f rfl (lt_f hlt90) (CW.exit (tx ?_)))))))
      refine tx ?_
      have hL1283 : loopM (B_s_GoodTable_0 p_0) (p_0.Idxs.length - 0) 0 () = .done () := hI82.symm.trans (loopM.stop hlt90)
      refine bx (tn (cR (sA rfl (dn (CW.ret (rr rfl (.cons rfl .nil) ?_))))))
      rw [show (s_GoodTable p_0) = (true) by simp only [s_GoodTable, hb16, hb23, hb25, hL1283, cL]]
      exact ⟨rfl, hf88⟩
  ·refine sz rfl rfl (not_f hb23) (sz rfl rfl (not_f hb23) (sz rfl rfl (not_f hb23) (sz rfl rfl (not_f hb23) (sd rfl (yl_pick_t rfl rfl (not_f hb23) rfl (dn (CW.cond_t rfl rfl (CW.seq ?_))))))))
   refine CW.region (sA rfl (dn (CW.ret (tr (rr rfl (.cons rfl .nil) ?_)))))
   rw [show (s_GoodTable p_0) = (false) by simp only [s_GoodTable, hb16, hb23, cL]]
   exact ⟨rfl, (Ex.trans (Ex.trans (Ex.trans (Ex.refl w) hE12) hE15) hE22)⟩
 ·refine sz rfl rfl (not_f hb16) (sz rfl rfl (not_f hb16) (sz rfl rfl (not_f hb16) (sz rfl rfl (not_f hb16) (sd rfl (yl_pick_t rfl rfl (not_f hb16) rfl (sM rfl (sz rfl rfl rfl (sz rfl rfl rfl (sz rfl rfl rfl ?_)))))))))
  refine sz rfl rfl rfl (sd rfl (yl_pick_t rfl rfl rfl rfl (dn (CW.cond_t rfl rfl (cR (sA rfl (SeqR.done ?_)))))))
  refine tn (CW.ret (tr (rr rfl (.cons rfl .nil) ?_)))
  rw [show (s_GoodTable p_0) = (false) by simp only [s_GoodTable, hb16, cL]]
  exact ⟨rfl, (Ex.trans (Ex.trans (Ex.refl w) hE12) hE15)⟩
theorem c_s_l24Idx {A1 : Option Addr} {c1 : Nat} {A2 : Option Addr} {c2 : Nat} {w : World} (p_t : DTable) (pn : Str) (h1 : RdS w (Iv 0 w.heap.size) (RF e_Str) 1 A1 p_t.Cols.length c1 p_t.Cols) (h2 : RdS w (Iv 0 w.heap.size) (RF e_Idx) 3 A2 p_t.Idxs.length c2 p_t.Idxs) (o3 : ok_Table p_t) (o4 : okS pn) : Cal Tryz.prog 89 #[.agg #[.string (bs (p_t.Name)), .slice A1 p_t.Cols.length c1, .slice A2 p_t.Idxs.length c2], .string (bs (pn))] w fun v w' => v = .int .i64 ((s_l24Idx p_t pn)) ∧ Ex w w' := by
 have hol5 : p_t.Name.length ≤ 1073741824 := o3.1
 have hol6 := o3.2.1.1
 have hol7 := o3.2.2.1
 have hol8 : pn.length ≤ 1073741824 := o4
 refine Cal.of func89 rfl ntmps89 rfl (cR (sd rfl (yl_box rfl rfl rfl ?_)))
 intro b9 w10 hs11 hz12 hB13 hE14
 refine sA rfl (dn (CW.seq (cR (sd rfl (yl_fieldAddr fd39_2 rfl rfl (sd rfl (yl_load1 ty37 rfl rfl ((hB13.cell 2).trans rfl) (sd rfl (yL un37 rfl rfl ?_)))))))))
 refine sM rfl (dn (CW.block (CW.loop (fun m27 L28 w29 => ∃ (k15 : Nat), m27 = p_t.Idxs.length - k15 ∧ k15 ≤ p_t.Idxs.length ∧ w10.heap.size ≤ w29.heap.size ∧ Sub [(1, .string (bs (pn))), (8, .slice A2 p_t.Idxs.length c2), (9, .int .i64 ((p_t.Idxs.length : Int))), (10, .int .i64 ((k15 : Int)))] L28 ∧ RdS w29 (Iv 0 w.heap.size) (RF e_Idx) 3 A2 p_t.Idxs.length c2 p_t.Idxs ∧ Ex w w29 ∧ loopM (B_s_l24Idx_0 p_t pn) (p_t.Idxs.length - k15) k15 () = loopM (B_s_l24Idx_0 p_t pn) (p_t.Idxs.length - 0) 0 ()) (p_t.Idxs.length - 0) ?_ ?_)))
 ·exact ⟨0, rfl, oM, Nat.le_refl _, (sR rfl), (RdS.ex gI h2 hE14), (Ex.trans (Ex.refl w) hE14), rfl⟩
 ·rintro m32 L33 w34 ⟨k15, rfl, hk35, hsz37, hl38, hf39, hf40, hI36⟩
  refine CW.sub hl38 ?_
  have hf40z := Ex.size hf40
  have hbg41 := RdS.big hf39
  rcases Nat.lt_or_ge k15 p_t.Idxs.length with hlt42 | hlt42
  ·refine cR (sd rfl (yl_lss rfl rfl rfl (dn (CW.seq (CW.cond_t rfl (lt_t hlt42) (CW.skip (tn ?_)))))))
   refine CW.seq (CW.block (cR (sM rfl ?_)))
   obtain ⟨_, _, _, eA43, _, ebl43, _, eR43, eC43⟩ := RdS.aD hf39 d_Idx (i := k15)
   obtain rfl := eR43
   refine sd rfl (yl_ixN un37 ty111 rfl rfl rfl eA43 (sd rfl (yl_loadN ty111 rfl rfl eC43 rfl (sd rfl (yB ty111 (cs := [.string (bs (([] : Str))), .int .i64 (0), .int .i64 (0)]) rfl rfl ?_)))))
   intro b44 w45 hs46 hz47 hB48 hE49
   refine sA rfl (SeqR.u rfl rfl (yl_storeA (vs := [.string (bs ((p_t.Idxs.getD k15 d_Idx).Name)), .int .i64 ((p_t.Idxs.getD k15 d_Idx).Col), .int .i64 ((p_t.Idxs.getD k15 d_Idx).Stage)]) ty111 rfl rfl rfl rfl rfl rfl hB48 rfl ?_))
   intro w50 hB51 hO52
   have hO52z := hO52.size
   refine dn (cR (sd rfl (yl_fieldAddr fd111_0 rfl rfl (sd rfl (yl_load1 ty9 rfl rfl ((hB51.cell 0).trans rfl) (sM rfl (sd rfl (yl_seql (a := ((p_t.Idxs.getD k15 d_Idx).Name)) (b := pn) rfl rfl rfl (SeqR.done ?_)))))))))
   refine tn (bcase (((p_t.Idxs.getD k15 d_Idx).Name) == pn) (fun hb53 => ?_) (fun hb53 => ?_))
   ·refine CW.cond_t rfl hb53 (cR (sM rfl (sA rfl (dn (CW.ret (br ?_))))))
    refine tr (tr ?_)
    have hB55 : B_s_l24Idx_0 p_t pn k15 () = .ret (k15 : Int) := by simp only [B_s_l24Idx_0, hb53, cL]
    have hL54 : loopM (B_s_l24Idx_0 p_t pn) (p_t.Idxs.length - 0) 0 () = .ret (k15 : Int) := hI36.symm.trans (loopM.ret hlt42 hB55)
    refine br (tr (rr rfl (.cons rfl .nil) ?_))
    rw [show (s_l24Idx p_t pn) = ((k15 : Int)) by simp only [s_l24Idx, hb53, hL54, cL]]
    exact ⟨rfl, (Below.only (Ex.trans hf40 hE49) hO52 oM)⟩
   ·refine CW.cond_f rfl hb53 (CW.skip (bn (tn (CW.region (sd rfl (yl_inc rfl rfl rfl oM (sM rfl (dn ?_))))))))
    have hB59 : B_s_l24Idx_0 p_t pn k15 () = .cont () := by simp only [B_s_l24Idx_0, hb53, cL]
    exact ⟨p_t.Idxs.length - (k15 + 1), oM, k15 + 1, rfl, hlt42, oM, (sR rfl), (RdS.only gI (RdS.ex gI hf39 hE49) hO52 iV), (Below.only (Ex.trans hf40 hE49) hO52 oM), (loopM.cont hlt42 hB59).symm.trans hI36⟩
  ·refine cR (sd rfl (yl_lss rfl rfl rfl (dn (CW.seq (CW.cond_f rfl (lt_f hlt42) (CW.exit (tx ?_)))))))
   refine tx ?_
   have hL64 : loopM (B_s_l24Idx_0 p_t pn) (p_t.Idxs.length - 0) 0 () = .done () := hI36.symm.trans (loopM.stop hlt42)
   refine bx (tn (cR (sA rfl (dn (CW.ret (rr rfl (.cons rfl .nil) ?_))))))
   rw [show (s_l24Idx p_t pn) = (-1) by simp only [s_l24Idx, hL64, cL]]
   exact ⟨rfl, hf40⟩
theorem c_s_l25Asked {A1 : Option Addr} {c1 : Nat} {A2 : Option Addr} {c2 : Nat} {A5 : Option Addr} {c5 : Nat} {w : World} (p_t : DTable) (pn : Str) (ps : List DWrite) (h1 : RdS w (Iv 0 w.heap.size) (RF e_Str) 1 A1 p_t.Cols.length c1 p_t.Cols) (h2 : RdS w (Iv 0 w.heap.size) (RF e_Idx) 3 A2 p_t.Idxs.length c2 p_t.Idxs) (h5 : RdS w (Iv 0 w.heap.size) (RF e_Write) 3 A5 ps.length c5 ps) (o3 : ok_Table p_t) (o4 : okS pn) (o6 : (okL ok_Write) ps) : Cal Tryz.prog 56 #[.agg #[.string (bs (p_t.Name)), .slice A1 p_t.Cols.length c1, .slice A2 p_t.Idxs.length c2], .string (bs (pn)), .slice A5 ps.length c5] w fun v w' => v = .bool ((s_l25Asked p_t pn ps)) ∧ Ex w w' := by
 refine Cal.of func56 rfl ntmps56 rfl (cR (sd rfl (yl_box rfl rfl rfl ?_)))
 intro b12 w13 hs14 hz15 hB16 hE17
 refine sA rfl (dn (cR (sd rfl (yl_loadN ty39 rfl rfl (hB16.cells (n := 3) rfl) rfl ?_))))
 have q18 := RdS.ex gS h1 hE17
 have q19 := RdS.ex gI h2 hE17
 refine sd rfl (yC en65 rfl (oc rfl oz) (Cal.mono (c_s_GoodTable p_t (RdS.up q18 gS) (RdS.up q19 gI) o3) ?_))
 rintro v21 w20 ⟨rfl, hE22⟩
 refine sM rfl (bcase (s_GoodTable p_t) (fun hb23 => ?_) (fun hb23 => ?_))
 ·have hb23p := f_s_GoodTable hb23
  refine sy rfl rfl hb23 (yl_loadN ty39 rfl rfl ((Box.ex hB16 hE22).cells (n := 3) rfl) rfl (sy rfl rfl hb23 (yM rfl rfl (sy rfl rfl hb23 (yC en89 rfl (oc rfl (oc rfl oz)) (Cal.mono (c_s_l24Idx p_t pn (RdS.up (RdS.ex gS q18 hE22) gS) (RdS.up (RdS.ex gI q19 hE22) gI) o3 o4) ?_))))))
  rintro v28 w27 ⟨rfl, hE29⟩
  have hrf30 := rf_s_l24Idx p_t pn
  refine sy rfl rfl hb23 (yl_geq rfl rfl rfl (sd rfl (yl_pick_t rfl rfl hb23 rfl (sM rfl (bcD (q := 0 ≤ (s_l24Idx p_t pn)) (fun hb31 hb31p => ?_) (fun hb31 hb31p => ?_))))))
  ·refine sy rfl rfl hb31 (yM rfl rfl (sy rfl rfl hb31 (yC en40 rfl (oc rfl oz) (Cal.mono (c_s_l5Rows ps (RdS.up (RdS.ex gW (RdS.ex gW (RdS.ex gW h5 hE17) hE22) hE29) gW) o6) ?_))))
   rintro v36 w35 ⟨rfl, hE37⟩
   refine sd rfl (yl_pick_t rfl rfl hb31 rfl (sA rfl (dn (CW.ret (rr rfl (.cons rfl .nil) ?_)))))
   rw [show (s_l25Asked p_t pn ps) = ((s_l5Rows ps)) by simp only [s_l25Asked, hb23, hb31, cL]]
   exact ⟨rfl, (Ex.trans (Ex.trans (Ex.trans (Ex.trans (Ex.refl w) hE17) hE22) hE29) hE37)⟩
  ·refine sz rfl rfl hb31 (sz rfl rfl hb31 (sd rfl (yl_pick_f rfl rfl hb31 rfl (sA rfl (dn (CW.ret (rr rfl (.cons rfl .nil) ?_)))))))
   rw [show (s_l25Asked p_t pn ps) = (false) by simp only [s_l25Asked, hb23, hb31, cL]]
   exact ⟨rfl, (Ex.trans (Ex.trans (Ex.trans (Ex.refl w) hE17) hE22) hE29)⟩
 ·refine sz rfl rfl hb23 (sz rfl rfl hb23 (sz rfl rfl hb23 (sz rfl rfl hb23 (sd rfl (yl_pick_f rfl rfl hb23 rfl (sM rfl (sz rfl rfl rfl (sz rfl rfl rfl (sd rfl (yl_pick_f rfl rfl rfl rfl ?_))))))))))
  refine sA rfl (dn (CW.ret (rr rfl (.cons rfl .nil) ?_)))
  rw [show (s_l25Asked p_t pn ps) = (false) by simp only [s_l25Asked, hb23, cL]]
  exact ⟨rfl, (Ex.trans (Ex.trans (Ex.refl w) hE17) hE22)⟩
theorem c_s_GoodFill {w : World} (p_f : DFill) (o1 : ok_Fill p_f) : Cal Tryz.prog 57 #[.agg #[.string (bs (p_f.Last)), .bool (p_f.Over)]] w fun v w' => v = .bool ((s_GoodFill p_f)) ∧ Ex w w' := by
 refine Cal.of func57 rfl ntmps57 rfl (cR (sd rfl (yl_box rfl rfl rfl ?_)))
 intro b3 w4 hs5 hz6 hB7 hE8
 refine sA rfl (dn (cR (sd rfl (yl_fieldAddr fd56_0 rfl rfl (sd rfl (yl_load1 ty9 rfl rfl ((hB7.cell 0).trans rfl) (sd rfl (yl_seql (a := p_f.Last) (b := ([] : Str)) rfl rfl rfl (sM rfl ?_)))))))))
 refine bcase (p_f.Last == ([] : Str)) (fun hb9 => ?_) (fun hb9 => ?_)
 ·refine sz rfl rfl hb9 (sz rfl rfl hb9 (sz rfl rfl hb9 (sd rfl (yl_pick_t rfl rfl hb9 rfl (sA rfl (dn (CW.ret (rr rfl (.cons rfl .nil) ?_))))))))
  rw [show (s_GoodFill p_f) = (true) by simp only [s_GoodFill, hb9, cL]]
  exact ⟨rfl, (Ex.trans (Ex.refl w) hE8)⟩
 ·refine sy rfl rfl hb9 (yl_fieldAddr fd56_0 rfl rfl (sy rfl rfl hb9 (yl_load1 ty9 rfl rfl ((hB7.cell 0).trans rfl) (sy rfl rfl hb9 (yC en90 rfl (oc rfl oz) (Cal.mono (c_s_l3Key p_f.Last o1) ?_))))))
  rintro v13 w12 ⟨rfl, hE14⟩
  refine sd rfl (yl_pick_f rfl rfl hb9 rfl (sA rfl (dn (CW.ret (rr rfl (.cons rfl .nil) ?_)))))
  rw [show (s_GoodFill p_f) = ((s_l3Key p_f.Last)) by simp only [s_GoodFill, hb9, cL]]
  exact ⟨rfl, (Ex.trans (Ex.trans (Ex.refl w) hE8) hE14)⟩
theorem c_s_l29Many {w : World} (p_n : Int) : Cal Tryz.prog 58 #[.int .i64 (p_n)] w fun v w' => v = .bool ((s_l29Many p_n)) ∧ Ex w w' := by
 refine Cal.of func58 rfl ntmps58 rfl (cR (sA rfl (dn (cR (sM rfl ?_)))))
 refine sd rfl (yC en91 rfl (oc rfl (oc rfl (oc rfl oz))) (Cal.mono (c_s_l1In p_n 1 24) ?_))
 rintro v2 w1 ⟨rfl, hE3⟩
 refine sA rfl (dn (CW.ret (rr rfl (.cons rfl .nil) ?_)))
 rw [show (s_l29Many p_n) = ((s_l1In p_n 1 24)) by simp only [s_l29Many, cL]]
 exact ⟨rfl, (Ex.trans (Ex.refl w) hE3)⟩
theorem c_s_l5Op {w : World} (p_o : DOp) (o1 : ok_Op p_o) : Cal Tryz.prog 169 #[.agg #[.int .i64 (p_o.Kind), .string (bs (p_o.Key)), .string (bs (p_o.Val)), .int .i64 (p_o.By)]] w fun v w' => v = .bool ((s_l5Op p_o)) ∧ Ex w w' := by
 refine Cal.of func169 rfl ntmps169 rfl (cR (sd rfl (yl_box rfl rfl rfl ?_)))
 intro b4 w5 hs6 hz7 hB8 hE9
 refine sA rfl (dn (CW.seq (cR (sd rfl (yl_fieldAddr fd122_1 rfl rfl (sd rfl (yl_load1 ty9 rfl rfl ((hB8.cell 1).trans rfl) (sd rfl (yC en90 rfl (oc rfl oz) (Cal.mono (c_s_l3Key p_o.Key o1.1) ?_))))))))))
 rintro v11 w10 ⟨rfl, hE12⟩
 refine sd rfl (yl_not rfl rfl (dn (bcase (s_l3Key p_o.Key) (fun hb13 => ?_) (fun hb13 => ?_))))
 ·refine CW.cond_f rfl (not_t hb13) (CW.skip (tn (CW.seq (cR (sd rfl (yl_fieldAddr fd122_0 rfl rfl ?_))))))
  have q14 := Box.ex hB8 hE12
  refine sd rfl (yl_load1 ty3 rfl rfl ((q14.cell 0).trans rfl) (dn (CW.block (CW.seq (cR (sd rfl (yl_eql rfl rfl rfl (sA rfl ?_))))))))
  refine dn (bcD (q := p_o.Kind = 2) (fun hb15 hb15p => ?_) (fun hb15 hb15p => ?_))
  ·refine CW.cond_t rfl hb15 (CW.skip (tn (CW.cond_t rfl hb15 (cR (sd rfl (yl_fieldAddr fd122_2 rfl rfl (sd rfl (yl_load1 ty9 rfl rfl ((q14.cell 2).trans rfl) (sd rfl (yC en168 rfl (oc rfl oz) (Cal.mono (c_s_l3Val p_o.Val o1.2) ?_)))))))))))
   rintro v17 w16 ⟨rfl, hE18⟩
   refine sM rfl (bcase (s_l3Val p_o.Val) (fun hb19 => ?_) (fun hb19 => ?_))
   ·refine sy rfl rfl hb19 (yl_fieldAddr fd122_3 rfl rfl (sy rfl rfl hb19 (yl_load1 ty3 rfl rfl (((Box.ex q14 hE18).cell 3).trans rfl) (sy rfl rfl hb19 (yl_eql rfl rfl rfl (sd rfl (yl_pick_t rfl rfl hb19 rfl (sA rfl (dn (CW.ret (br ?_)))))))))))
    refine tr (rr rfl (.cons rfl .nil) ?_)
    rw [show (s_l5Op p_o) = (decide (p_o.By = 0)) by simp only [s_l5Op, hb13, hb15, hb19, cL]]
    exact ⟨rfl, (Ex.trans (Ex.trans (Ex.trans (Ex.refl w) hE9) hE12) hE18)⟩
   ·refine sz rfl rfl hb19 (sz rfl rfl hb19 (sz rfl rfl hb19 (sd rfl (yl_pick_f rfl rfl hb19 rfl (sA rfl (dn (CW.ret (br ?_))))))))
    refine tr (rr rfl (.cons rfl .nil) ?_)
    rw [show (s_l5Op p_o) = (false) by simp only [s_l5Op, hb13, hb15, hb19, cL]]
    exact ⟨rfl, (Ex.trans (Ex.trans (Ex.trans (Ex.refl w) hE9) hE12) hE18)⟩
  ·refine CW.cond_f rfl hb15 (CW.region (sd rfl (yl_eql rfl rfl rfl (sA rfl (dn (bcD (q := p_o.Kind = 7) (fun hb29 hb29p => ?_) (fun hb29 hb29p => ?_)))))))
   ·refine CW.cond_t rfl hb29 (cR (sd rfl (yl_fieldAddr fd122_2 rfl rfl (sd rfl (yl_load1 ty9 rfl rfl ((q14.cell 2).trans rfl) (sd rfl (yC en168 rfl (oc rfl oz) (Cal.mono (c_s_l3Val p_o.Val o1.2) ?_))))))))
    rintro v31 w30 ⟨rfl, hE32⟩
    refine sM rfl (bcase (s_l3Val p_o.Val) (fun hb33 => ?_) (fun hb33 => ?_))
    ·refine sy rfl rfl hb33 (yl_fieldAddr fd122_3 rfl rfl (sy rfl rfl hb33 (yl_load1 ty3 rfl rfl (((Box.ex q14 hE32).cell 3).trans rfl) (sy rfl rfl hb33 (yl_eql rfl rfl rfl (sd rfl (yl_pick_t rfl rfl hb33 rfl (sA rfl (dn (CW.ret (br ?_)))))))))))
     refine tr (rr rfl (.cons rfl .nil) ?_)
     rw [show (s_l5Op p_o) = (decide (p_o.By = 0)) by simp only [s_l5Op, hb13, hb15, hb29, hb33, cL]]
     exact ⟨rfl, (Ex.trans (Ex.trans (Ex.trans (Ex.refl w) hE9) hE12) hE32)⟩
    ·refine sz rfl rfl hb33 (sz rfl rfl hb33 (sz rfl rfl hb33 (sd rfl (yl_pick_f rfl rfl hb33 rfl (sA rfl (dn (CW.ret (br ?_))))))))
     refine tr (rr rfl (.cons rfl .nil) ?_)
     rw [show (s_l5Op p_o) = (false) by simp only [s_l5Op, hb13, hb15, hb29, hb33, cL]]
     exact ⟨rfl, (Ex.trans (Ex.trans (Ex.trans (Ex.refl w) hE9) hE12) hE32)⟩
   ·refine CW.cond_f rfl hb29 (CW.seq (cR (sd rfl (yl_eql rfl rfl rfl (sA rfl (dn (bcD (q := p_o.Kind = 4) (fun hb43 hb43p => ?_) (fun hb43 hb43p => ?_))))))))
    ·refine CW.cond_t rfl hb43 (CW.skip (tn (CW.cond_t rfl hb43 (cR (sd rfl (yl_fieldAddr fd122_2 rfl rfl (sd rfl (yl_load1 ty9 rfl rfl ((q14.cell 2).trans rfl) (sd rfl (yl_seql (a := p_o.Val) (b := ([] : Str)) rfl rfl rfl ?_))))))))))
     refine sM rfl (bcase (p_o.Val == ([] : Str)) (fun hb44 => ?_) (fun hb44 => ?_))
     ·refine sy rfl rfl hb44 (yl_fieldAddr fd122_3 rfl rfl (sy rfl rfl hb44 (yl_load1 ty3 rfl rfl ((q14.cell 3).trans rfl) (sy rfl rfl hb44 (yC en91 rfl (oc rfl (oc rfl (oc rfl oz))) (Cal.mono (c_s_l1In p_o.By (-9999) 9999) ?_))))))
      rintro v46 w45 ⟨rfl, hE47⟩
      refine sd rfl (yl_pick_t rfl rfl hb44 rfl (sA rfl (dn (CW.ret (br (tr (rr rfl (.cons rfl .nil) ?_)))))))
      rw [show (s_l5Op p_o) = ((s_l1In p_o.By (-9999) 9999)) by simp only [s_l5Op, hb13, hb15, hb29, hb43, hb44, cL]]
      exact ⟨rfl, (Ex.trans (Ex.trans (Ex.trans (Ex.refl w) hE9) hE12) hE47)⟩
     ·refine sz rfl rfl hb44 (sz rfl rfl hb44 (sz rfl rfl hb44 (sd rfl (yl_pick_f rfl rfl hb44 rfl (sA rfl (dn (CW.ret (br ?_))))))))
      refine tr (rr rfl (.cons rfl .nil) ?_)
      rw [show (s_l5Op p_o) = (false) by simp only [s_l5Op, hb13, hb15, hb29, hb43, hb44, cL]]
      exact ⟨rfl, (Ex.trans (Ex.trans (Ex.refl w) hE9) hE12)⟩
    ·refine CW.cond_f rfl hb43 (CW.region (sd rfl (yl_eql rfl rfl rfl (sA rfl (dn (bcD (q := p_o.Kind = 5) (fun hb55 hb55p => ?_) (fun hb55 hb55p => ?_)))))))
     ·refine CW.cond_t rfl hb55 (cR (sd rfl (yl_fieldAddr fd122_2 rfl rfl (sd rfl (yl_load1 ty9 rfl rfl ((q14.cell 2).trans rfl) (sd rfl (yl_seql (a := p_o.Val) (b := ([] : Str)) rfl rfl rfl (sM rfl (bcase (p_o.Val == ([] : Str)) (fun hb56 => ?_) (fun hb56 => ?_))))))))))
      ·refine sy rfl rfl hb56 (yl_fieldAddr fd122_3 rfl rfl (sy rfl rfl hb56 (yl_load1 ty3 rfl rfl ((q14.cell 3).trans rfl) (sy rfl rfl hb56 (yC en91 rfl (oc rfl (oc rfl (oc rfl oz))) (Cal.mono (c_s_l1In p_o.By (-9999) 9999) ?_))))))
       rintro v58 w57 ⟨rfl, hE59⟩
       refine sd rfl (yl_pick_t rfl rfl hb56 rfl (sA rfl (dn (CW.ret (br (tr (rr rfl (.cons rfl .nil) ?_)))))))
       rw [show (s_l5Op p_o) = ((s_l1In p_o.By (-9999) 9999)) by simp only [s_l5Op, hb13, hb15, hb29, hb43, hb55, hb56, cL]]
       exact ⟨rfl, (Ex.trans (Ex.trans (Ex.trans (Ex.refl w) hE9) hE12) hE59)⟩
      ·refine sz rfl rfl hb56 (sz rfl rfl hb56 (sz rfl rfl hb56 (sd rfl (yl_pick_f rfl rfl hb56 rfl (sA rfl (dn (CW.ret (br ?_))))))))
       refine tr (rr rfl (.cons rfl .nil) ?_)
       rw [show (s_l5Op p_o) = (false) by simp only [s_l5Op, hb13, hb15, hb29, hb43, hb55, hb56, cL]]
       exact ⟨rfl, (Ex.trans (Ex.trans (Ex.refl w) hE9) hE12)⟩
     ·refine CW.cond_f rfl hb55 (CW.skip (bn (tn (cR (sd rfl (yl_fieldAddr fd122_0 rfl rfl (sd rfl (yl_load1 ty3 rfl rfl ((q14.cell 0).trans rfl) (sd rfl (yl_eql rfl rfl rfl ?_))))))))))
      refine sM rfl (bcD (q := p_o.Kind = 1) (fun hb67 hb67p => ?_) (fun hb67 hb67p => ?_))
      ·refine sz rfl rfl hb67 (sz rfl rfl hb67 (sz rfl rfl hb67 (sd rfl (yl_pick_t rfl rfl hb67 rfl (sM rfl (sz rfl rfl rfl (sz rfl rfl rfl (sz rfl rfl rfl (sd rfl (yl_pick_t rfl rfl rfl rfl ?_))))))))))
       refine sM rfl (sy rfl rfl rfl (yl_fieldAddr fd122_2 rfl rfl (sy rfl rfl rfl (yl_load1 ty9 rfl rfl ((q14.cell 2).trans rfl) (sy rfl rfl rfl (yl_seql (a := p_o.Val) (b := ([] : Str)) rfl rfl rfl (sd rfl (yl_pick_t rfl rfl rfl rfl (sM rfl (bcase (p_o.Val == ([] : Str)) (fun hb68 => ?_) (fun hb68 => ?_)))))))))))
       ·refine sy rfl rfl hb68 (yl_fieldAddr fd122_3 rfl rfl (sy rfl rfl hb68 (yl_load1 ty3 rfl rfl ((q14.cell 3).trans rfl) (sy rfl rfl hb68 (yl_eql rfl rfl rfl (sd rfl (yl_pick_t rfl rfl hb68 rfl (sA rfl (dn (CW.ret (rr rfl (.cons rfl .nil) ?_)))))))))))
        rw [show (s_l5Op p_o) = (decide (p_o.By = 0)) by simp only [s_l5Op, hb13, hb15, hb29, hb43, hb55, hb67, hb68, cL]]
        exact ⟨rfl, (Ex.trans (Ex.trans (Ex.refl w) hE9) hE12)⟩
       ·refine sz rfl rfl hb68 (sz rfl rfl hb68 (sz rfl rfl hb68 (sd rfl (yl_pick_f rfl rfl hb68 rfl (sA rfl (dn (CW.ret (rr rfl (.cons rfl .nil) ?_))))))))
        rw [show (s_l5Op p_o) = (false) by simp only [s_l5Op, hb13, hb15, hb29, hb43, hb55, hb67, hb68, cL]]
        exact ⟨rfl, (Ex.trans (Ex.trans (Ex.refl w) hE9) hE12)⟩
      ·refine sy rfl rfl hb67 (yl_fieldAddr fd122_0 rfl rfl (sy rfl rfl hb67 (yl_load1 ty3 rfl rfl ((q14.cell 0).trans rfl) (sy rfl rfl hb67 (yl_eql rfl rfl rfl (sd rfl (yl_pick_f rfl rfl hb67 rfl (sM rfl (bcD (q := p_o.Kind = 3) (fun hb75 hb75p => ?_) (fun hb75 hb75p => ?_))))))))))
       ·refine sz rfl rfl hb75 (sz rfl rfl hb75 (sz rfl rfl hb75 (sd rfl (yl_pick_t rfl rfl hb75 rfl (sM rfl (sy rfl rfl rfl (yl_fieldAddr fd122_2 rfl rfl (sy rfl rfl rfl (yl_load1 ty9 rfl rfl ((q14.cell 2).trans rfl) (sy rfl rfl rfl (yl_seql (a := p_o.Val) (b := ([] : Str)) rfl rfl rfl (sd rfl (yl_pick_t rfl rfl rfl rfl ?_)))))))))))))
        refine sM rfl (bcase (p_o.Val == ([] : Str)) (fun hb76 => ?_) (fun hb76 => ?_))
        ·refine sy rfl rfl hb76 (yl_fieldAddr fd122_3 rfl rfl (sy rfl rfl hb76 (yl_load1 ty3 rfl rfl ((q14.cell 3).trans rfl) (sy rfl rfl hb76 (yl_eql rfl rfl rfl (sd rfl (yl_pick_t rfl rfl hb76 rfl (sA rfl (dn (CW.ret (rr rfl (.cons rfl .nil) ?_)))))))))))
         rw [show (s_l5Op p_o) = (decide (p_o.By = 0)) by simp only [s_l5Op, hb13, hb15, hb29, hb43, hb55, hb67, hb75, hb76, cL]]
         exact ⟨rfl, (Ex.trans (Ex.trans (Ex.refl w) hE9) hE12)⟩
        ·refine sz rfl rfl hb76 (sz rfl rfl hb76 (sz rfl rfl hb76 (sd rfl (yl_pick_f rfl rfl hb76 rfl (sA rfl (dn (CW.ret (rr rfl (.cons rfl .nil) ?_))))))))
         rw [show (s_l5Op p_o) = (false) by simp only [s_l5Op, hb13, hb15, hb29, hb43, hb55, hb67, hb75, hb76, cL]]
         exact ⟨rfl, (Ex.trans (Ex.trans (Ex.refl w) hE9) hE12)⟩
       ·refine sy rfl rfl hb75 (yl_fieldAddr fd122_0 rfl rfl (sy rfl rfl hb75 (yl_load1 ty3 rfl rfl ((q14.cell 0).trans rfl) (sy rfl rfl hb75 (yl_eql rfl rfl rfl (sd rfl (yl_pick_f rfl rfl hb75 rfl (sM rfl (bcD (q := p_o.Kind = 6) (fun hb83 hb83p => ?_) (fun hb83 hb83p => ?_))))))))))
        ·refine sy rfl rfl hb83 (yl_fieldAddr fd122_2 rfl rfl (sy rfl rfl hb83 (yl_load1 ty9 rfl rfl ((q14.cell 2).trans rfl) (sy rfl rfl hb83 (yl_seql (a := p_o.Val) (b := ([] : Str)) rfl rfl rfl (sd rfl (yl_pick_t rfl rfl hb83 rfl (sM rfl (bcase (p_o.Val == ([] : Str)) (fun hb84 => ?_) (fun hb84 => ?_))))))))))
         ·refine sy rfl rfl hb84 (yl_fieldAddr fd122_3 rfl rfl (sy rfl rfl hb84 (yl_load1 ty3 rfl rfl ((q14.cell 3).trans rfl) (sy rfl rfl hb84 (yl_eql rfl rfl rfl (sd rfl (yl_pick_t rfl rfl hb84 rfl (sA rfl (dn (CW.ret (rr rfl (.cons rfl .nil) ?_)))))))))))
          rw [show (s_l5Op p_o) = (decide (p_o.By = 0)) by simp only [s_l5Op, hb13, hb15, hb29, hb43, hb55, hb67, hb75, hb83, hb84, cL]]
          exact ⟨rfl, (Ex.trans (Ex.trans (Ex.refl w) hE9) hE12)⟩
         ·refine sz rfl rfl hb84 (sz rfl rfl hb84 (sz rfl rfl hb84 (sd rfl (yl_pick_f rfl rfl hb84 rfl (sA rfl (dn (CW.ret (rr rfl (.cons rfl .nil) ?_))))))))
          rw [show (s_l5Op p_o) = (false) by simp only [s_l5Op, hb13, hb15, hb29, hb43, hb55, hb67, hb75, hb83, hb84, cL]]
          exact ⟨rfl, (Ex.trans (Ex.trans (Ex.refl w) hE9) hE12)⟩
        ·refine sz rfl rfl hb83 (sz rfl rfl hb83 (sz rfl rfl hb83 (sd rfl (yl_pick_f rfl rfl hb83 rfl (sM rfl (sz rfl rfl rfl (sz rfl rfl rfl (sz rfl rfl rfl (sd rfl (yl_pick_f rfl rfl rfl rfl ?_))))))))))
         refine sA rfl (dn (CW.ret (rr rfl (.cons rfl .nil) ?_)))
         rw [show (s_l5Op p_o) = (false) by simp only [s_l5Op, hb13, hb15, hb29, hb43, hb55, hb67, hb75, hb83, cL]]
         exact ⟨rfl, (Ex.trans (Ex.trans (Ex.refl w) hE9) hE12)⟩
 ·refine CW.cond_t rfl (not_f hb13) (cR (sA rfl (dn (CW.ret (tr (rr rfl (.cons rfl .nil) ?_))))))
  rw [show (s_l5Op p_o) = (false) by simp only [s_l5Op, hb13, cL]]
  exact ⟨rfl, (Ex.trans (Ex.trans (Ex.refl w) hE9) hE12)⟩
theorem c_s_l5Good {A1 : Option Addr} {c1 : Nat} {w : World} (p_l : List DOp) (h1 : RdS w (Iv 0 w.heap.size) (RF e_Op) 4 A1 p_l.length c1 p_l) (o2 : (okL ok_Op) p_l) : Cal Tryz.prog 122 #[.slice A1 p_l.length c1] w fun v w' => v = .bool ((s_l5Good p_l)) ∧ Ex w w' := by
 have hol3 := o2.1
 refine Cal.of func122 rfl ntmps122 rfl (cR (sA rfl (dn (CW.seq (cR ?_)))))
 refine sM rfl (sd rfl (yL un77 rfl rfl (sM rfl (dn (CW.block (CW.loop (fun m19 L20 w21 => ∃ (k4 : Nat), m19 = p_l.length - k4 ∧ k4 ≤ p_l.length ∧ w.heap.size ≤ w21.heap.size ∧ Sub [(0, .slice A1 p_l.length c1), (5, .slice A1 p_l.length c1), (6, .int .i64 ((p_l.length : Int))), (7, .int .i64 ((k4 : Int)))] L20 ∧ RdS w21 (Iv 0 w.heap.size) (RF e_Op) 4 A1 p_l.length c1 p_l ∧ Ex w w21 ∧ loopM (B_s_l5Good_0 p_l) (p_l.length - k4) k4 () = loopM (B_s_l5Good_0 p_l) (p_l.length - 0) 0 ()) (p_l.length - 0) ?_ ?_))))))
 ·exact ⟨0, rfl, oM, Nat.le_refl _, (sR rfl), h1, (Ex.refl w), rfl⟩
 ·rintro m22 L23 w24 ⟨k4, rfl, hk25, hsz27, hl28, hf29, hf30, hI26⟩
  refine CW.sub hl28 ?_
  have hf30z := Ex.size hf30
  have hbg31 := RdS.big hf29
  rcases Nat.lt_or_ge k4 p_l.length with hlt32 | hlt32
  ·refine cR (sd rfl (yl_lss rfl rfl rfl (dn (CW.seq (CW.cond_t rfl (lt_t hlt32) (CW.skip (tn ?_)))))))
   refine CW.seq (CW.block (cR ?_))
   obtain ⟨_, _, _, eA33, _, ebl33, _, eR33, eC33⟩ := RdS.aD hf29 d_Op (i := k4)
   obtain rfl := eR33
   refine sd rfl (yl_ixN un77 ty122 rfl rfl rfl eA33 (sd rfl (yl_loadN ty122 rfl rfl eC33 rfl (sd rfl (yB ty122 (cs := [.int .i64 (0), .string (bs (([] : Str))), .string (bs (([] : Str))), .int .i64 (0)]) rfl rfl ?_)))))
   intro b34 w35 hs36 hz37 hB38 hE39
   refine SeqR.u rfl rfl (yl_storeA (vs := [.int .i64 ((p_l.getD k4 d_Op).Kind), .string (bs ((p_l.getD k4 d_Op).Key)), .string (bs ((p_l.getD k4 d_Op).Val)), .int .i64 ((p_l.getD k4 d_Op).By)]) ty122 rfl rfl rfl rfl rfl rfl hB38 rfl ?_)
   intro w40 hB41 hO42
   have hO42z := hO42.size
   refine dn (cR (sd rfl (yl_loadN ty122 rfl rfl (hB41.cells (n := 4) rfl) rfl (sd rfl (yC en169 rfl (oc rfl oz) (Cal.mono (c_s_l5Op (p_l.getD k4 d_Op) (okL.getD o2 ok_d_Op _)) ?_))))))
   rintro v44 w43 ⟨rfl, hE45⟩
   have hE45z := Ex.size hE45
   refine sd rfl (yl_not rfl rfl (dn (bcase (s_l5Op (p_l.getD k4 d_Op)) (fun hb46 => ?_) (fun hb46 => ?_))))
   ·refine CW.cond_f rfl (not_t hb46) (CW.skip (bn (tn (CW.region (sd rfl (yl_inc rfl rfl rfl oM (sM rfl (dn ?_))))))))
    have hB47 : B_s_l5Good_0 p_l k4 () = .cont () := by simp only [B_s_l5Good_0, hb46, cL]
    exact ⟨p_l.length - (k4 + 1), oM, k4 + 1, rfl, hlt32, oM, (sR rfl), (RdS.ex good_Op (RdS.only good_Op (RdS.ex good_Op hf29 hE39) hO42 iV) hE45), (Ex.trans (Below.only (Ex.trans hf30 hE39) hO42 oM) hE45), (loopM.cont hlt32 hB47).symm.trans hI26⟩
   ·refine CW.cond_t rfl (not_f hb46) (cR (sA rfl (dn (CW.ret (br (tr ?_))))))
    refine tr ?_
    have hB55 : B_s_l5Good_0 p_l k4 () = .ret false := by simp only [B_s_l5Good_0, hb46, cL]
    have hL54 : loopM (B_s_l5Good_0 p_l) (p_l.length - 0) 0 () = .ret false := hI26.symm.trans (loopM.ret hlt32 hB55)
    refine br (tr (rr rfl (.cons rfl .nil) ?_))
    rw [show (s_l5Good p_l) = (false) by simp only [s_l5Good, hb46, hL54, cL]]
    exact ⟨rfl, (Ex.trans (Below.only (Ex.trans hf30 hE39) hO42 oM) hE45)⟩
  ·refine cR (sd rfl (yl_lss rfl rfl rfl (dn (CW.seq (CW.cond_f rfl (lt_f hlt32) (CW.exit (tx ?_)))))))
   refine tx ?_
   have hL60 : loopM (B_s_l5Good_0 p_l) (p_l.length - 0) 0 () = .done () := hI26.symm.trans (loopM.stop hlt32)
   refine bx (tn (cR (sM rfl (sd rfl (yL un77 rfl rfl (sd rfl (yl_leq rfl rfl rfl (sA rfl (SeqR.done ?_)))))))))
   refine tn (CW.ret (rr rfl (.cons rfl .nil) ?_))
   rw [show (s_l5Good p_l) = (decide ((p_l.length : Int) ≤ 8)) by simp only [s_l5Good, hL60, cL]]
   exact ⟨rfl, hf30⟩
end Go.Proofs.YtoimdjojffkefaaGreatDoor
