/- Do Act: what each call returns, part 1. -/
import Derived.Test.YtoimdjojffkefaaGreatDoorDoActL
import Derived.Test.YtoimdjojffkefaaGreatDoorDoActF
import Derived.Test.YtoimdjojffkefaaGreatDoorDoActY
import Derived.Test.YtoimdjojffkefaaGreatDoorDoActS
import Derived.Test.YtoimdjojffkefaaGreatDoorDoActU
set_option maxRecDepth 100000
set_option maxHeartbeats 2000000
open Go.Proofs.Tryz Go.Proofs.YtoimdjojffkefaaGreatDoor.Tryz
set_option linter.unusedVariables false
set_option linter.unusedSimpArgs false
namespace Go.Proofs.YtoimdjojffkefaaGreatDoor
open Go.RowKit Go.X
theorem c_l_szStringS {A1 : Option Addr} {c1 : Nat} {w : World} (p_a : List Str) (p_left : Int) (h1 : RdS w (Iv 0 w.heap.size) (RF e_Str) 1 A1 p_a.length c1 p_a) : Cal Tryz.prog 29 #[.slice A1 p_a.length c1, .int .i64 (p_left)] w fun v w' => v = .int .i64 ((l_szStringS p_a p_left)) ∧ Ex w w' := by
 refine Cal.of func29 rfl ntmps29 rfl (cR (sA rfl (dn (cR (sM rfl ?_)))))
 refine sM rfl (sd rfl (yL un22 rfl rfl (sd rfl (yl_sub rfl rfl rfl (sA rfl (dn (CW.seq (cR ?_))))))))
 refine sM rfl (sd rfl (yl_lss rfl rfl rfl (dn (bcD (q := (IntKind.wrap .i64 (p_left - (p_a.length : Int))) < 0) (fun hb2 hb2p => ?_) (fun hb2 hb2p => ?_)))))
 ·refine CW.cond_t rfl hb2 (cR (sA rfl (dn (CW.ret (tr (rr rfl (.cons rfl .nil) ?_))))))
  rw [show (l_szStringS p_a p_left) = (-1) by simp only [l_szStringS, hb2, cL]]
  exact ⟨rfl, (Ex.refl w)⟩
 ·refine CW.cond_f rfl hb2 (CW.skip (tn (CW.seq (cR (sA rfl (dn ?_))))))
  refine CW.block (CW.loop (fun m6 L7 w8 => ∃ (k4 : Nat) (x5 : Int), m6 = p_a.length - k4 ∧ k4 ≤ p_a.length ∧ w.heap.size ≤ w8.heap.size ∧ Sub [(0, .slice A1 p_a.length c1), (1, .int .i64 (x5)), (5, .int .i64 ((k4 : Int)))] L7 ∧ RdS w8 (Iv 0 w.heap.size) (RF e_Str) 1 A1 p_a.length c1 p_a ∧ Ex w w8 ∧ loopM (B_l_szStringS_0 p_a p_left) (p_a.length - k4) k4 (x5) = loopM (B_l_szStringS_0 p_a p_left) (p_a.length - 0) 0 (IntKind.wrap .i64 (p_left - (p_a.length : Int)))) (p_a.length - 0) ?_ ?_)
  ·exact ⟨0, IntKind.wrap .i64 (p_left - (p_a.length : Int)), rfl, oM, Nat.le_refl _, (sR rfl), h1, (Ex.refl w), rfl⟩
  ·rintro m9 L10 w11 ⟨k4, x5, rfl, hk12, hsz14, hl15, hf16, hf17, hI13⟩
   refine CW.sub hl15 ?_
   have hf17z := Ex.size hf17
   have hbg18 := RdS.big hf16
   rcases Nat.lt_or_ge k4 p_a.length with hlt19 | hlt19
   ·refine CW.seq (cR (sM rfl (sM rfl (sd rfl (yL un22 rfl rfl (sd rfl (yl_lss rfl rfl rfl (dn ?_))))))))
    refine CW.cond_t rfl (lt_t hlt19) (CW.skip (tn (CW.seq (CW.block (cR (sM rfl (sM rfl ?_)))))))
    refine sM rfl ?_
    obtain ⟨_, _, _, eA20, _, ebl20, _, eR20, eC20⟩ := RdS.aD hf16 d_Str (i := k4)
    obtain rfl := eR20
    refine sd rfl (yl_ixN un22 ty9 rfl rfl rfl eA20 (sd rfl (yl_load1 ty9 rfl rfl (eC20 0 _ rfl) (sd rfl (yl_slen un9 (a := (p_a.getD k4 d_Str)) rfl rfl (sd rfl (yl_sub rfl rfl rfl (sA rfl (dn (cR ?_))))))))))
    refine sM rfl (sd rfl (yl_lss rfl rfl rfl (dn (bcD (q := (IntKind.wrap .i64 (x5 - ((p_a.getD k4 d_Str).length : Int))) < 0) (fun hb21 hb21p => ?_) (fun hb21 hb21p => ?_)))))
    ·refine CW.cond_t rfl hb21 (cR (sA rfl (dn (CW.ret (br (tr ?_))))))
     refine tr ?_
     have hB23 : B_l_szStringS_0 p_a p_left k4 (x5) = .ret (-1) := by simp only [B_l_szStringS_0, hb2, hb21, cL]
     have hL22 : loopM (B_l_szStringS_0 p_a p_left) (p_a.length - 0) 0 (IntKind.wrap .i64 (p_left - (p_a.length : Int))) = .ret (-1) := hI13.symm.trans (loopM.ret hlt19 hB23)
     refine br (tr (rr rfl (.cons rfl .nil) ?_))
     rw [show (l_szStringS p_a p_left) = (-1) by simp only [l_szStringS, hb2, hb21, hL22, cL]]
     exact ⟨rfl, hf17⟩
    ·refine CW.cond_f rfl hb21 (CW.skip (bn (tn (CW.region (sM rfl (sd rfl (yl_inc rfl rfl rfl oM (sA rfl (SeqR.done ?_)))))))))
     refine tn ?_
     have hB25 : B_l_szStringS_0 p_a p_left k4 (x5) = .cont (IntKind.wrap .i64 (x5 - ((p_a.getD k4 d_Str).length : Int))) := by simp only [B_l_szStringS_0, hb2, hb21, cL]
     exact ⟨p_a.length - (k4 + 1), oM, k4 + 1, IntKind.wrap .i64 (x5 - ((p_a.getD k4 d_Str).length : Int)), rfl, hlt19, oM, (sR rfl), hf16, hf17, (loopM.cont hlt19 hB25).symm.trans hI13⟩
   ·refine CW.seq (cR (sM rfl (sM rfl (sd rfl (yL un22 rfl rfl (sd rfl (yl_lss rfl rfl rfl (dn ?_))))))))
    refine CW.cond_f rfl (lt_f hlt19) (CW.exit (tx (tx ?_)))
    have hL26 : loopM (B_l_szStringS_0 p_a p_left) (p_a.length - 0) 0 (IntKind.wrap .i64 (p_left - (p_a.length : Int))) = .done (x5) := hI13.symm.trans (loopM.stop hlt19)
    refine bx (tn (cR (sM rfl (sA rfl (dn (CW.ret ?_))))))
    refine rr rfl (.cons rfl .nil) ?_
    rw [show (l_szStringS p_a p_left) = (x5) by simp only [l_szStringS, hb2, hL26, cL]]
    exact ⟨rfl, hf17⟩
theorem c_l_szIdx {w : World} (p_a : DIdx) (p_left : Int) : Cal Tryz.prog 70 #[.agg #[.string (bs (p_a.Name)), .int .i64 (p_a.Col), .int .i64 (p_a.Stage)], .int .i64 (p_left)] w fun v w' => v = .int .i64 ((l_szIdx p_a p_left)) ∧ Ex w w' := by
 refine Cal.of func70 rfl ntmps70 rfl (cR (sd rfl (yl_box rfl rfl rfl ?_)))
 intro b1 w2 hs3 hz4 hB5 hE6
 refine sA rfl (dn (cR (sM rfl (sd rfl (yl_fieldAddr fd106_0 rfl rfl (sd rfl (yl_load1 ty9 rfl rfl ((hB5.cell 0).trans rfl) (sd rfl (yl_slen un9 (a := p_a.Name) rfl rfl ?_)))))))))
 refine sd rfl (yl_sub rfl rfl rfl (sA rfl (dn (CW.seq (cR (sM rfl (sd rfl (yl_lss rfl rfl rfl ?_))))))))
 refine dn (bcD (q := (IntKind.wrap .i64 (p_left - (p_a.Name.length : Int))) < 0) (fun hb7 hb7p => ?_) (fun hb7 hb7p => ?_))
 ·refine CW.cond_t rfl hb7 (cR (sA rfl (dn (CW.ret (tr (rr rfl (.cons rfl .nil) ?_))))))
  rw [show (l_szIdx p_a p_left) = (-1) by simp only [l_szIdx, hb7, cL]]
  exact ⟨rfl, (Ex.trans (Ex.refl w) hE6)⟩
 ·refine CW.cond_f rfl hb7 (CW.skip (tn (cR (sM rfl (sA rfl (dn ?_))))))
  refine CW.ret (rr rfl (.cons rfl .nil) ?_)
  rw [show (l_szIdx p_a p_left) = (IntKind.wrap .i64 (p_left - (p_a.Name.length : Int))) by simp only [l_szIdx, hb7, cL]]
  exact ⟨rfl, (Ex.trans (Ex.refl w) hE6)⟩
theorem c_l_szIdxS {A1 : Option Addr} {c1 : Nat} {w : World} (p_a : List DIdx) (p_left : Int) (h1 : RdS w (Iv 0 w.heap.size) (RF e_Idx) 3 A1 p_a.length c1 p_a) : Cal Tryz.prog 36 #[.slice A1 p_a.length c1, .int .i64 (p_left)] w fun v w' => v = .int .i64 ((l_szIdxS p_a p_left)) ∧ Ex w w' := by
 refine Cal.of func36 rfl ntmps36 rfl (cR (sA rfl (dn (cR (sM rfl ?_)))))
 refine sM rfl (sd rfl (yL un23 rfl rfl (sd rfl (yl_sub rfl rfl rfl (sA rfl (dn (CW.seq (cR ?_))))))))
 refine sM rfl (sd rfl (yl_lss rfl rfl rfl (dn (bcD (q := (IntKind.wrap .i64 (p_left - (p_a.length : Int))) < 0) (fun hb2 hb2p => ?_) (fun hb2 hb2p => ?_)))))
 ·refine CW.cond_t rfl hb2 (cR (sA rfl (dn (CW.ret (tr (rr rfl (.cons rfl .nil) ?_))))))
  rw [show (l_szIdxS p_a p_left) = (-1) by simp only [l_szIdxS, hb2, cL]]
  exact ⟨rfl, (Ex.refl w)⟩
 ·refine CW.cond_f rfl hb2 (CW.skip (tn (CW.seq (cR (sA rfl (dn ?_))))))
  refine CW.block (CW.loop (fun m6 L7 w8 => ∃ (k4 : Nat) (x5 : Int), m6 = p_a.length - k4 ∧ k4 ≤ p_a.length ∧ w.heap.size ≤ w8.heap.size ∧ Sub [(0, .slice A1 p_a.length c1), (1, .int .i64 (x5)), (5, .int .i64 ((k4 : Int)))] L7 ∧ RdS w8 (Iv 0 w.heap.size) (RF e_Idx) 3 A1 p_a.length c1 p_a ∧ Ex w w8 ∧ loopM (B_l_szIdxS_0 p_a p_left) (p_a.length - k4) k4 (x5) = loopM (B_l_szIdxS_0 p_a p_left) (p_a.length - 0) 0 (IntKind.wrap .i64 (p_left - (p_a.length : Int)))) (p_a.length - 0) ?_ ?_)
  ·exact ⟨0, IntKind.wrap .i64 (p_left - (p_a.length : Int)), rfl, oM, Nat.le_refl _, (sR rfl), h1, (Ex.refl w), rfl⟩
  ·rintro m9 L10 w11 ⟨k4, x5, rfl, hk12, hsz14, hl15, hf16, hf17, hI13⟩
   refine CW.sub hl15 ?_
   have hf17z := Ex.size hf17
   have hbg18 := RdS.big hf16
   rcases Nat.lt_or_ge k4 p_a.length with hlt19 | hlt19
   ·refine CW.seq (cR (sM rfl (sM rfl (sd rfl (yL un23 rfl rfl (sd rfl (yl_lss rfl rfl rfl (dn ?_))))))))
    refine CW.cond_t rfl (lt_t hlt19) (CW.skip (tn (CW.seq (CW.block (cR (sM rfl (sM rfl ?_)))))))
    obtain ⟨_, _, _, eA20, _, ebl20, _, eR20, eC20⟩ := RdS.aD hf16 d_Idx (i := k4)
    obtain rfl := eR20
    refine sd rfl (yl_ixN un23 ty106 rfl rfl rfl eA20 (sd rfl (yl_loadN ty106 rfl rfl eC20 rfl (sM rfl (sd rfl (yC en70 rfl (oc rfl (oc rfl oz)) (Cal.mono (c_l_szIdx (p_a.getD k4 d_Idx) x5) ?_)))))))
    rintro v22 w21 ⟨rfl, hE23⟩
    have hE23z := Ex.size hE23
    refine sA rfl (dn (cR (sM rfl (sd rfl (yl_lss rfl rfl rfl (dn ?_))))))
    refine bcD (q := (l_szIdx (p_a.getD k4 d_Idx) x5) < 0) (fun hb24 hb24p => ?_) (fun hb24 hb24p => ?_)
    ·refine CW.cond_t rfl hb24 (cR (sA rfl (dn (CW.ret (br (tr ?_))))))
     refine tr ?_
     have hB26 : B_l_szIdxS_0 p_a p_left k4 (x5) = .ret (-1) := by simp only [B_l_szIdxS_0, hb2, hb24, cL]
     have hL25 : loopM (B_l_szIdxS_0 p_a p_left) (p_a.length - 0) 0 (IntKind.wrap .i64 (p_left - (p_a.length : Int))) = .ret (-1) := hI13.symm.trans (loopM.ret hlt19 hB26)
     refine br (tr (rr rfl (.cons rfl .nil) ?_))
     rw [show (l_szIdxS p_a p_left) = (-1) by simp only [l_szIdxS, hb2, hb24, hL25, cL]]
     exact ⟨rfl, (Ex.trans hf17 hE23)⟩
    ·refine CW.cond_f rfl hb24 (CW.skip (bn (tn (CW.region (sM rfl (sd rfl (yl_inc rfl rfl rfl oM (sA rfl (SeqR.done ?_)))))))))
     refine tn ?_
     have hB29 : B_l_szIdxS_0 p_a p_left k4 (x5) = .cont ((l_szIdx (p_a.getD k4 d_Idx) x5)) := by simp only [B_l_szIdxS_0, hb2, hb24, cL]
     exact ⟨p_a.length - (k4 + 1), oM, k4 + 1, (l_szIdx (p_a.getD k4 d_Idx) x5), rfl, hlt19, oM, (sR rfl), (RdS.ex gI hf16 hE23), (Ex.trans hf17 hE23), (loopM.cont hlt19 hB29).symm.trans hI13⟩
   ·refine CW.seq (cR (sM rfl (sM rfl (sd rfl (yL un23 rfl rfl (sd rfl (yl_lss rfl rfl rfl (dn ?_))))))))
    refine CW.cond_f rfl (lt_f hlt19) (CW.exit (tx (tx ?_)))
    have hL32 : loopM (B_l_szIdxS_0 p_a p_left) (p_a.length - 0) 0 (IntKind.wrap .i64 (p_left - (p_a.length : Int))) = .done (x5) := hI13.symm.trans (loopM.stop hlt19)
    refine bx (tn (cR (sM rfl (sA rfl (dn (CW.ret ?_))))))
    refine rr rfl (.cons rfl .nil) ?_
    rw [show (l_szIdxS p_a p_left) = (x5) by simp only [l_szIdxS, hb2, hL32, cL]]
    exact ⟨rfl, hf17⟩
theorem c_l_szTable {A1 : Option Addr} {c1 : Nat} {A2 : Option Addr} {c2 : Nat} {w : World} (p_a : DTable) (p_left : Int) (h1 : RdS w (Iv 0 w.heap.size) (RF e_Str) 1 A1 p_a.Cols.length c1 p_a.Cols) (h2 : RdS w (Iv 0 w.heap.size) (RF e_Idx) 3 A2 p_a.Idxs.length c2 p_a.Idxs) : Cal Tryz.prog 7 #[.agg #[.string (bs (p_a.Name)), .slice A1 p_a.Cols.length c1, .slice A2 p_a.Idxs.length c2], .int .i64 (p_left)] w fun v w' => v = .int .i64 ((l_szTable p_a p_left)) ∧ Ex w w' := by
 refine Cal.of func7 rfl ntmps7 rfl (cR (sd rfl (yl_box rfl rfl rfl ?_)))
 intro b3 w4 hs5 hz6 hB7 hE8
 refine sA rfl (dn (cR (sM rfl (sd rfl (yl_fieldAddr fd25_0 rfl rfl (sd rfl (yl_load1 ty9 rfl rfl ((hB7.cell 0).trans rfl) (sd rfl (yl_slen un9 (a := p_a.Name) rfl rfl ?_)))))))))
 refine sd rfl (yl_sub rfl rfl rfl (sA rfl (dn (CW.seq (cR (sM rfl (sd rfl (yl_lss rfl rfl rfl ?_))))))))
 refine dn (bcD (q := (IntKind.wrap .i64 (p_left - (p_a.Name.length : Int))) < 0) (fun hb9 hb9p => ?_) (fun hb9 hb9p => ?_))
 ·refine CW.cond_t rfl hb9 (cR (sA rfl (dn (CW.ret (tr (rr rfl (.cons rfl .nil) ?_))))))
  rw [show (l_szTable p_a p_left) = (-1) by simp only [l_szTable, hb9, cL]]
  exact ⟨rfl, (Ex.trans (Ex.refl w) hE8)⟩
 ·refine CW.cond_f rfl hb9 (CW.skip (tn (cR (sd rfl (yl_fieldAddr fd25_1 rfl rfl (sd rfl (yl_load1 ty22 rfl rfl ((hB7.cell 1).trans rfl) (sM rfl (sd rfl (yC en29 rfl (oc rfl (oc rfl oz)) (Cal.mono (c_l_szStringS p_a.Cols (IntKind.wrap .i64 (p_left - (p_a.Name.length : Int))) (RdS.up (RdS.ex gS h1 hE8) gS)) ?_)))))))))))
  rintro v14 w13 ⟨rfl, hE15⟩
  refine sA rfl (dn (CW.seq (cR (sM rfl (sd rfl (yl_lss rfl rfl rfl (SeqR.done ?_)))))))
  refine tn (bcD (q := (l_szStringS p_a.Cols (IntKind.wrap .i64 (p_left - (p_a.Name.length : Int)))) < 0) (fun hb16 hb16p => ?_) (fun hb16 hb16p => ?_))
  ·refine CW.cond_t rfl hb16 (cR (sA rfl (dn (CW.ret (tr (rr rfl (.cons rfl .nil) ?_))))))
   rw [show (l_szTable p_a p_left) = (-1) by simp only [l_szTable, hb9, hb16, cL]]
   exact ⟨rfl, (Ex.trans (Ex.trans (Ex.refl w) hE8) hE15)⟩
  ·refine CW.cond_f rfl hb16 (CW.skip (tn (cR (sd rfl (yl_fieldAddr fd25_2 rfl rfl (sd rfl (yl_load1 ty23 rfl rfl (((Box.ex hB7 hE15).cell 2).trans rfl) (sM rfl (sd rfl (yC en36 rfl (oc rfl (oc rfl oz)) (Cal.mono (c_l_szIdxS p_a.Idxs (l_szStringS p_a.Cols (IntKind.wrap .i64 (p_left - (p_a.Name.length : Int)))) (RdS.up (RdS.ex gI (RdS.ex gI h2 hE8) hE15) gI)) ?_)))))))))))
   rintro v24 w23 ⟨rfl, hE25⟩
   refine sA rfl (dn (CW.seq (cR (sM rfl (sd rfl (yl_lss rfl rfl rfl (SeqR.done ?_)))))))
   refine tn (bcD (q := (l_szIdxS p_a.Idxs (l_szStringS p_a.Cols (IntKind.wrap .i64 (p_left - (p_a.Name.length : Int))))) < 0) (fun hb26 hb26p => ?_) (fun hb26 hb26p => ?_))
   ·refine CW.cond_t rfl hb26 (cR (sA rfl (dn (CW.ret (tr (rr rfl (.cons rfl .nil) ?_))))))
    rw [show (l_szTable p_a p_left) = (-1) by simp only [l_szTable, hb9, hb16, hb26, cL]]
    exact ⟨rfl, (Ex.trans (Ex.trans (Ex.trans (Ex.refl w) hE8) hE15) hE25)⟩
   ·refine CW.cond_f rfl hb26 (CW.skip (tn (cR (sM rfl (sA rfl (dn ?_))))))
    refine CW.ret (rr rfl (.cons rfl .nil) ?_)
    rw [show (l_szTable p_a p_left) = ((l_szIdxS p_a.Idxs (l_szStringS p_a.Cols (IntKind.wrap .i64 (p_left - (p_a.Name.length : Int)))))) by simp only [l_szTable, hb9, hb16, hb26, cL]]
    exact ⟨rfl, (Ex.trans (Ex.trans (Ex.trans (Ex.refl w) hE8) hE15) hE25)⟩
theorem c_l_szWrite {w : World} (p_a : DWrite) (p_left : Int) : Cal Tryz.prog 37 #[.agg #[.string (bs (p_a.Key)), .string (bs (p_a.Val)), .bool (p_a.Gone)], .int .i64 (p_left)] w fun v w' => v = .int .i64 ((l_szWrite p_a p_left)) ∧ Ex w w' := by
 refine Cal.of func37 rfl ntmps37 rfl (cR (sd rfl (yl_box rfl rfl rfl ?_)))
 intro b1 w2 hs3 hz4 hB5 hE6
 refine sA rfl (dn (cR (sM rfl (sd rfl (yl_fieldAddr fd71_0 rfl rfl (sd rfl (yl_load1 ty9 rfl rfl ((hB5.cell 0).trans rfl) (sd rfl (yl_slen un9 (a := p_a.Key) rfl rfl ?_)))))))))
 refine sd rfl (yl_sub rfl rfl rfl (sA rfl (dn (CW.seq (cR (sM rfl (sd rfl (yl_lss rfl rfl rfl ?_))))))))
 refine dn (bcD (q := (IntKind.wrap .i64 (p_left - (p_a.Key.length : Int))) < 0) (fun hb7 hb7p => ?_) (fun hb7 hb7p => ?_))
 ·refine CW.cond_t rfl hb7 (cR (sA rfl (dn (CW.ret (tr (rr rfl (.cons rfl .nil) ?_))))))
  rw [show (l_szWrite p_a p_left) = (-1) by simp only [l_szWrite, hb7, cL]]
  exact ⟨rfl, (Ex.trans (Ex.refl w) hE6)⟩
 ·refine CW.cond_f rfl hb7 (CW.skip (tn (cR (sM rfl (sd rfl (yl_fieldAddr fd71_1 rfl rfl (sd rfl (yl_load1 ty9 rfl rfl ((hB5.cell 1).trans rfl) (sd rfl (yl_slen un9 (a := p_a.Val) rfl rfl ?_))))))))))
  refine sd rfl (yl_sub rfl rfl rfl (sA rfl (dn (CW.seq (cR (sM rfl (sd rfl (yl_lss rfl rfl rfl ?_))))))))
  refine dn (bcD (q := (IntKind.wrap .i64 ((IntKind.wrap .i64 (p_left - (p_a.Key.length : Int))) - (p_a.Val.length : Int))) < 0) (fun hb10 hb10p => ?_) (fun hb10 hb10p => ?_))
  ·refine CW.cond_t rfl hb10 (cR (sA rfl (dn (CW.ret (tr (rr rfl (.cons rfl .nil) ?_))))))
   rw [show (l_szWrite p_a p_left) = (-1) by simp only [l_szWrite, hb7, hb10, cL]]
   exact ⟨rfl, (Ex.trans (Ex.refl w) hE6)⟩
  ·refine CW.cond_f rfl hb10 (CW.skip (tn (cR (sM rfl (sA rfl (dn ?_))))))
   refine CW.ret (rr rfl (.cons rfl .nil) ?_)
   rw [show (l_szWrite p_a p_left) = (IntKind.wrap .i64 ((IntKind.wrap .i64 (p_left - (p_a.Key.length : Int))) - (p_a.Val.length : Int))) by simp only [l_szWrite, hb7, hb10, cL]]
   exact ⟨rfl, (Ex.trans (Ex.refl w) hE6)⟩
theorem c_l_szWriteS {A1 : Option Addr} {c1 : Nat} {w : World} (p_a : List DWrite) (p_left : Int) (h1 : RdS w (Iv 0 w.heap.size) (RF e_Write) 3 A1 p_a.length c1 p_a) : Cal Tryz.prog 8 #[.slice A1 p_a.length c1, .int .i64 (p_left)] w fun v w' => v = .int .i64 ((l_szWriteS p_a p_left)) ∧ Ex w w' := by
 refine Cal.of func8 rfl ntmps8 rfl (cR (sA rfl (dn (cR (sM rfl ?_)))))
 refine sM rfl (sd rfl (yL un26 rfl rfl (sd rfl (yl_sub rfl rfl rfl (sA rfl (dn (CW.seq (cR ?_))))))))
 refine sM rfl (sd rfl (yl_lss rfl rfl rfl (dn (bcD (q := (IntKind.wrap .i64 (p_left - (p_a.length : Int))) < 0) (fun hb2 hb2p => ?_) (fun hb2 hb2p => ?_)))))
 ·refine CW.cond_t rfl hb2 (cR (sA rfl (dn (CW.ret (tr (rr rfl (.cons rfl .nil) ?_))))))
  rw [show (l_szWriteS p_a p_left) = (-1) by simp only [l_szWriteS, hb2, cL]]
  exact ⟨rfl, (Ex.refl w)⟩
 ·refine CW.cond_f rfl hb2 (CW.skip (tn (CW.seq (cR (sA rfl (dn ?_))))))
  refine CW.block (CW.loop (fun m6 L7 w8 => ∃ (k4 : Nat) (x5 : Int), m6 = p_a.length - k4 ∧ k4 ≤ p_a.length ∧ w.heap.size ≤ w8.heap.size ∧ Sub [(0, .slice A1 p_a.length c1), (1, .int .i64 (x5)), (5, .int .i64 ((k4 : Int)))] L7 ∧ RdS w8 (Iv 0 w.heap.size) (RF e_Write) 3 A1 p_a.length c1 p_a ∧ Ex w w8 ∧ loopM (B_l_szWriteS_0 p_a p_left) (p_a.length - k4) k4 (x5) = loopM (B_l_szWriteS_0 p_a p_left) (p_a.length - 0) 0 (IntKind.wrap .i64 (p_left - (p_a.length : Int)))) (p_a.length - 0) ?_ ?_)
  ·exact ⟨0, IntKind.wrap .i64 (p_left - (p_a.length : Int)), rfl, oM, Nat.le_refl _, (sR rfl), h1, (Ex.refl w), rfl⟩
  ·rintro m9 L10 w11 ⟨k4, x5, rfl, hk12, hsz14, hl15, hf16, hf17, hI13⟩
   refine CW.sub hl15 ?_
   have hf17z := Ex.size hf17
   have hbg18 := RdS.big hf16
   rcases Nat.lt_or_ge k4 p_a.length with hlt19 | hlt19
   ·refine CW.seq (cR (sM rfl (sM rfl (sd rfl (yL un26 rfl rfl (sd rfl (yl_lss rfl rfl rfl (dn ?_))))))))
    refine CW.cond_t rfl (lt_t hlt19) (CW.skip (tn (CW.seq (CW.block (cR (sM rfl (sM rfl ?_)))))))
    obtain ⟨_, _, _, eA20, _, ebl20, _, eR20, eC20⟩ := RdS.aD hf16 d_Write (i := k4)
    obtain rfl := eR20
    refine sd rfl (yl_ixN un26 ty71 rfl rfl rfl eA20 (sd rfl (yl_loadN ty71 rfl rfl eC20 rfl (sM rfl (sd rfl (yC en37 rfl (oc rfl (oc rfl oz)) (Cal.mono (c_l_szWrite (p_a.getD k4 d_Write) x5) ?_)))))))
    rintro v22 w21 ⟨rfl, hE23⟩
    have hE23z := Ex.size hE23
    refine sA rfl (dn (cR (sM rfl (sd rfl (yl_lss rfl rfl rfl (dn ?_))))))
    refine bcD (q := (l_szWrite (p_a.getD k4 d_Write) x5) < 0) (fun hb24 hb24p => ?_) (fun hb24 hb24p => ?_)
    ·refine CW.cond_t rfl hb24 (cR (sA rfl (dn (CW.ret (br (tr ?_))))))
     refine tr ?_
     have hB26 : B_l_szWriteS_0 p_a p_left k4 (x5) = .ret (-1) := by simp only [B_l_szWriteS_0, hb2, hb24, cL]
     have hL25 : loopM (B_l_szWriteS_0 p_a p_left) (p_a.length - 0) 0 (IntKind.wrap .i64 (p_left - (p_a.length : Int))) = .ret (-1) := hI13.symm.trans (loopM.ret hlt19 hB26)
     refine br (tr (rr rfl (.cons rfl .nil) ?_))
     rw [show (l_szWriteS p_a p_left) = (-1) by simp only [l_szWriteS, hb2, hb24, hL25, cL]]
     exact ⟨rfl, (Ex.trans hf17 hE23)⟩
    ·refine CW.cond_f rfl hb24 (CW.skip (bn (tn (CW.region (sM rfl (sd rfl (yl_inc rfl rfl rfl oM (sA rfl (SeqR.done ?_)))))))))
     refine tn ?_
     have hB29 : B_l_szWriteS_0 p_a p_left k4 (x5) = .cont ((l_szWrite (p_a.getD k4 d_Write) x5)) := by simp only [B_l_szWriteS_0, hb2, hb24, cL]
     exact ⟨p_a.length - (k4 + 1), oM, k4 + 1, (l_szWrite (p_a.getD k4 d_Write) x5), rfl, hlt19, oM, (sR rfl), (RdS.ex gW hf16 hE23), (Ex.trans hf17 hE23), (loopM.cont hlt19 hB29).symm.trans hI13⟩
   ·refine CW.seq (cR (sM rfl (sM rfl (sd rfl (yL un26 rfl rfl (sd rfl (yl_lss rfl rfl rfl (dn ?_))))))))
    refine CW.cond_f rfl (lt_f hlt19) (CW.exit (tx (tx ?_)))
    have hL32 : loopM (B_l_szWriteS_0 p_a p_left) (p_a.length - 0) 0 (IntKind.wrap .i64 (p_left - (p_a.length : Int))) = .done (x5) := hI13.symm.trans (loopM.stop hlt19)
    refine bx (tn (cR (sM rfl (sA rfl (dn (CW.ret ?_))))))
    refine rr rfl (.cons rfl .nil) ?_
    rw [show (l_szWriteS p_a p_left) = (x5) by simp only [l_szWriteS, hb2, hL32, cL]]
    exact ⟨rfl, hf17⟩
theorem c_l_szRow {A1 : Option Addr} {c1 : Nat} {w : World} (p_a : DRow) (p_left : Int) (h1 : RdS w (Iv 0 w.heap.size) (RF e_Str) 1 A1 p_a.Vals.length c1 p_a.Vals) : Cal Tryz.prog 38 #[.agg #[.slice A1 p_a.Vals.length c1], .int .i64 (p_left)] w fun v w' => v = .int .i64 ((l_szRow p_a p_left)) ∧ Ex w w' := by
 refine Cal.of func38 rfl ntmps38 rfl (cR (sd rfl (yl_box rfl rfl rfl ?_)))
 intro b2 w3 hs4 hz5 hB6 hE7
 refine sA rfl (dn (cR (sd rfl (yl_fieldAddr fd28_0 rfl rfl (sd rfl (yl_load1 ty22 rfl rfl ((hB6.cell 0).trans rfl) (sM rfl (sd rfl (yC en29 rfl (oc rfl (oc rfl oz)) (Cal.mono (c_l_szStringS p_a.Vals p_left (RdS.up (RdS.ex gS h1 hE7) gS)) ?_))))))))))
 rintro v10 w9 ⟨rfl, hE11⟩
 refine sA rfl (dn (CW.seq (cR (sM rfl (sd rfl (yl_lss rfl rfl rfl (SeqR.done ?_)))))))
 refine tn (bcD (q := (l_szStringS p_a.Vals p_left) < 0) (fun hb12 hb12p => ?_) (fun hb12 hb12p => ?_))
 ·refine CW.cond_t rfl hb12 (cR (sA rfl (dn (CW.ret (tr (rr rfl (.cons rfl .nil) ?_))))))
  rw [show (l_szRow p_a p_left) = (-1) by simp only [l_szRow, hb12, cL]]
  exact ⟨rfl, (Ex.trans (Ex.trans (Ex.refl w) hE7) hE11)⟩
 ·refine CW.cond_f rfl hb12 (CW.skip (tn (cR (sM rfl (sA rfl (dn ?_))))))
  refine CW.ret (rr rfl (.cons rfl .nil) ?_)
  rw [show (l_szRow p_a p_left) = ((l_szStringS p_a.Vals p_left)) by simp only [l_szRow, hb12, cL]]
  exact ⟨rfl, (Ex.trans (Ex.trans (Ex.refl w) hE7) hE11)⟩
theorem c_l_szRowAct {A1 : Option Addr} {c1 : Nat} {A2 : Option Addr} {c2 : Nat} {w : World} (p_a : DRowAct) (p_left : Int) (h1 : RdS w (Iv 0 w.heap.size) (RF e_Str) 1 A1 p_a.Old.Vals.length c1 p_a.Old.Vals) (h2 : RdS w (Iv 0 w.heap.size) (RF e_Str) 1 A2 p_a.New.Vals.length c2 p_a.New.Vals) : Cal Tryz.prog 9 #[.agg #[.int .i64 (p_a.Kind), .slice A1 p_a.Old.Vals.length c1, .slice A2 p_a.New.Vals.length c2], .int .i64 (p_left)] w fun v w' => v = .int .i64 ((l_szRowAct p_a p_left)) ∧ Ex w w' := by
 refine Cal.of func9 rfl ntmps9 rfl (cR (sd rfl (yl_box rfl rfl rfl ?_)))
 intro b3 w4 hs5 hz6 hB7 hE8
 refine sA rfl (dn (cR (sd rfl (yl_fieldAddr fd30_1 rfl rfl (sd rfl (yl_loadN ty28 rfl rfl (hB7.cells (n := 1) rfl) rfl (sM rfl (sd rfl (yC en38 rfl (oc rfl (oc rfl oz)) (Cal.mono (c_l_szRow p_a.Old p_left (RdS.up (RdS.ex gS h1 hE8) gS)) ?_))))))))))
 rintro v11 w10 ⟨rfl, hE12⟩
 refine sA rfl (dn (CW.seq (cR (sM rfl (sd rfl (yl_lss rfl rfl rfl (SeqR.done ?_)))))))
 refine tn (bcD (q := (l_szRow p_a.Old p_left) < 0) (fun hb13 hb13p => ?_) (fun hb13 hb13p => ?_))
 ·refine CW.cond_t rfl hb13 (cR (sA rfl (dn (CW.ret (tr (rr rfl (.cons rfl .nil) ?_))))))
  rw [show (l_szRowAct p_a p_left) = (-1) by simp only [l_szRowAct, hb13, cL]]
  exact ⟨rfl, (Ex.trans (Ex.trans (Ex.refl w) hE8) hE12)⟩
 ·refine CW.cond_f rfl hb13 (CW.skip (tn (cR (sd rfl (yl_fieldAddr fd30_2 rfl rfl (sd rfl (yl_loadN ty28 rfl rfl ((Box.ex hB7 hE12).cells (n := 1) rfl) rfl (sM rfl (sd rfl (yC en38 rfl (oc rfl (oc rfl oz)) (Cal.mono (c_l_szRow p_a.New (l_szRow p_a.Old p_left) (RdS.up (RdS.ex gS (RdS.ex gS h2 hE8) hE12) gS)) ?_)))))))))))
  rintro v21 w20 ⟨rfl, hE22⟩
  refine sA rfl (dn (CW.seq (cR (sM rfl (sd rfl (yl_lss rfl rfl rfl (SeqR.done ?_)))))))
  refine tn (bcD (q := (l_szRow p_a.New (l_szRow p_a.Old p_left)) < 0) (fun hb23 hb23p => ?_) (fun hb23 hb23p => ?_))
  ·refine CW.cond_t rfl hb23 (cR (sA rfl (dn (CW.ret (tr (rr rfl (.cons rfl .nil) ?_))))))
   rw [show (l_szRowAct p_a p_left) = (-1) by simp only [l_szRowAct, hb13, hb23, cL]]
   exact ⟨rfl, (Ex.trans (Ex.trans (Ex.trans (Ex.refl w) hE8) hE12) hE22)⟩
  ·refine CW.cond_f rfl hb23 (CW.skip (tn (cR (sM rfl (sA rfl (dn ?_))))))
   refine CW.ret (rr rfl (.cons rfl .nil) ?_)
   rw [show (l_szRowAct p_a p_left) = ((l_szRow p_a.New (l_szRow p_a.Old p_left))) by simp only [l_szRowAct, hb13, hb23, cL]]
   exact ⟨rfl, (Ex.trans (Ex.trans (Ex.trans (Ex.refl w) hE8) hE12) hE22)⟩
theorem c_s_l1In {w : World} (p_n : Int) (p_lo : Int) (p_hi : Int) : Cal Tryz.prog 91 #[.int .i64 (p_n), .int .i64 (p_lo), .int .i64 (p_hi)] w fun v w' => v = .bool ((s_l1In p_n p_lo p_hi)) ∧ Ex w w' := by
 refine Cal.of func91 rfl ntmps91 rfl (cR (sA rfl (dn (cR (sM rfl ?_)))))
 refine sM rfl (sd rfl (yl_geq rfl rfl rfl (sM rfl (bcD (q := p_lo ≤ p_n) (fun hb1 hb1p => ?_) (fun hb1 hb1p => ?_)))))
 ·refine sy rfl rfl hb1 (yM rfl rfl (sy rfl rfl hb1 (yM rfl rfl (sy rfl rfl hb1 (yl_leq rfl rfl rfl (sd rfl (yl_pick_t rfl rfl hb1 rfl (sA rfl (dn (CW.ret (rr rfl (.cons rfl .nil) ?_)))))))))))
  rw [show (s_l1In p_n p_lo p_hi) = (decide (p_n ≤ p_hi)) by simp only [s_l1In, hb1, cL]]
  exact ⟨rfl, (Ex.refl w)⟩
 ·refine sz rfl rfl hb1 (sz rfl rfl hb1 (sz rfl rfl hb1 (sd rfl (yl_pick_f rfl rfl hb1 rfl (sA rfl (dn (CW.ret (rr rfl (.cons rfl .nil) ?_))))))))
  rw [show (s_l1In p_n p_lo p_hi) = (false) by simp only [s_l1In, hb1, cL]]
  exact ⟨rfl, (Ex.refl w)⟩
theorem c_s_l24Letters {w : World} (p_s : Str) (p_most : Int) (o1 : okS p_s) : Cal Tryz.prog 107 #[.string (bs (p_s)), .int .i64 (p_most)] w fun v w' => v = .bool ((s_l24Letters p_s p_most)) ∧ Ex w w' := by
 have hol2 : p_s.length ≤ 1073741824 := o1
 refine Cal.of func107 rfl ntmps107 rfl (cR (sA rfl (dn (CW.seq (cR ?_)))))
 refine sA rfl (dn (CW.block (CW.loop (fun m4 L5 w6 => ∃ (k3 : Nat), m4 = p_s.length - k3 ∧ k3 ≤ p_s.length ∧ w.heap.size ≤ w6.heap.size ∧ Sub [(0, .string (bs (p_s))), (1, .int .i64 (p_most)), (5, .int .i64 ((k3 : Int)))] L5 ∧ Ex w w6 ∧ loopM (B_s_l24Letters_0 p_s p_most) (p_s.length - k3) k3 () = loopM (B_s_l24Letters_0 p_s p_most) (p_s.length - 0) 0 ()) (p_s.length - 0) ?_ ?_)))
 ·exact ⟨0, rfl, oM, Nat.le_refl _, (sR rfl), (Ex.refl w), rfl⟩
 ·rintro m7 L8 w9 ⟨k3, rfl, hk10, hsz12, hl13, hf14, hI11⟩
  refine CW.sub hl13 ?_
  have hf14z := Ex.size hf14
  have hbg15 : p_s.length ≤ 1073741824 := o1
  rcases Nat.lt_or_ge k3 p_s.length with hlt16 | hlt16
  ·refine CW.seq (cR (sM rfl (sM rfl (sd rfl (yl_slen un9 (a := p_s) rfl rfl (sd rfl (yl_lss rfl rfl rfl (dn ?_))))))))
   refine CW.cond_t rfl (lt_t hlt16) (CW.skip (tn (CW.seq (CW.block (cR (sM rfl (sM rfl ?_)))))))
   refine sd rfl (yl_sindexN un9 (a := p_s) rfl rfl rfl Bo (sd rfl (yl_lss rfl rfl rfl (sM rfl (bcD (q := ((p_s.getD k3 0).toNat : Int) < 97) (fun hb17 hb17p => ?_) (fun hb17 hb17p => ?_))))))
   ·refine sz rfl rfl hb17 (sz rfl rfl hb17 (sz rfl rfl hb17 (sz rfl rfl hb17 (sd rfl (yl_pick_t rfl rfl hb17 rfl (dn (CW.cond_t rfl rfl (CW.seq ?_))))))))
    refine CW.region (sA rfl (dn (CW.ret (br (tr (tr ?_))))))
    have hB19 : B_s_l24Letters_0 p_s p_most k3 () = .ret false := by simp only [B_s_l24Letters_0, hb17, cL]
    have hL18 : loopM (B_s_l24Letters_0 p_s p_most) (p_s.length - 0) 0 () = .ret false := hI11.symm.trans (loopM.ret hlt16 hB19)
    refine br (tr (rr rfl (.cons rfl .nil) ?_))
    rw [show (s_l24Letters p_s p_most) = (false) by simp only [s_l24Letters, hb17, hL18, cL]]
    exact ⟨rfl, hf14⟩
   ·refine sy rfl rfl hb17 (yM rfl rfl (sy rfl rfl hb17 (yM rfl rfl (sy rfl rfl hb17 (yl_sindexN un9 (a := p_s) rfl rfl rfl Bo (sy rfl rfl hb17 (yl_gtr rfl rfl rfl (sd rfl (yl_pick_f rfl rfl hb17 rfl (dn (bcD (q := 122 < ((p_s.getD k3 0).toNat : Int)) (fun hb21 hb21p => ?_) (fun hb21 hb21p => ?_))))))))))))
    ·refine CW.cond_t rfl hb21 (cR (sA rfl (dn (CW.ret (br (tr ?_))))))
     refine tr ?_
     have hB23 : B_s_l24Letters_0 p_s p_most k3 () = .ret false := by simp only [B_s_l24Letters_0, hb17, hb21, cL]
     have hL22 : loopM (B_s_l24Letters_0 p_s p_most) (p_s.length - 0) 0 () = .ret false := hI11.symm.trans (loopM.ret hlt16 hB23)
     refine br (tr (rr rfl (.cons rfl .nil) ?_))
     rw [show (s_l24Letters p_s p_most) = (false) by simp only [s_l24Letters, hb17, hb21, hL22, cL]]
     exact ⟨rfl, hf14⟩
    ·refine CW.cond_f rfl hb21 (CW.skip (bn (tn (CW.region (sM rfl (sd rfl (yl_inc rfl rfl rfl oM (sA rfl (SeqR.done ?_)))))))))
     refine tn ?_
     have hB25 : B_s_l24Letters_0 p_s p_most k3 () = .cont () := by simp only [B_s_l24Letters_0, hb17, hb21, cL]
     exact ⟨p_s.length - (k3 + 1), oM, k3 + 1, rfl, hlt16, oM, (sR rfl), hf14, (loopM.cont hlt16 hB25).symm.trans hI11⟩
  ·refine CW.seq (cR (sM rfl (sM rfl (sd rfl (yl_slen un9 (a := p_s) rfl rfl (sd rfl (yl_lss rfl rfl rfl (dn ?_))))))))
   refine CW.cond_f rfl (lt_f hlt16) (CW.exit (tx (tx ?_)))
   have hL26 : loopM (B_s_l24Letters_0 p_s p_most) (p_s.length - 0) 0 () = .done () := hI11.symm.trans (loopM.stop hlt16)
   refine bx (tn (cR (sM rfl (sd rfl (yl_slen un9 (a := p_s) rfl rfl (sd rfl (yl_geq rfl rfl rfl (sM rfl (bcD (q := 1 ≤ (p_s.length : Int)) (fun hb27 hb27p => ?_) (fun hb27 hb27p => ?_))))))))))
   ·refine sy rfl rfl hb27 (yM rfl rfl (sy rfl rfl hb27 (yl_slen un9 (a := p_s) rfl rfl (sy rfl rfl hb27 (yM rfl rfl (sy rfl rfl hb27 (yl_leq rfl rfl rfl (sd rfl (yl_pick_t rfl rfl hb27 rfl (sA rfl (dn (CW.ret ?_))))))))))))
    refine rr rfl (.cons rfl .nil) ?_
    rw [show (s_l24Letters p_s p_most) = (decide ((p_s.length : Int) ≤ p_most)) by simp only [s_l24Letters, hb27, hL26, cL]]
    exact ⟨rfl, hf14⟩
   ·refine sz rfl rfl hb27 (sz rfl rfl hb27 (sz rfl rfl hb27 (sz rfl rfl hb27 (sd rfl (yl_pick_f rfl rfl hb27 rfl (sA rfl (dn (CW.ret ?_))))))))
    refine rr rfl (.cons rfl .nil) ?_
    rw [show (s_l24Letters p_s p_most) = (false) by simp only [s_l24Letters, hb27, hL26, cL]]
    exact ⟨rfl, hf14⟩
theorem c_s_l24At {A1 : Option Addr} {c1 : Nat} {w : World} (p_l : List Str) (p_s : Str) (h1 : RdS w (Iv 0 w.heap.size) (RF e_Str) 1 A1 p_l.length c1 p_l) (o2 : (okL okS) p_l) (o3 : okS p_s) : Cal Tryz.prog 147 #[.slice A1 p_l.length c1, .string (bs (p_s))] w fun v w' => v = .int .i64 ((s_l24At p_l p_s)) ∧ Ex w w' := by
 have hol4 := o2.1
 have hol5 : p_s.length ≤ 1073741824 := o3
 refine Cal.of func147 rfl ntmps147 rfl (cR (sA rfl (dn (CW.seq (cR ?_)))))
 refine sM rfl (sd rfl (yL un22 rfl rfl (sM rfl (dn (CW.block (CW.loop (fun m7 L8 w9 => ∃ (k6 : Nat), m7 = p_l.length - k6 ∧ k6 ≤ p_l.length ∧ w.heap.size ≤ w9.heap.size ∧ Sub [(1, .string (bs (p_s))), (7, .slice A1 p_l.length c1), (8, .int .i64 ((p_l.length : Int))), (9, .int .i64 ((k6 : Int)))] L8 ∧ RdS w9 (Iv 0 w.heap.size) (RF e_Str) 1 A1 p_l.length c1 p_l ∧ Ex w w9 ∧ loopM (B_s_l24At_0 p_l p_s) (p_l.length - k6) k6 () = loopM (B_s_l24At_0 p_l p_s) (p_l.length - 0) 0 ()) (p_l.length - 0) ?_ ?_))))))
 ·exact ⟨0, rfl, oM, Nat.le_refl _, (sR rfl), h1, (Ex.refl w), rfl⟩
 ·rintro m10 L11 w12 ⟨k6, rfl, hk13, hsz15, hl16, hf17, hf18, hI14⟩
  refine CW.sub hl16 ?_
  have hf18z := Ex.size hf18
  have hbg19 := RdS.big hf17
  rcases Nat.lt_or_ge k6 p_l.length with hlt20 | hlt20
  ·refine cR (sd rfl (yl_lss rfl rfl rfl (dn (CW.seq (CW.cond_t rfl (lt_t hlt20) (CW.skip (tn ?_)))))))
   refine CW.seq (CW.block (cR (sM rfl ?_)))
   obtain ⟨_, _, _, eA21, _, ebl21, _, eR21, eC21⟩ := RdS.aD hf17 d_Str (i := k6)
   obtain rfl := eR21
   refine sd rfl (yl_ixN un22 ty9 rfl rfl rfl eA21 (sd rfl (yl_load1 ty9 rfl rfl (eC21 0 _ rfl) (sA rfl (sA rfl (dn (cR (sM rfl ?_))))))))
   refine sM rfl (sd rfl (yl_seql (a := (p_l.getD k6 d_Str)) (b := p_s) rfl rfl rfl (dn (bcase ((p_l.getD k6 d_Str) == p_s) (fun hb22 => ?_) (fun hb22 => ?_)))))
   ·refine CW.cond_t rfl hb22 (cR (sM rfl (sA rfl (dn (CW.ret (br ?_))))))
    refine tr (tr ?_)
    have hB24 : B_s_l24At_0 p_l p_s k6 () = .ret (k6 : Int) := by simp only [B_s_l24At_0, hb22, cL]
    have hL23 : loopM (B_s_l24At_0 p_l p_s) (p_l.length - 0) 0 () = .ret (k6 : Int) := hI14.symm.trans (loopM.ret hlt20 hB24)
    refine br (tr (rr rfl (.cons rfl .nil) ?_))
    rw [show (s_l24At p_l p_s) = ((k6 : Int)) by simp only [s_l24At, hb22, hL23, cL]]
    exact ⟨rfl, hf18⟩
   ·refine CW.cond_f rfl hb22 (CW.skip (bn (tn (CW.region (sd rfl (yl_inc rfl rfl rfl oM (sM rfl (dn ?_))))))))
    have hB26 : B_s_l24At_0 p_l p_s k6 () = .cont () := by simp only [B_s_l24At_0, hb22, cL]
    exact ⟨p_l.length - (k6 + 1), oM, k6 + 1, rfl, hlt20, oM, (sR rfl), hf17, hf18, (loopM.cont hlt20 hB26).symm.trans hI14⟩
  ·refine cR (sd rfl (yl_lss rfl rfl rfl (dn (CW.seq (CW.cond_f rfl (lt_f hlt20) (CW.exit (tx ?_)))))))
   refine tx ?_
   have hL27 : loopM (B_s_l24At_0 p_l p_s) (p_l.length - 0) 0 () = .done () := hI14.symm.trans (loopM.stop hlt20)
   refine bx (tn (cR (sA rfl (dn (CW.ret (rr rfl (.cons rfl .nil) ?_))))))
   rw [show (s_l24At p_l p_s) = (-1) by simp only [s_l24At, hL27, cL]]
   exact ⟨rfl, hf18⟩
theorem c_s_l24Cols {A1 : Option Addr} {c1 : Nat} {w : World} (p_l : List Str) (h1 : RdS w (Iv 0 w.heap.size) (RF e_Str) 1 A1 p_l.length c1 p_l) (o2 : (okL okS) p_l) : Cal Tryz.prog 108 #[.slice A1 p_l.length c1] w fun v w' => v = .bool ((s_l24Cols p_l)) ∧ Ex w w' := by
 have hol3 := o2.1
 refine Cal.of func108 rfl ntmps108 rfl (cR (sA rfl (dn (CW.seq (cR ?_)))))
 refine sM rfl (sd rfl (yL un22 rfl rfl (sM rfl (dn (CW.block (CW.loop (fun m5 L6 w7 => ∃ (k4 : Nat), m5 = p_l.length - k4 ∧ k4 ≤ p_l.length ∧ w.heap.size ≤ w7.heap.size ∧ Sub [(0, .slice A1 p_l.length c1), (5, .slice A1 p_l.length c1), (6, .int .i64 ((p_l.length : Int))), (7, .int .i64 ((k4 : Int)))] L6 ∧ RdS w7 (Iv 0 w.heap.size) (RF e_Str) 1 A1 p_l.length c1 p_l ∧ Ex w w7 ∧ loopM (B_s_l24Cols_0 p_l) (p_l.length - k4) k4 () = loopM (B_s_l24Cols_0 p_l) (p_l.length - 0) 0 ()) (p_l.length - 0) ?_ ?_))))))
 ·exact ⟨0, rfl, oM, Nat.le_refl _, (sR rfl), h1, (Ex.refl w), rfl⟩
 ·rintro m8 L9 w10 ⟨k4, rfl, hk11, hsz13, hl14, hf15, hf16, hI12⟩
  refine CW.sub hl14 ?_
  have hf16z := Ex.size hf16
  have hbg17 := RdS.big hf15
  rcases Nat.lt_or_ge k4 p_l.length with hlt18 | hlt18
  ·refine cR (sd rfl (yl_lss rfl rfl rfl (dn (CW.seq (CW.cond_t rfl (lt_t hlt18) (CW.skip (tn ?_)))))))
   refine CW.seq (CW.block (cR (sM rfl ?_)))
   obtain ⟨_, _, _, eA19, _, ebl19, _, eR19, eC19⟩ := RdS.aD hf15 d_Str (i := k4)
   obtain rfl := eR19
   refine sd rfl (yl_ixN un22 ty9 rfl rfl rfl eA19 (sd rfl (yl_load1 ty9 rfl rfl (eC19 0 _ rfl) (sA rfl (sA rfl (dn (cR (sM rfl ?_))))))))
   refine sd rfl (yC en107 rfl (oc rfl (oc rfl oz)) (Cal.mono (c_s_l24Letters (p_l.getD k4 d_Str) 3 (okL.getD o2 ok_d_Str _)) ?_))
   rintro v21 w20 ⟨rfl, hE22⟩
   have hE22z := Ex.size hE22
   refine sd rfl (yl_not rfl rfl (sM rfl (bcase (s_l24Letters (p_l.getD k4 d_Str) 3) (fun hb23 => ?_) (fun hb23 => ?_))))
   ·refine sy rfl rfl (not_t hb23) (yM rfl rfl (sy rfl rfl (not_t hb23) (yM rfl rfl ?_)))
    have q24 := RdS.ex gS hf15 hE22
    obtain ⟨A25, c26, he29, h28⟩ := RdS.sl (RdS.drop (RdS.take q24 (k := k4) oM) (k := 0) oM)
    have hrc30 := (q24).2.1
    refine sy rfl rfl (not_t hb23) (yl_sliceR (kl := .i64) (l := 0) (h := k4) un22 ty9 rfl rfl (.inl ⟨rfl, rfl⟩) (.inr ⟨_, rfl, rfl⟩) oM oM he29 (sy rfl rfl (not_t hb23) (yM rfl rfl (sy rfl rfl (not_t hb23) (yC en147 rfl (oc rfl (oc rfl oz)) (Cal.mono (c_s_l24At (p_l.take k4) (p_l.getD k4 d_Str) (RdS.up h28 gS) (okL.take o2 _) (okL.getD o2 ok_d_Str _)) ?_))))))
    rintro v32 w31 ⟨rfl, hE33⟩
    have hE33z := Ex.size hE33
    refine sy rfl rfl (not_t hb23) (yl_geq rfl rfl rfl (sd rfl (yl_pick_f rfl rfl (not_t hb23) rfl (dn (bcD (q := 0 ≤ (s_l24At (p_l.take k4) (p_l.getD k4 d_Str))) (fun hb34 hb34p => ?_) (fun hb34 hb34p => ?_))))))
    ·refine CW.cond_t rfl hb34 (cR (sA rfl (dn (CW.ret (br (tr ?_))))))
     refine tr ?_
     have hB36 : B_s_l24Cols_0 p_l k4 () = .ret false := by simp only [B_s_l24Cols_0, hb23, hb34, cL]
     have hL35 : loopM (B_s_l24Cols_0 p_l) (p_l.length - 0) 0 () = .ret false := hI12.symm.trans (loopM.ret hlt18 hB36)
     refine br (tr (rr rfl (.cons rfl .nil) ?_))
     rw [show (s_l24Cols p_l) = (false) by simp only [s_l24Cols, hb23, hb34, hL35, cL]]
     exact ⟨rfl, (Ex.trans (Ex.trans hf16 hE22) hE33)⟩
    ·refine CW.cond_f rfl hb34 (CW.skip (bn (tn (CW.region (sd rfl (yl_inc rfl rfl rfl oM (sM rfl (dn ?_))))))))
     have hB40 : B_s_l24Cols_0 p_l k4 () = .cont () := by simp only [B_s_l24Cols_0, hb23, hb34, cL]
     exact ⟨p_l.length - (k4 + 1), oM, k4 + 1, rfl, hlt18, oM, (sR rfl), (RdS.ex gS q24 hE33), (Ex.trans (Ex.trans hf16 hE22) hE33), (loopM.cont hlt18 hB40).symm.trans hI12⟩
   ·refine sz rfl rfl (not_f hb23) (sz rfl rfl (not_f hb23) (sz rfl rfl (not_f hb23) (sz rfl rfl (not_f hb23) (sz rfl rfl (not_f hb23) (sz rfl rfl (not_f hb23) (sd rfl (yl_pick_t rfl rfl (not_f hb23) rfl (dn ?_))))))))
    refine CW.cond_t rfl rfl (cR (sA rfl (dn (CW.ret (br (tr ?_))))))
    refine tr ?_
    have hB45 : B_s_l24Cols_0 p_l k4 () = .ret false := by simp only [B_s_l24Cols_0, hb23, cL]
    have hL44 : loopM (B_s_l24Cols_0 p_l) (p_l.length - 0) 0 () = .ret false := hI12.symm.trans (loopM.ret hlt18 hB45)
    refine br (tr (rr rfl (.cons rfl .nil) ?_))
    rw [show (s_l24Cols p_l) = (false) by simp only [s_l24Cols, hb23, hL44, cL]]
    exact ⟨rfl, (Ex.trans hf16 hE22)⟩
  ·refine cR (sd rfl (yl_lss rfl rfl rfl (dn (CW.seq (CW.cond_f rfl (lt_f hlt18) (CW.exit (tx ?_)))))))
   refine tx ?_
   have hL48 : loopM (B_s_l24Cols_0 p_l) (p_l.length - 0) 0 () = .done () := hI12.symm.trans (loopM.stop hlt18)
   refine bx (tn (cR (sM rfl (sd rfl (yL un22 rfl rfl (sd rfl (yC en91 rfl (oc rfl (oc rfl (oc rfl oz))) (Cal.mono (c_s_l1In (p_l.length : Int) 2 4) ?_))))))))
   rintro v50 w49 ⟨rfl, hE51⟩
   have hE51z := Ex.size hE51
   refine sA rfl (dn (CW.ret (rr rfl (.cons rfl .nil) ?_)))
   rw [show (s_l24Cols p_l) = ((s_l1In (p_l.length : Int) 2 4)) by simp only [s_l24Cols, hL48, cL]]
   exact ⟨rfl, (Ex.trans hf16 hE51)⟩
theorem c_s_GoodTable {A1 : Option Addr} {c1 : Nat} {A2 : Option Addr} {c2 : Nat} {w : World} (p_0 : DTable) (h1 : RdS w (Iv 0 w.heap.size) (RF e_Str) 1 A1 p_0.Cols.length c1 p_0.Cols) (h2 : RdS w (Iv 0 w.heap.size) (RF e_Idx) 3 A2 p_0.Idxs.length c2 p_0.Idxs) (o3 : ok_Table p_0) : Cal Tryz.prog 65 #[.agg #[.string (bs (p_0.Name)), .slice A1 p_0.Cols.length c1, .slice A2 p_0.Idxs.length c2]] w fun v w' => v = .bool ((s_GoodTable p_0)) ∧ Ex w w' := by
 have hol4 : p_0.Name.length ≤ 1073741824 := o3.1
 have hol5 := o3.2.1.1
 have hol6 := o3.2.2.1
 refine Cal.of func65 rfl ntmps65 rfl (cR (sd rfl (yl_box rfl rfl rfl ?_)))
 intro b7 w8 hs9 hz10 hB11 hE12
 refine sA rfl (dn (CW.seq (cR (sd rfl (yl_fieldAddr fd39_0 rfl rfl (sd rfl (yl_load1 ty9 rfl rfl ((hB11.cell 0).trans rfl) (sd rfl (yC en107 rfl (oc rfl (oc rfl oz)) (Cal.mono (c_s_l24Letters p_0.Name 1 o3.1) ?_))))))))))
 rintro v14 w13 ⟨rfl, hE15⟩
 have hE15z := Ex.size hE15
 refine sd rfl (yl_not rfl rfl (sM rfl (bcase (s_l24Letters p_0.Name 1) (fun hb16 => ?_) (fun hb16 => ?_))))
 ·refine sy rfl rfl (not_t hb16) (yl_fieldAddr fd39_1 rfl rfl ?_)
  have q17 := Box.ex hB11 hE15
  refine sy rfl rfl (not_t hb16) (yl_load1 ty22 rfl rfl ((q17.cell 1).trans rfl) ?_)
  have q19 := RdS.ex gS (RdS.ex gS h1 hE12) hE15
  refine sy rfl rfl (not_t hb16) (yC en108 rfl (oc rfl oz) (Cal.mono (c_s_l24Cols p_0.Cols (RdS.up q19 gS) o3.2.1) ?_))
  rintro v21 w20 ⟨rfl, hE22⟩
  have hE22z := Ex.size hE22
  refine sy rfl rfl (not_t hb16) (yl_not rfl rfl (sd rfl (yl_pick_f rfl rfl (not_t hb16) rfl (sM rfl (bcase (s_l24Cols p_0.Cols) (fun hb23 => ?_) (fun hb23 => ?_))))))
  ·refine sy rfl rfl (not_t hb23) (yl_fieldAddr fd39_2 rfl rfl ?_)
   have q24 := Box.ex q17 hE22
   refine sy rfl rfl (not_t hb23) (yl_load1 ty37 rfl rfl ((q24.cell 2).trans rfl) (sy rfl rfl (not_t hb23) (yL un37 rfl rfl (sy rfl rfl (not_t hb23) (yl_gtr rfl rfl rfl (sd rfl (yl_pick_f rfl rfl (not_t hb23) rfl (dn (bcD (q := 3 < (p_0.Idxs.length : Int)) (fun hb25 hb25p => ?_) (fun hb25 hb25p => ?_))))))))))
   ·refine CW.cond_t rfl hb25 (cR (sA rfl (dn (CW.ret (tr (rr rfl (.cons rfl .nil) ?_))))))
    rw [show (s_GoodTable p_0) = (false) by simp only [s_GoodTable, hb16, hb23, hb25, cL]]
    exact ⟨rfl, (Ex.trans (Ex.trans (Ex.trans (Ex.refl w) hE12) hE15) hE22)⟩
   ·refine CW.cond_f rfl hb25 (CW.skip (tn (CW.seq (cR (sd rfl (yl_fieldAddr fd39_2 rfl rfl (sd rfl (yl_load1 ty37 rfl rfl ((q24.cell 2).trans rfl) (sd rfl (yL un37 rfl rfl ?_))))))))))
    refine sM rfl (dn (CW.block (CW.loop (fun m68 L69 w70 => ∃ (k30 : Nat), m68 = p_0.Idxs.length - k30 ∧ k30 ≤ p_0.Idxs.length ∧ w20.heap.size ≤ w70.heap.size ∧ Sub [(1, .pointer (some ⟨b7, 0, none⟩)), (22, .slice A2 p_0.Idxs.length c2), (23, .int .i64 ((p_0.Idxs.length : Int))), (24, .int .i64 ((k30 : Int)))] L69 ∧ Box w70 b7 39 [.string (bs (p_0.Name)), .slice A1 p_0.Cols.length c1, .slice A2 p_0.Idxs.length c2] ∧ RdS w70 (Iv 0 w.heap.size) (RF e_Str) 1 A1 p_0.Cols.length c1 p_0.Cols ∧ RdS w70 (Iv 0 w.heap.size) (RF e_Idx) 3 A2 p_0.Idxs.length c2 p_0.Idxs ∧ Ex w w70 ∧ loopM (B_s_GoodTable_0 p_0) (p_0.Idxs.length - k30) k30 () = loopM (B_s_GoodTable_0 p_0) (p_0.Idxs.length - 0) 0 ()) (p_0.Idxs.length - 0) ?_ ?_)))
    ·exact ⟨0, rfl, oM, Nat.le_refl _, (sR rfl), q24, (RdS.ex gS q19 hE22), (RdS.ex gI (RdS.ex gI (RdS.ex gI h2 hE12) hE15) hE22), (Ex.trans (Ex.trans (Ex.trans (Ex.refl w) hE12) hE15) hE22), rfl⟩
    ·rintro m78 L79 w80 ⟨k30, rfl, hk81, hsz83, hl84, hf85, hf86, hf87, hf88, hI82⟩
     refine CW.sub hl84 ?_
     have hf85z := Box.lt hf85
     have hf88z := Ex.size hf88
     have hbg89 := RdS.big hf87
     rcases Nat.lt_or_ge k30 p_0.Idxs.length with hlt90 | hlt90
     ·refine cR (sd rfl (yl_lss rfl rfl rfl (dn (CW.seq (CW.cond_t rfl (lt_t hlt90) (CW.skip (tn ?_)))))))
      refine CW.seq (CW.block (cR (sM rfl ?_)))
      obtain ⟨_, _, _, eA91, _, ebl91, _, eR91, eC91⟩ := RdS.aD hf87 d_Idx (i := k30)
      obtain rfl := eR91
      refine sd rfl (yl_ixN un37 ty111 rfl rfl rfl eA91 (sd rfl (yl_loadN ty111 rfl rfl eC91 rfl (sd rfl (yB ty111 (cs := [.string (bs (([] : Str))), .int .i64 (0), .int .i64 (0)]) rfl rfl ?_)))))
      intro b92 w93 hs94 hz95 hB96 hE97
      refine sA rfl (SeqR.u rfl rfl (yl_storeA (vs := [.string (bs ((p_0.Idxs.getD k30 d_Idx).Name)), .int .i64 ((p_0.Idxs.getD k30 d_Idx).Col), .int .i64 ((p_0.Idxs.getD k30 d_Idx).Stage)]) ty111 rfl rfl rfl rfl rfl rfl hB96 rfl ?_))
      intro w98 hB99 hO100
      have hO100z := hO100.size
      refine dn (CW.seq (bcase (s_l24Letters ((p_0.Idxs.getD k30 d_Idx).Name) 1) (fun hb102 => ?_) (fun hb102 => ?_)))
      ·refine bcase (s_l1In ((p_0.Idxs.getD k30 d_Idx).Col) 1 (IntKind.wrap .i64 ((p_0.Cols.length : Int) - 1))) (fun hb107 => ?_) (fun hb107 => ?_)
       ·have hb107p := f_l1In hb107
        refine bcase (s_l1In ((p_0.Idxs.getD k30 d_Idx).Stage) 0 3) (fun hb113 => ?_) (fun hb113 => ?_)
        ·have hb113p := f_l1In hb113
         refine bcD (q := 0 < (k30 : Int)) (fun hb119 hb119p => ?_) (fun hb119 hb119p => ?_)
         ·have q122 := Box.only (Box.ex hf85 hE97) hO100 oM
          have q126 := RdS.only gI (RdS.ex gI hf87 hE97) hO100 iV
          obtain ⟨eb127, eo127, _, eA127, _, ebl127, _, eR127, eC127⟩ := RdS.atD q126 d_Idx (i := (IntKind.wrap .i64 ((k30 : Int) - 1)).toNat) Bo
          obtain rfl := eR127
          refine drJ 36 [.pointer (some ⟨b92, 0 + 0, none⟩), .string (bs ((p_0.Idxs.getD k30 d_Idx).Name)), .bool ((s_l24Letters ((p_0.Idxs.getD k30 d_Idx).Name) 1)), .bool (!(s_l24Letters ((p_0.Idxs.getD k30 d_Idx).Name) 1)), .bool (!(s_l24Letters ((p_0.Idxs.getD k30 d_Idx).Name) 1)), .pointer (some ⟨b92, 0 + 1, none⟩), .int .i64 ((p_0.Idxs.getD k30 d_Idx).Col), .pointer (some ⟨b7, 0 + 1, none⟩), .slice A1 p_0.Cols.length c1, .int .i64 ((p_0.Cols.length : Int)), .int .i64 (IntKind.wrap .i64 ((p_0.Cols.length : Int) - 1)), .bool ((s_l1In ((p_0.Idxs.getD k30 d_Idx).Col) 1 (IntKind.wrap .i64 ((p_0.Cols.length : Int) - 1)))), .bool (!(s_l1In ((p_0.Idxs.getD k30 d_Idx).Col) 1 (IntKind.wrap .i64 ((p_0.Cols.length : Int) - 1)))), .bool (!(s_l1In ((p_0.Idxs.getD k30 d_Idx).Col) 1 (IntKind.wrap .i64 ((p_0.Cols.length : Int) - 1)))), .bool (!(s_l1In ((p_0.Idxs.getD k30 d_Idx).Col) 1 (IntKind.wrap .i64 ((p_0.Cols.length : Int) - 1)))), .pointer (some ⟨b92, 0 + 2, none⟩), .int .i64 ((p_0.Idxs.getD k30 d_Idx).Stage), .bool ((s_l1In ((p_0.Idxs.getD k30 d_Idx).Stage) 0 3)), .bool (!(s_l1In ((p_0.Idxs.getD k30 d_Idx).Stage) 0 3)), .bool (!(s_l1In ((p_0.Idxs.getD k30 d_Idx).Stage) 0 3)), .bool (!(s_l1In ((p_0.Idxs.getD k30 d_Idx).Stage) 0 3)), .int .i64 ((k30 : Int)), .bool (decide (0 < (k30 : Int))), .bool (decide (0 < (k30 : Int))), .pointer (some ⟨b7, 0 + 2, none⟩), .slice A2 p_0.Idxs.length c2, .int .i64 ((k30 : Int)), .int .i64 (IntKind.wrap .i64 ((k30 : Int) - 1)), .pointer (some ⟨eb127, eo127 + ((IntKind.wrap .i64 ((k30 : Int) - 1)).toNat) * 3, none⟩), .pointer (some ⟨eb127, eo127 + ((IntKind.wrap .i64 ((k30 : Int) - 1)).toNat) * 3 + 0, none⟩), .string (bs ((p_0.Idxs.getD ((IntKind.wrap .i64 ((k30 : Int) - 1)).toNat) d_Idx).Name)), .pointer (some ⟨b92, 0 + 0, none⟩), .string (bs ((p_0.Idxs.getD k30 d_Idx).Name)), .bool (!(sLt ((p_0.Idxs.getD ((IntKind.wrap .i64 ((k30 : Int) - 1)).toNat) d_Idx).Name) ((p_0.Idxs.getD k30 d_Idx).Name))), .bool (!(sLt ((p_0.Idxs.getD ((IntKind.wrap .i64 ((k30 : Int) - 1)).toNat) d_Idx).Name) ((p_0.Idxs.getD k30 d_Idx).Name))), .bool (!(sLt ((p_0.Idxs.getD ((IntKind.wrap .i64 ((k30 : Int) - 1)).toNat) d_Idx).Name) ((p_0.Idxs.getD k30 d_Idx).Name)))] Tryz.follows rfl ?_ ?_
          ·refine ⟨oI rfl fun h => yl_fieldAddr fd111_0 rfl (h.g 4 rfl) kI, oI rfl fun h => yl_load1 ty9 rfl (h.g 29 rfl) (((Box.ex hB99 h.ex).cell 0).trans rfl) kI, ?_, oI rfl fun h => yl_not rfl (h.g 31 rfl) kI, oI rfl fun h => yM rfl (h.g 32 rfl) kI, oW rfl rfl rfl rfl (not_t hb102) fun h => yl_fieldAddr fd111_1 rfl (h.g 4 rfl) kI, oW rfl rfl rfl rfl (not_t hb102) fun h => yl_load1 ty3 rfl (h.g 34 rfl) (((Box.ex hB99 h.ex).cell 1).trans rfl) kI, oW rfl rfl rfl rfl (not_t hb102) fun h => yl_fieldAddr fd39_1 rfl (h.g 1 rfl) kI, oW rfl rfl rfl rfl (not_t hb102) fun h => yl_load1 ty22 rfl (h.g 36 rfl) (((Box.ex q122 h.ex).cell 1).trans rfl) kI, oW rfl rfl rfl rfl (not_t hb102) fun h => yL un22 rfl (h.g 37 rfl) kI, oW rfl rfl rfl rfl (not_t hb102) fun h => yl_sub rfl (h.g 38 rfl) rfl kI, ?_, oW rfl rfl rfl rfl (not_t hb102) fun h => yl_not rfl (h.g 40 rfl) kI, oI rfl fun h => yl_pick_f rfl (h.g 33 rfl) (not_t hb102) (h.g 41 rfl) kI, oI rfl fun h => yM rfl (h.g 42 rfl) kI, oW rfl rfl rfl rfl (not_t hb107) fun h => yl_fieldAddr fd111_2 rfl (h.g 4 rfl) kI, oW rfl rfl rfl rfl (not_t hb107) fun h => yl_load1 ty3 rfl (h.g 44 rfl) (((Box.ex hB99 h.ex).cell 2).trans rfl) kI, ?_, oW rfl rfl rfl rfl (not_t hb107) fun h => yl_not rfl (h.g 46 rfl) kI, oI rfl fun h => yl_pick_f rfl (h.g 43 rfl) (not_t hb107) (h.g 47 rfl) kI, oI rfl fun h => yM rfl (h.g 48 rfl) kI, oW rfl rfl rfl rfl (not_t hb113) fun h => yM rfl (h.g 3 rfl) kI, oW rfl rfl rfl rfl (not_t hb113) fun h => yl_gtr rfl (h.g 50 rfl) rfl kI, oW rfl rfl rfl rfl (not_t hb113) fun h => yM rfl (h.g 51 rfl) kI, oW rfl rfl rfl rfl hb119 fun h => yl_fieldAddr fd39_2 rfl (h.g 1 rfl) kI, oW rfl rfl rfl rfl hb119 fun h => yl_load1 ty37 rfl (h.g 53 rfl) (((Box.ex q122 h.ex).cell 2).trans rfl) kI, oW rfl rfl rfl rfl hb119 fun h => yM rfl (h.g 3 rfl) kI, oW rfl rfl rfl rfl hb119 fun h => yl_sub rfl (h.g 55 rfl) rfl kI, ?_, oW rfl rfl rfl rfl hb119 fun h => yl_fieldAddr fd111_0 rfl (h.g 57 rfl) kI, oW rfl rfl rfl rfl hb119 fun h => yl_load1 ty9 rfl (h.g 58 rfl) ((Cells.ex eC127 h.ex) 0 _ rfl) kI, oW rfl rfl rfl rfl hb119 fun h => yl_fieldAddr fd111_0 rfl (h.g 4 rfl) kI, oW rfl rfl rfl rfl hb119 fun h => yl_load1 ty9 rfl (h.g 60 rfl) (((Box.ex hB99 h.ex).cell 0).trans rfl) kI, oW rfl rfl rfl rfl hb119 fun h => yl_sgeq (a := ((p_0.Idxs.getD ((IntKind.wrap .i64 ((k30 : Int) - 1)).toNat) d_Idx).Name)) (b := ((p_0.Idxs.getD k30 d_Idx).Name)) rfl (h.g 59 rfl) (h.g 61 rfl) kI, oW rfl rfl rfl rfl (not_t hb113) fun h => yl_pick_t rfl (h.g 52 rfl) hb119 (h.g 62 rfl) kI, oI rfl fun h => yl_pick_f rfl (h.g 49 rfl) (not_t hb113) (h.g 63 rfl) kI, trivial⟩
           ·intro L139 w140 hi141
            exact OpR.op' rfl (yC en107 rfl (oc (hi141.g 30 rfl) (oc rfl oz)) (Cal.mono (c_s_l24Letters ((p_0.Idxs.getD k30 d_Idx).Name) 1 (okL.getD o3.2.2 ok_d_Idx _)) fun _ _ h => h))
           ·intro L195 w196 hi197
            exact OpR.want rfl rfl (hi197.g 33 rfl) (not_t hb102) (yC en91 rfl (oc (hi197.g 35 rfl) (oc rfl (oc (hi197.g 39 rfl) oz))) (Cal.mono (c_s_l1In ((p_0.Idxs.getD k30 d_Idx).Col) 1 (IntKind.wrap .i64 ((p_0.Cols.length : Int) - 1))) fun _ _ h => h))
           ·intro L235 w236 hi237
            exact OpR.want rfl rfl (hi237.g 43 rfl) (not_t hb107) (yC en91 rfl (oc (hi237.g 45 rfl) (oc rfl (oc rfl oz))) (Cal.mono (c_s_l1In ((p_0.Idxs.getD k30 d_Idx).Stage) 0 3) fun _ _ h => h))
           ·intro L304 w305 hi306
            have hE307 := hi306.ex
            have hE307z := Ex.size hE307
            exact OpR.want rfl rfl (hi306.g 52 rfl) hb119 (Yl.sameI (yl_indexAddr un37 ty111 rfl (hi306.g 54 rfl) (hi306.g 56 rfl) eA127 Bo Bo kI))
          ·intro fl360 fh361 L357 w358 hp359
           have hE362 := hp359.ex
           have hE362z := Ex.size hE362
           refine dn (CW.sub (hp359.ss [1, 22, 23, 24, 64] rfl) (bcase (sLt ((p_0.Idxs.getD ((IntKind.wrap .i64 ((k30 : Int) - 1)).toNat) d_Idx).Name) ((p_0.Idxs.getD k30 d_Idx).Name)) (fun hb368 => ?_) (fun hb368 => ?_)))
           ·refine CW.cond_f rfl (not_t hb368) (CW.skip (bn (tn (CW.region (sd rfl (yl_inc rfl rfl rfl oM (sM rfl (dn ?_))))))))
            have hB369 : B_s_GoodTable_0 p_0 k30 () = .cont () := by simp only [B_s_GoodTable_0, hb16, hb23, hb25, hb102, hb107, hb113, hb119, hb368, cL]
            exact ⟨p_0.Idxs.length - (k30 + 1), oM, k30 + 1, rfl, hlt90, oM, (sR rfl), (Box.ex q122 hE362), (RdS.ex gS (RdS.only gS (RdS.ex gS hf86 hE97) hO100 iV) hE362), (RdS.ex gI q126 hE362), (Ex.trans (Below.only (Ex.trans hf88 hE97) hO100 oM) hE362), (loopM.cont hlt90 hB369).symm.trans hI82⟩
           ·refine CW.cond_t rfl (not_f hb368) (cR (sA rfl (dn (CW.ret (br (tr ?_))))))
            refine tr ?_
            have hB379 : B_s_GoodTable_0 p_0 k30 () = .ret false := by simp only [B_s_GoodTable_0, hb16, hb23, hb25, hb102, hb107, hb113, hb119, hb368, cL]
            have hL378 : loopM (B_s_GoodTable_0 p_0) (p_0.Idxs.length - 0) 0 () = .ret false := hI82.symm.trans (loopM.ret hlt90 hB379)
            refine br (tr (rr rfl (.cons rfl .nil) ?_))
            rw [show (s_GoodTable p_0) = (false) by simp only [s_GoodTable, hb16, hb23, hb25, hb102, hb107, hb113, hb119, hb368, hL378, cL]]
            exact ⟨rfl, (Ex.trans (Below.only (Ex.trans hf88 hE97) hO100 oM) hE362)⟩
         ·have q386 := Box.only (Box.ex hf85 hE97) hO100 oM
          refine drJ 36 [.pointer (some ⟨b92, 0 + 0, none⟩), .string (bs ((p_0.Idxs.getD k30 d_Idx).Name)), .bool ((s_l24Letters ((p_0.Idxs.getD k30 d_Idx).Name) 1)), .bool (!(s_l24Letters ((p_0.Idxs.getD k30 d_Idx).Name) 1)), .bool (!(s_l24Letters ((p_0.Idxs.getD k30 d_Idx).Name) 1)), .pointer (some ⟨b92, 0 + 1, none⟩), .int .i64 ((p_0.Idxs.getD k30 d_Idx).Col), .pointer (some ⟨b7, 0 + 1, none⟩), .slice A1 p_0.Cols.length c1, .int .i64 ((p_0.Cols.length : Int)), .int .i64 (IntKind.wrap .i64 ((p_0.Cols.length : Int) - 1)), .bool ((s_l1In ((p_0.Idxs.getD k30 d_Idx).Col) 1 (IntKind.wrap .i64 ((p_0.Cols.length : Int) - 1)))), .bool (!(s_l1In ((p_0.Idxs.getD k30 d_Idx).Col) 1 (IntKind.wrap .i64 ((p_0.Cols.length : Int) - 1)))), .bool (!(s_l1In ((p_0.Idxs.getD k30 d_Idx).Col) 1 (IntKind.wrap .i64 ((p_0.Cols.length : Int) - 1)))), .bool (!(s_l1In ((p_0.Idxs.getD k30 d_Idx).Col) 1 (IntKind.wrap .i64 ((p_0.Cols.length : Int) - 1)))), .pointer (some ⟨b92, 0 + 2, none⟩), .int .i64 ((p_0.Idxs.getD k30 d_Idx).Stage), .bool ((s_l1In ((p_0.Idxs.getD k30 d_Idx).Stage) 0 3)), .bool (!(s_l1In ((p_0.Idxs.getD k30 d_Idx).Stage) 0 3)), .bool (!(s_l1In ((p_0.Idxs.getD k30 d_Idx).Stage) 0 3)), .bool (!(s_l1In ((p_0.Idxs.getD k30 d_Idx).Stage) 0 3)), .int .i64 ((k30 : Int)), .bool (decide (0 < (k30 : Int))), .bool (decide (0 < (k30 : Int))), undef, undef, undef, undef, undef, undef, undef, undef, undef, undef, .bool (false), .bool (false)] Tryz.follows rfl ?_ ?_
          ·refine ⟨oI rfl fun h => yl_fieldAddr fd111_0 rfl (h.g 4 rfl) kI, oI rfl fun h => yl_load1 ty9 rfl (h.g 29 rfl) (((Box.ex hB99 h.ex).cell 0).trans rfl) kI, ?_, oI rfl fun h => yl_not rfl (h.g 31 rfl) kI, oI rfl fun h => yM rfl (h.g 32 rfl) kI, oW rfl rfl rfl rfl (not_t hb102) fun h => yl_fieldAddr fd111_1 rfl (h.g 4 rfl) kI, oW rfl rfl rfl rfl (not_t hb102) fun h => yl_load1 ty3 rfl (h.g 34 rfl) (((Box.ex hB99 h.ex).cell 1).trans rfl) kI, oW rfl rfl rfl rfl (not_t hb102) fun h => yl_fieldAddr fd39_1 rfl (h.g 1 rfl) kI, oW rfl rfl rfl rfl (not_t hb102) fun h => yl_load1 ty22 rfl (h.g 36 rfl) (((Box.ex q386 h.ex).cell 1).trans rfl) kI, oW rfl rfl rfl rfl (not_t hb102) fun h => yL un22 rfl (h.g 37 rfl) kI, oW rfl rfl rfl rfl (not_t hb102) fun h => yl_sub rfl (h.g 38 rfl) rfl kI, ?_, oW rfl rfl rfl rfl (not_t hb102) fun h => yl_not rfl (h.g 40 rfl) kI, oI rfl fun h => yl_pick_f rfl (h.g 33 rfl) (not_t hb102) (h.g 41 rfl) kI, oI rfl fun h => yM rfl (h.g 42 rfl) kI, oW rfl rfl rfl rfl (not_t hb107) fun h => yl_fieldAddr fd111_2 rfl (h.g 4 rfl) kI, oW rfl rfl rfl rfl (not_t hb107) fun h => yl_load1 ty3 rfl (h.g 44 rfl) (((Box.ex hB99 h.ex).cell 2).trans rfl) kI, ?_, oW rfl rfl rfl rfl (not_t hb107) fun h => yl_not rfl (h.g 46 rfl) kI, oI rfl fun h => yl_pick_f rfl (h.g 43 rfl) (not_t hb107) (h.g 47 rfl) kI, oI rfl fun h => yM rfl (h.g 48 rfl) kI, oW rfl rfl rfl rfl (not_t hb113) fun h => yM rfl (h.g 3 rfl) kI, oW rfl rfl rfl rfl (not_t hb113) fun h => yl_gtr rfl (h.g 50 rfl) rfl kI, oW rfl rfl rfl rfl (not_t hb113) fun h => yM rfl (h.g 51 rfl) kI, oS rfl rfl rfl rfl rfl hb119, oS rfl rfl rfl rfl rfl hb119, oS rfl rfl rfl rfl rfl hb119, oS rfl rfl rfl rfl rfl hb119, oS rfl rfl rfl rfl rfl hb119, oS rfl rfl rfl rfl rfl hb119, oS rfl rfl rfl rfl rfl hb119, oS rfl rfl rfl rfl rfl hb119, oS rfl rfl rfl rfl rfl hb119, oS rfl rfl rfl rfl rfl hb119, oW rfl rfl rfl rfl (not_t hb113) fun h => yl_pick_f rfl (h.g 52 rfl) hb119 rfl kI, oI rfl fun h => yl_pick_f rfl (h.g 49 rfl) (not_t hb113) (h.g 63 rfl) kI, trivial⟩
           ·intro L400 w401 hi402
            exact OpR.op' rfl (yC en107 rfl (oc (hi402.g 30 rfl) (oc rfl oz)) (Cal.mono (c_s_l24Letters ((p_0.Idxs.getD k30 d_Idx).Name) 1 (okL.getD o3.2.2 ok_d_Idx _)) fun _ _ h => h))
           ·intro L456 w457 hi458
            exact OpR.want rfl rfl (hi458.g 33 rfl) (not_t hb102) (yC en91 rfl (oc (hi458.g 35 rfl) (oc rfl (oc (hi458.g 39 rfl) oz))) (Cal.mono (c_s_l1In ((p_0.Idxs.getD k30 d_Idx).Col) 1 (IntKind.wrap .i64 ((p_0.Cols.length : Int) - 1))) fun _ _ h => h))
           ·intro L496 w497 hi498
            exact OpR.want rfl rfl (hi498.g 43 rfl) (not_t hb107) (yC en91 rfl (oc (hi498.g 45 rfl) (oc rfl (oc rfl oz))) (Cal.mono (c_s_l1In ((p_0.Idxs.getD k30 d_Idx).Stage) 0 3) fun _ _ h => h))
          ·intro fl606 fh607 L603 w604 hp605
           have hE608 := hp605.ex
           have hE608z := Ex.size hE608
           refine dn (CW.sub (hp605.ss [1, 22, 23, 24, 64] rfl) (CW.cond_f rfl rfl (CW.skip (bn (tn (CW.region (sd rfl (yl_inc rfl rfl rfl oM ?_))))))))
           refine sM rfl (dn ?_)
           have hB614 : B_s_GoodTable_0 p_0 k30 () = .cont () := by simp only [B_s_GoodTable_0, hb16, hb23, hb25, hb102, hb107, hb113, hb119, cL]
           exact ⟨p_0.Idxs.length - (k30 + 1), oM, k30 + 1, rfl, hlt90, oM, (sR rfl), (Box.ex q386 hE608), (RdS.ex gS (RdS.only gS (RdS.ex gS hf86 hE97) hO100 iV) hE608), (RdS.ex gI (RdS.only gI (RdS.ex gI hf87 hE97) hO100 iV) hE608), (Ex.trans (Below.only (Ex.trans hf88 hE97) hO100 oM) hE608), (loopM.cont hlt90 hB614).symm.trans hI82⟩
        ·refine drJ 36 [.pointer (some ⟨b92, 0 + 0, none⟩), .string (bs ((p_0.Idxs.getD k30 d_Idx).Name)), .bool ((s_l24Letters ((p_0.Idxs.getD k30 d_Idx).Name) 1)), .bool (!(s_l24Letters ((p_0.Idxs.getD k30 d_Idx).Name) 1)), .bool (!(s_l24Letters ((p_0.Idxs.getD k30 d_Idx).Name) 1)), .pointer (some ⟨b92, 0 + 1, none⟩), .int .i64 ((p_0.Idxs.getD k30 d_Idx).Col), .pointer (some ⟨b7, 0 + 1, none⟩), .slice A1 p_0.Cols.length c1, .int .i64 ((p_0.Cols.length : Int)), .int .i64 (IntKind.wrap .i64 ((p_0.Cols.length : Int) - 1)), .bool ((s_l1In ((p_0.Idxs.getD k30 d_Idx).Col) 1 (IntKind.wrap .i64 ((p_0.Cols.length : Int) - 1)))), .bool (!(s_l1In ((p_0.Idxs.getD k30 d_Idx).Col) 1 (IntKind.wrap .i64 ((p_0.Cols.length : Int) - 1)))), .bool (!(s_l1In ((p_0.Idxs.getD k30 d_Idx).Col) 1 (IntKind.wrap .i64 ((p_0.Cols.length : Int) - 1)))), .bool (!(s_l1In ((p_0.Idxs.getD k30 d_Idx).Col) 1 (IntKind.wrap .i64 ((p_0.Cols.length : Int) - 1)))), .pointer (some ⟨b92, 0 + 2, none⟩), .int .i64 ((p_0.Idxs.getD k30 d_Idx).Stage), .bool ((s_l1In ((p_0.Idxs.getD k30 d_Idx).Stage) 0 3)), .bool (!(s_l1In ((p_0.Idxs.getD k30 d_Idx).Stage) 0 3)), .bool (!(s_l1In ((p_0.Idxs.getD k30 d_Idx).Stage) 0 3)), .bool (!(s_l1In ((p_0.Idxs.getD k30 d_Idx).Stage) 0 3)), undef, undef, undef, undef, undef, undef, undef, undef, undef, undef, undef, undef, undef, undef, .bool (true)] Tryz.follows rfl ?_ ?_
         ·refine ⟨oI rfl fun h => yl_fieldAddr fd111_0 rfl (h.g 4 rfl) kI, oI rfl fun h => yl_load1 ty9 rfl (h.g 29 rfl) (((Box.ex hB99 h.ex).cell 0).trans rfl) kI, ?_, oI rfl fun h => yl_not rfl (h.g 31 rfl) kI, oI rfl fun h => yM rfl (h.g 32 rfl) kI, oW rfl rfl rfl rfl (not_t hb102) fun h => yl_fieldAddr fd111_1 rfl (h.g 4 rfl) kI, oW rfl rfl rfl rfl (not_t hb102) fun h => yl_load1 ty3 rfl (h.g 34 rfl) (((Box.ex hB99 h.ex).cell 1).trans rfl) kI, oW rfl rfl rfl rfl (not_t hb102) fun h => yl_fieldAddr fd39_1 rfl (h.g 1 rfl) kI, ?_, oW rfl rfl rfl rfl (not_t hb102) fun h => yL un22 rfl (h.g 37 rfl) kI, oW rfl rfl rfl rfl (not_t hb102) fun h => yl_sub rfl (h.g 38 rfl) rfl kI, ?_, oW rfl rfl rfl rfl (not_t hb102) fun h => yl_not rfl (h.g 40 rfl) kI, oI rfl fun h => yl_pick_f rfl (h.g 33 rfl) (not_t hb102) (h.g 41 rfl) kI, oI rfl fun h => yM rfl (h.g 42 rfl) kI, oW rfl rfl rfl rfl (not_t hb107) fun h => yl_fieldAddr fd111_2 rfl (h.g 4 rfl) kI, oW rfl rfl rfl rfl (not_t hb107) fun h => yl_load1 ty3 rfl (h.g 44 rfl) (((Box.ex hB99 h.ex).cell 2).trans rfl) kI, ?_, oW rfl rfl rfl rfl (not_t hb107) fun h => yl_not rfl (h.g 46 rfl) kI, oI rfl fun h => yl_pick_f rfl (h.g 43 rfl) (not_t hb107) (h.g 47 rfl) kI, oI rfl fun h => yM rfl (h.g 48 rfl) kI, oS rfl rfl rfl rfl rfl (not_f hb113), oS rfl rfl rfl rfl rfl (not_f hb113), oS rfl rfl rfl rfl rfl (not_f hb113), oU rfl rfl rfl rfl rfl, oU rfl rfl rfl rfl rfl, oU rfl rfl rfl rfl rfl, oU rfl rfl rfl rfl rfl, oU rfl rfl rfl rfl rfl, oU rfl rfl rfl rfl rfl, oU rfl rfl rfl rfl rfl, oU rfl rfl rfl rfl rfl, oU rfl rfl rfl rfl rfl, oU rfl rfl rfl rfl rfl, oS rfl rfl rfl rfl rfl (not_f hb113), oI rfl fun h => yl_pick_t rfl (h.g 49 rfl) (not_f hb113) rfl kI, trivial⟩
          ·intro L641 w642 hi643
           exact OpR.op' rfl (yC en107 rfl (oc (hi643.g 30 rfl) (oc rfl oz)) (Cal.mono (c_s_l24Letters ((p_0.Idxs.getD k30 d_Idx).Name) 1 (okL.getD o3.2.2 ok_d_Idx _)) fun _ _ h => h))
          ·intro L678 w679 hi680
           have hE681 := hi680.ex
           have hE681z := Ex.size hE681
           exact OpR.want rfl rfl (hi680.g 33 rfl) (not_t hb102) (Yl.sameI (yl_load1 ty22 rfl (hi680.g 36 rfl) (((Box.ex (Box.only (Box.ex hf85 hE97) hO100 oM) hE681).cell 1).trans rfl) kI))
          ·intro L697 w698 hi699
           exact OpR.want rfl rfl (hi699.g 33 rfl) (not_t hb102) (yC en91 rfl (oc (hi699.g 35 rfl) (oc rfl (oc (hi699.g 39 rfl) oz))) (Cal.mono (c_s_l1In ((p_0.Idxs.getD k30 d_Idx).Col) 1 (IntKind.wrap .i64 ((p_0.Cols.length : Int) - 1))) fun _ _ h => h))
          ·intro L737 w738 hi739
           exact OpR.want rfl rfl (hi739.g 43 rfl) (not_t hb107) (yC en91 rfl (oc (hi739.g 45 rfl) (oc rfl (oc rfl oz))) (Cal.mono (c_s_l1In ((p_0.Idxs.getD k30 d_Idx).Stage) 0 3) fun _ _ h => h))
         ·intro fl842 fh843 L839 w840 hp841
          have hE844 := hp841.ex
          have hE844z := Ex.size hE844
          refine dn (CW.sub (hp841.ss [1, 22, 23, 24, 64] rfl) (CW.cond_t rfl rfl (cR (sA rfl (dn ?_)))))
          refine CW.ret (br (tr (tr ?_)))
          have hB851 : B_s_GoodTable_0 p_0 k30 () = .ret false := by simp only [B_s_GoodTable_0, hb16, hb23, hb25, hb102, hb107, hb113, cL]
          have hL850 : loopM (B_s_GoodTable_0 p_0) (p_0.Idxs.length - 0) 0 () = .ret false := hI82.symm.trans (loopM.ret hlt90 hB851)
          refine br (tr (rr rfl (.cons rfl .nil) ?_))
          rw [show (s_GoodTable p_0) = (false) by simp only [s_GoodTable, hb16, hb23, hb25, hb102, hb107, hb113, hL850, cL]]
          exact ⟨rfl, (Ex.trans (Below.only (Ex.trans hf88 hE97) hO100 oM) hE844)⟩
       ·refine drJ 36 [.pointer (some ⟨b92, 0 + 0, none⟩), .string (bs ((p_0.Idxs.getD k30 d_Idx).Name)), .bool ((s_l24Letters ((p_0.Idxs.getD k30 d_Idx).Name) 1)), .bool (!(s_l24Letters ((p_0.Idxs.getD k30 d_Idx).Name) 1)), .bool (!(s_l24Letters ((p_0.Idxs.getD k30 d_Idx).Name) 1)), .pointer (some ⟨b92, 0 + 1, none⟩), .int .i64 ((p_0.Idxs.getD k30 d_Idx).Col), .pointer (some ⟨b7, 0 + 1, none⟩), .slice A1 p_0.Cols.length c1, .int .i64 ((p_0.Cols.length : Int)), .int .i64 (IntKind.wrap .i64 ((p_0.Cols.length : Int) - 1)), .bool ((s_l1In ((p_0.Idxs.getD k30 d_Idx).Col) 1 (IntKind.wrap .i64 ((p_0.Cols.length : Int) - 1)))), .bool (!(s_l1In ((p_0.Idxs.getD k30 d_Idx).Col) 1 (IntKind.wrap .i64 ((p_0.Cols.length : Int) - 1)))), .bool (!(s_l1In ((p_0.Idxs.getD k30 d_Idx).Col) 1 (IntKind.wrap .i64 ((p_0.Cols.length : Int) - 1)))), .bool (!(s_l1In ((p_0.Idxs.getD k30 d_Idx).Col) 1 (IntKind.wrap .i64 ((p_0.Cols.length : Int) - 1)))), undef, undef, undef, undef, .bool (true), .bool (true), undef, undef, undef, undef, undef, undef, undef, undef, undef, undef, undef, undef, undef, undef, .bool (true)] Tryz.follows rfl ?_ ?_
        ·refine ⟨oI rfl fun h => yl_fieldAddr fd111_0 rfl (h.g 4 rfl) kI, oI rfl fun h => yl_load1 ty9 rfl (h.g 29 rfl) (((Box.ex hB99 h.ex).cell 0).trans rfl) kI, ?_, oI rfl fun h => yl_not rfl (h.g 31 rfl) kI, oI rfl fun h => yM rfl (h.g 32 rfl) kI, oW rfl rfl rfl rfl (not_t hb102) fun h => yl_fieldAddr fd111_1 rfl (h.g 4 rfl) kI, oW rfl rfl rfl rfl (not_t hb102) fun h => yl_load1 ty3 rfl (h.g 34 rfl) (((Box.ex hB99 h.ex).cell 1).trans rfl) kI, oW rfl rfl rfl rfl (not_t hb102) fun h => yl_fieldAddr fd39_1 rfl (h.g 1 rfl) kI, ?_, oW rfl rfl rfl rfl (not_t hb102) fun h => yL un22 rfl (h.g 37 rfl) kI, oW rfl rfl rfl rfl (not_t hb102) fun h => yl_sub rfl (h.g 38 rfl) rfl kI, ?_, oW rfl rfl rfl rfl (not_t hb102) fun h => yl_not rfl (h.g 40 rfl) kI, oI rfl fun h => yl_pick_f rfl (h.g 33 rfl) (not_t hb102) (h.g 41 rfl) kI, oI rfl fun h => yM rfl (h.g 42 rfl) kI, oS rfl rfl rfl rfl rfl (not_f hb107), oS rfl rfl rfl rfl rfl (not_f hb107), oS rfl rfl rfl rfl rfl (not_f hb107), oS rfl rfl rfl rfl rfl (not_f hb107), oI rfl fun h => yl_pick_t rfl (h.g 43 rfl) (not_f hb107) rfl kI, oI rfl fun h => yM rfl (h.g 48 rfl) kI, oS rfl rfl rfl rfl rfl rfl, oS rfl rfl rfl rfl rfl rfl, oS rfl rfl rfl rfl rfl rfl, oU rfl rfl rfl rfl rfl, oU rfl rfl rfl rfl rfl, oU rfl rfl rfl rfl rfl, oU rfl rfl rfl rfl rfl, oU rfl rfl rfl rfl rfl, oU rfl rfl rfl rfl rfl, oU rfl rfl rfl rfl rfl, oU rfl rfl rfl rfl rfl, oU rfl rfl rfl rfl rfl, oU rfl rfl rfl rfl rfl, oS rfl rfl rfl rfl rfl rfl, oI rfl fun h => yl_pick_t rfl (h.g 49 rfl) rfl rfl kI, trivial⟩
         ·intro L871 w872 hi873
          exact OpR.op' rfl (yC en107 rfl (oc (hi873.g 30 rfl) (oc rfl oz)) (Cal.mono (c_s_l24Letters ((p_0.Idxs.getD k30 d_Idx).Name) 1 (okL.getD o3.2.2 ok_d_Idx _)) fun _ _ h => h))
         ·intro L908 w909 hi910
          have hE911 := hi910.ex
          have hE911z := Ex.size hE911
          exact OpR.want rfl rfl (hi910.g 33 rfl) (not_t hb102) (Yl.sameI (yl_load1 ty22 rfl (hi910.g 36 rfl) (((Box.ex (Box.only (Box.ex hf85 hE97) hO100 oM) hE911).cell 1).trans rfl) kI))
         ·intro L927 w928 hi929
          exact OpR.want rfl rfl (hi929.g 33 rfl) (not_t hb102) (yC en91 rfl (oc (hi929.g 35 rfl) (oc rfl (oc (hi929.g 39 rfl) oz))) (Cal.mono (c_s_l1In ((p_0.Idxs.getD k30 d_Idx).Col) 1 (IntKind.wrap .i64 ((p_0.Cols.length : Int) - 1))) fun _ _ h => h))
        ·intro fl1064 fh1065 L1061 w1062 hp1063
         have hE1066 := hp1063.ex
         have hE1066z := Ex.size hE1066
         refine dn (CW.sub (hp1063.ss [1, 22, 23, 24, 64] rfl) (CW.cond_t rfl rfl (cR (sA rfl (dn ?_)))))
         refine CW.ret (br (tr (tr ?_)))
         have hB1073 : B_s_GoodTable_0 p_0 k30 () = .ret false := by simp only [B_s_GoodTable_0, hb16, hb23, hb25, hb102, hb107, cL]
         have hL1072 : loopM (B_s_GoodTable_0 p_0) (p_0.Idxs.length - 0) 0 () = .ret false := hI82.symm.trans (loopM.ret hlt90 hB1073)
         refine br (tr (rr rfl (.cons rfl .nil) ?_))
         rw [show (s_GoodTable p_0) = (false) by simp only [s_GoodTable, hb16, hb23, hb25, hb102, hb107, hL1072, cL]]
         exact ⟨rfl, (Ex.trans (Below.only (Ex.trans hf88 hE97) hO100 oM) hE1066)⟩
      ·refine drJ 36 [.pointer (some ⟨b92, 0 + 0, none⟩), .string (bs ((p_0.Idxs.getD k30 d_Idx).Name)), .bool ((s_l24Letters ((p_0.Idxs.getD k30 d_Idx).Name) 1)), .bool (!(s_l24Letters ((p_0.Idxs.getD k30 d_Idx).Name) 1)), .bool (!(s_l24Letters ((p_0.Idxs.getD k30 d_Idx).Name) 1)), undef, undef, undef, undef, undef, undef, undef, undef, .bool (true), .bool (true), undef, undef, undef, undef, .bool (true), .bool (true), undef, undef, undef, undef, undef, undef, undef, undef, undef, undef, undef, undef, undef, undef, .bool (true)] Tryz.follows rfl ?_ ?_
       ·refine ⟨oI rfl fun h => yl_fieldAddr fd111_0 rfl (h.g 4 rfl) kI, oI rfl fun h => yl_load1 ty9 rfl (h.g 29 rfl) (((Box.ex hB99 h.ex).cell 0).trans rfl) kI, ?_, oI rfl fun h => yl_not rfl (h.g 31 rfl) kI, oI rfl fun h => yM rfl (h.g 32 rfl) kI, oS rfl rfl rfl rfl rfl (not_f hb102), oS rfl rfl rfl rfl rfl (not_f hb102), oS rfl rfl rfl rfl rfl (not_f hb102), oS rfl rfl rfl rfl rfl (not_f hb102), oS rfl rfl rfl rfl rfl (not_f hb102), oS rfl rfl rfl rfl rfl (not_f hb102), oS rfl rfl rfl rfl rfl (not_f hb102), oS rfl rfl rfl rfl rfl (not_f hb102), oI rfl fun h => yl_pick_t rfl (h.g 33 rfl) (not_f hb102) rfl kI, oI rfl fun h => yM rfl (h.g 42 rfl) kI, oS rfl rfl rfl rfl rfl rfl, oS rfl rfl rfl rfl rfl rfl, oS rfl rfl rfl rfl rfl rfl, oS rfl rfl rfl rfl rfl rfl, oI rfl fun h => yl_pick_t rfl (h.g 43 rfl) rfl rfl kI, oI rfl fun h => yM rfl (h.g 48 rfl) kI, oS rfl rfl rfl rfl rfl rfl, oS rfl rfl rfl rfl rfl rfl, oS rfl rfl rfl rfl rfl rfl, oU rfl rfl rfl rfl rfl, oU rfl rfl rfl rfl rfl, oU rfl rfl rfl rfl rfl, oU rfl rfl rfl rfl rfl, oU rfl rfl rfl rfl rfl, oU rfl rfl rfl rfl rfl, oU rfl rfl rfl rfl rfl, oU rfl rfl rfl rfl rfl, oU rfl rfl rfl rfl rfl, oU rfl rfl rfl rfl rfl, oS rfl rfl rfl rfl rfl rfl, oI rfl fun h => yl_pick_t rfl (h.g 49 rfl) rfl rfl kI, trivial⟩
        ·intro L1090 w1091 hi1092
         exact OpR.op' rfl (yC en107 rfl (oc (hi1092.g 30 rfl) (oc rfl oz)) (Cal.mono (c_s_l24Letters ((p_0.Idxs.getD k30 d_Idx).Name) 1 (okL.getD o3.2.2 ok_d_Idx _)) fun _ _ h => h))
       ·intro fl1269 fh1270 L1266 w1267 hp1268
        have hE1271 := hp1268.ex
        have hE1271z := Ex.size hE1271
        refine dn (CW.sub (hp1268.ss [1, 22, 23, 24, 64] rfl) (CW.cond_t rfl rfl (cR (sA rfl (dn ?_)))))
        refine CW.ret (br (tr (tr ?_)))
        have hB1278 : B_s_GoodTable_0 p_0 k30 () = .ret false := by simp only [B_s_GoodTable_0, hb16, hb23, hb25, hb102, cL]
        have hL1277 : loopM (B_s_GoodTable_0 p_0) (p_0.Idxs.length - 0) 0 () = .ret false := hI82.symm.trans (loopM.ret hlt90 hB1278)
        refine br (tr (rr rfl (.cons rfl .nil) ?_))
        rw [show (s_GoodTable p_0) = (false) by simp only [s_GoodTable, hb16, hb23, hb25, hb102, hL1277, cL]]
        exact ⟨rfl, (Ex.trans (Below.only (Ex.trans hf88 hE97) hO100 oM) hE1271)⟩
     ·refine cR (sd rfl (yl_lss rfl rfl rfl (dn (CW.seq (CW.cond_f rfl (lt_f hlt90) (CW.exit (tx ?_)))))))
      refine tx ?_
      have hL1283 : loopM (B_s_GoodTable_0 p_0) (p_0.Idxs.length - 0) 0 () = .done () := hI82.symm.trans (loopM.stop hlt90)
      refine bx (tn (cR (sA rfl (dn (CW.ret (rr rfl (.cons rfl .nil) ?_))))))
      rw [show (s_GoodTable p_0) = (true) by simp only [s_GoodTable, hb16, hb23, hb25, hL1283, cL]]
      exact ⟨rfl, hf88⟩
  ·refine sz rfl rfl (not_f hb23) (sz rfl rfl (not_f hb23) (sz rfl rfl (not_f hb23) (sz rfl rfl (not_f hb23) (sd rfl (yl_pick_t rfl rfl (not_f hb23) rfl (dn (CW.cond_t rfl rfl (CW.seq ?_))))))))
   refine CW.region (sA rfl (dn (CW.ret (tr (rr rfl (.cons rfl .nil) ?_)))))
   rw [show (s_GoodTable p_0) = (false) by simp only [s_GoodTable, hb16, hb23, cL]]
   exact ⟨rfl, (Ex.trans (Ex.trans (Ex.trans (Ex.refl w) hE12) hE15) hE22)⟩
 ·refine sz rfl rfl (not_f hb16) (sz rfl rfl (not_f hb16) (sz rfl rfl (not_f hb16) (sz rfl rfl (not_f hb16) (sd rfl (yl_pick_t rfl rfl (not_f hb16) rfl (sM rfl (sz rfl rfl rfl (sz rfl rfl rfl (sz rfl rfl rfl ?_)))))))))
  refine sz rfl rfl rfl (sd rfl (yl_pick_t rfl rfl rfl rfl (dn (CW.cond_t rfl rfl (cR (sA rfl (SeqR.done ?_)))))))
  refine tn (CW.ret (tr (rr rfl (.cons rfl .nil) ?_)))
  rw [show (s_GoodTable p_0) = (false) by simp only [s_GoodTable, hb16, cL]]
  exact ⟨rfl, (Ex.trans (Ex.trans (Ex.refl w) hE12) hE15)⟩
theorem c_s_l3Bytes {w : World} (p_s : Str) (p_more : Str) (o1 : okS p_s) (o2 : okS p_more) : Cal Tryz.prog 139 #[.string (bs (p_s)), .string (bs (p_more))] w fun v w' => v = .bool ((s_l3Bytes p_s p_more)) ∧ Ex w w' := by
 have hol3 : p_s.length ≤ 1073741824 := o1
 have hol4 : p_more.length ≤ 1073741824 := o2
 refine Cal.of func139 rfl ntmps139 rfl (cR (sA rfl (dn (CW.seq (cR ?_)))))
 refine sA rfl (dn (CW.block (CW.loop (fun m6 L7 w8 => ∃ (k5 : Nat), m6 = p_s.length - k5 ∧ k5 ≤ p_s.length ∧ w.heap.size ≤ w8.heap.size ∧ Sub [(0, .string (bs (p_s))), (1, .string (bs (p_more))), (5, .int .i64 ((k5 : Int)))] L7 ∧ Ex w w8 ∧ loopM (B_s_l3Bytes_0 p_s p_more) (p_s.length - k5) k5 () = loopM (B_s_l3Bytes_0 p_s p_more) (p_s.length - 0) 0 ()) (p_s.length - 0) ?_ ?_)))
 ·exact ⟨0, rfl, oM, Nat.le_refl _, (sR rfl), (Ex.refl w), rfl⟩
 ·rintro m9 L10 w11 ⟨k5, rfl, hk12, hsz14, hl15, hf16, hI13⟩
  refine CW.sub hl15 ?_
  have hf16z := Ex.size hf16
  have hbg17 : p_s.length ≤ 1073741824 := o1
  rcases Nat.lt_or_ge k5 p_s.length with hlt18 | hlt18
  ·refine CW.seq (cR (sM rfl (sM rfl (sd rfl (yl_slen un9 (a := p_s) rfl rfl (sd rfl (yl_lss rfl rfl rfl (dn ?_))))))))
   refine CW.cond_t rfl (lt_t hlt18) (CW.skip (tn (CW.seq (CW.block (cR (sM rfl (sM rfl ?_)))))))
   refine sd rfl (yl_sindexN un9 (a := p_s) rfl rfl rfl Bo (sd rfl (yl_geq rfl rfl rfl (sM rfl (bcD (q := 97 ≤ ((p_s.getD k5 0).toNat : Int)) (fun hb19 hb19p => ?_) (fun hb19 hb19p => ?_))))))
   ·refine sy rfl rfl hb19 (yM rfl rfl (sy rfl rfl hb19 (yM rfl rfl (sy rfl rfl hb19 (yl_sindexN un9 (a := p_s) rfl rfl rfl Bo (sy rfl rfl hb19 (yl_leq rfl rfl rfl (sd rfl (yl_pick_t rfl rfl hb19 rfl (sM rfl (bcD (q := ((p_s.getD k5 0).toNat : Int) ≤ 122) (fun hb20 hb20p => ?_) (fun hb20 hb20p => ?_))))))))))))
    ·refine sz rfl rfl hb20 (sz rfl rfl hb20 (sz rfl rfl hb20 (sz rfl rfl hb20 (sz rfl rfl hb20 (sq rfl rfl (sq rfl rfl (sq rfl rfl (sq rfl rfl ?_))))))))
     refine sz rfl rfl hb20 (sd rfl (yl_pick_t rfl rfl hb20 rfl (sA rfl (dn (CW.seq (cR (sA rfl ?_)))))))
     refine dn (CW.block (CW.loop (fun m23 L24 w25 => ∃ (k21 : Nat) (x22 : Bool), m23 = p_more.length - k21 ∧ k21 ≤ p_more.length ∧ w11.heap.size ≤ w25.heap.size ∧ Sub [(0, .string (bs (p_s))), (1, .string (bs (p_more))), (5, .int .i64 ((k5 : Int))), (6, .bool (x22)), (7, .int .i64 ((k21 : Int)))] L24 ∧ Ex w w25 ∧ loopM (B_s_l3Bytes_1 p_s p_more k5) (p_more.length - k21) k21 (x22) = loopM (B_s_l3Bytes_1 p_s p_more k5) (p_more.length - 0) 0 (true)) (p_more.length - 0) ?_ ?_))
     ·exact ⟨0, true, rfl, oM, Nat.le_refl _, (sR rfl), hf16, rfl⟩
     ·rintro m26 L27 w28 ⟨k21, x22, rfl, hk29, hsz31, hl32, hf33, hI30⟩
      refine CW.sub hl32 ?_
      have hf33z := Ex.size hf33
      have hbg34 : p_more.length ≤ 1073741824 := o2
      rcases Nat.lt_or_ge k21 p_more.length with hlt35 | hlt35
      ·refine CW.seq (cR (sM rfl (sM rfl (sd rfl (yl_slen un9 (a := p_more) rfl rfl (sd rfl (yl_lss rfl rfl rfl (dn ?_))))))))
       refine CW.cond_t rfl (lt_t hlt35) (CW.skip (tn (CW.seq (CW.block (bcase (x22) (fun hb36 => ?_) (fun hb36 => ?_))))))
       ·refine drJ 11 [.bool (x22), .bool (x22), undef, undef, undef, undef, undef, undef, undef, .bool (true), .bool (true)] Tryz.follows rfl ⟨oI rfl fun h => yM rfl (h.g 6 rfl) kI, oI rfl fun h => yM rfl (h.g 42 rfl) kI, oS rfl rfl rfl rfl rfl hb36, oS rfl rfl rfl rfl rfl hb36, oS rfl rfl rfl rfl rfl hb36, oS rfl rfl rfl rfl rfl hb36, oS rfl rfl rfl rfl rfl hb36, oS rfl rfl rfl rfl rfl hb36, oS rfl rfl rfl rfl rfl hb36, oI rfl fun h => yl_pick_t rfl (h.g 43 rfl) hb36 rfl kI, oI rfl fun h => yA rfl (h.g 51 rfl) kI, trivial⟩ ?_
        ·intro fl96 fh97 L93 w94 hp95
         have hE98 := hp95.ex
         have hE98z := Ex.size hE98
         refine SeqR.done (bn (tn (CW.sub (hp95.ss [0, 1, 5, 6, 7] rfl) (CW.region (sM rfl (sd rfl (yl_inc rfl rfl rfl oM (sA rfl (SeqR.done ?_)))))))))
         refine tn ?_
         have hB104 : B_s_l3Bytes_1 p_s p_more k5 k21 (x22) = .cont (true) := by simp only [B_s_l3Bytes_1, hb19, hb20, hb36, cL]
         exact ⟨p_more.length - (k21 + 1), oM, k21 + 1, true, rfl, hlt35, oM, (sR rfl), (Ex.trans hf33 hE98), (loopM.cont hlt35 hB104).symm.trans hI30⟩
       ·refine drJ 11 [.bool (x22), .bool (x22), .string (bs (p_s)), .int .i64 ((k5 : Int)), .int .u8 (((p_s.getD k5 0).toNat : Int)), .string (bs (p_more)), .int .i64 ((k21 : Int)), .int .u8 (((p_more.getD k21 0).toNat : Int)), .bool (decide (((p_s.getD k5 0).toNat : Int) = ((p_more.getD k21 0).toNat : Int))), .bool (decide (((p_s.getD k5 0).toNat : Int) = ((p_more.getD k21 0).toNat : Int))), .bool (decide (((p_s.getD k5 0).toNat : Int) = ((p_more.getD k21 0).toNat : Int)))] Tryz.follows rfl ⟨oI rfl fun h => yM rfl (h.g 6 rfl) kI, oI rfl fun h => yM rfl (h.g 42 rfl) kI, oW rfl rfl rfl rfl hb36 fun h => yM rfl (h.g 0 rfl) kI, oW rfl rfl rfl rfl hb36 fun h => yM rfl (h.g 5 rfl) kI, ?_, oW rfl rfl rfl rfl hb36 fun h => yM rfl (h.g 1 rfl) kI, oW rfl rfl rfl rfl hb36 fun h => yM rfl (h.g 7 rfl) kI, ?_, oW rfl rfl rfl rfl hb36 fun h => yl_eql rfl (h.g 46 rfl) (h.g 49 rfl) kI, oI rfl fun h => yl_pick_f rfl (h.g 43 rfl) hb36 (h.g 50 rfl) kI, oI rfl fun h => yA rfl (h.g 51 rfl) kI, trivial⟩ ?_
        ·intro L128 w129 hi130
         have hE131 := hi130.ex
         have hE131z := Ex.size hE131
         exact OpR.want rfl rfl (hi130.g 43 rfl) hb36 (Yl.sameI (yl_sindexN un9 (a := p_s) rfl (hi130.g 44 rfl) (hi130.g 45 rfl) Bo kI))
        ·intro L147 w148 hi149
         have hE150 := hi149.ex
         have hE150z := Ex.size hE150
         exact OpR.want rfl rfl (hi149.g 43 rfl) hb36 (Yl.sameI (yl_sindexN un9 (a := p_more) rfl (hi149.g 47 rfl) (hi149.g 48 rfl) Bo kI))
        ·intro fl175 fh176 L172 w173 hp174
         have hE177 := hp174.ex
         have hE177z := Ex.size hE177
         refine SeqR.done (bn (tn (CW.sub (hp174.ss [0, 1, 5, 6, 7] rfl) (CW.region (sM rfl (sd rfl (yl_inc rfl rfl rfl oM (sA rfl (SeqR.done ?_)))))))))
         refine tn ?_
         have hB183 : B_s_l3Bytes_1 p_s p_more k5 k21 (x22) = .cont (decide (((p_s.getD k5 0).toNat : Int) = ((p_more.getD k21 0).toNat : Int))) := by simp only [B_s_l3Bytes_1, hb19, hb20, hb36, cL]
         exact ⟨p_more.length - (k21 + 1), oM, k21 + 1, decide (((p_s.getD k5 0).toNat : Int) = ((p_more.getD k21 0).toNat : Int)), rfl, hlt35, oM, (sR rfl), (Ex.trans hf33 hE177), (loopM.cont hlt35 hB183).symm.trans hI30⟩
      ·refine CW.seq (cR (sM rfl (sM rfl (sd rfl (yl_slen un9 (a := p_more) rfl rfl (sd rfl (yl_lss rfl rfl rfl (dn ?_))))))))
       refine CW.cond_f rfl (lt_f hlt35) (CW.exit (tx (tx ?_)))
       have hL185 : loopM (B_s_l3Bytes_1 p_s p_more k5) (p_more.length - 0) 0 (true) = .done (x22) := hI30.symm.trans (loopM.stop hlt35)
       refine bx (tn (cR (sM rfl (sd rfl (yl_not rfl rfl (dn (bcase (x22) (fun hb186 => ?_) (fun hb186 => ?_))))))))
       ·refine CW.cond_f rfl (not_t hb186) (CW.skip (bn (tn (CW.region (sM rfl (sd rfl (yl_inc rfl rfl rfl oM (sA rfl (SeqR.done ?_)))))))))
        refine tn ?_
        have hB187 : B_s_l3Bytes_0 p_s p_more k5 () = .cont () := by simp only [B_s_l3Bytes_0, hb19, hb20, hb186, hL185, cL]
        exact ⟨p_s.length - (k5 + 1), oM, k5 + 1, rfl, hlt18, oM, (sR rfl), hf33, (loopM.cont hlt18 hB187).symm.trans hI13⟩
       ·refine CW.cond_t rfl (not_f hb186) (cR (sA rfl (dn (CW.ret (br (tr ?_))))))
        refine tr ?_
        have hB189 : B_s_l3Bytes_0 p_s p_more k5 () = .ret false := by simp only [B_s_l3Bytes_0, hb19, hb20, hb186, hL185, cL]
        have hL188 : loopM (B_s_l3Bytes_0 p_s p_more) (p_s.length - 0) 0 () = .ret false := hI13.symm.trans (loopM.ret hlt18 hB189)
        refine br (tr (rr rfl (.cons rfl .nil) ?_))
        rw [show (s_l3Bytes p_s p_more) = (false) by simp only [s_l3Bytes, hb19, hb20, hb186, hL185, hL188, cL]]
        exact ⟨rfl, hf33⟩
    ·refine sy rfl rfl hb20 (yM rfl rfl (sy rfl rfl hb20 (yM rfl rfl (sy rfl rfl hb20 (yl_sindexN un9 (a := p_s) rfl rfl rfl Bo (sy rfl rfl hb20 (yl_geq rfl rfl rfl (sy rfl rfl hb20 (yM rfl rfl (bcD (q := 48 ≤ ((p_s.getD k5 0).toNat : Int)) (fun hb191 hb191p => ?_) (fun hb191 hb191p => ?_)))))))))))
     ·refine sy rfl rfl hb191 (yM rfl rfl (sy rfl rfl hb191 (yM rfl rfl (sy rfl rfl hb191 (yl_sindexN un9 (a := p_s) rfl rfl rfl Bo (sy rfl rfl hb191 (yl_leq rfl rfl rfl (sy rfl rfl hb20 (yl_pick_t rfl rfl hb191 rfl (sd rfl (yl_pick_f rfl rfl hb20 rfl (sA rfl (dn ?_)))))))))))))
      refine CW.seq (cR (sA rfl (dn (CW.block (CW.loop (fun m194 L195 w196 => ∃ (k192 : Nat) (x193 : Bool), m194 = p_more.length - k192 ∧ k192 ≤ p_more.length ∧ w11.heap.size ≤ w196.heap.size ∧ Sub [(0, .string (bs (p_s))), (1, .string (bs (p_more))), (5, .int .i64 ((k5 : Int))), (6, .bool (x193)), (7, .int .i64 ((k192 : Int)))] L195 ∧ Ex w w196 ∧ loopM (B_s_l3Bytes_1 p_s p_more k5) (p_more.length - k192) k192 (x193) = loopM (B_s_l3Bytes_1 p_s p_more k5) (p_more.length - 0) 0 (decide (((p_s.getD k5 0).toNat : Int) ≤ 57))) (p_more.length - 0) ?_ ?_)))))
      ·exact ⟨0, decide (((p_s.getD k5 0).toNat : Int) ≤ 57), rfl, oM, Nat.le_refl _, (sR rfl), hf16, rfl⟩
      ·rintro m197 L198 w199 ⟨k192, x193, rfl, hk200, hsz202, hl203, hf204, hI201⟩
       refine CW.sub hl203 ?_
       have hf204z := Ex.size hf204
       have hbg205 : p_more.length ≤ 1073741824 := o2
       rcases Nat.lt_or_ge k192 p_more.length with hlt206 | hlt206
       ·refine CW.seq (cR (sM rfl (sM rfl (sd rfl (yl_slen un9 (a := p_more) rfl rfl (sd rfl (yl_lss rfl rfl rfl (dn ?_))))))))
        refine CW.cond_t rfl (lt_t hlt206) (CW.skip (tn (CW.seq (CW.block (bcase (x193) (fun hb207 => ?_) (fun hb207 => ?_))))))
        ·refine drJ 11 [.bool (x193), .bool (x193), undef, undef, undef, undef, undef, undef, undef, .bool (true), .bool (true)] Tryz.follows rfl ⟨oI rfl fun h => yM rfl (h.g 6 rfl) kI, oI rfl fun h => yM rfl (h.g 42 rfl) kI, oS rfl rfl rfl rfl rfl hb207, oS rfl rfl rfl rfl rfl hb207, oS rfl rfl rfl rfl rfl hb207, oS rfl rfl rfl rfl rfl hb207, oS rfl rfl rfl rfl rfl hb207, oS rfl rfl rfl rfl rfl hb207, oS rfl rfl rfl rfl rfl hb207, oI rfl fun h => yl_pick_t rfl (h.g 43 rfl) hb207 rfl kI, oI rfl fun h => yA rfl (h.g 51 rfl) kI, trivial⟩ ?_
         ·intro fl267 fh268 L264 w265 hp266
          have hE269 := hp266.ex
          have hE269z := Ex.size hE269
          refine SeqR.done (bn (tn (CW.sub (hp266.ss [0, 1, 5, 6, 7] rfl) (CW.region (sM rfl (sd rfl (yl_inc rfl rfl rfl oM (sA rfl (SeqR.done ?_)))))))))
          refine tn ?_
          have hB275 : B_s_l3Bytes_1 p_s p_more k5 k192 (x193) = .cont (true) := by simp only [B_s_l3Bytes_1, hb19, hb20, hb191, hb207, cL]
          exact ⟨p_more.length - (k192 + 1), oM, k192 + 1, true, rfl, hlt206, oM, (sR rfl), (Ex.trans hf204 hE269), (loopM.cont hlt206 hB275).symm.trans hI201⟩
        ·refine drJ 11 [.bool (x193), .bool (x193), .string (bs (p_s)), .int .i64 ((k5 : Int)), .int .u8 (((p_s.getD k5 0).toNat : Int)), .string (bs (p_more)), .int .i64 ((k192 : Int)), .int .u8 (((p_more.getD k192 0).toNat : Int)), .bool (decide (((p_s.getD k5 0).toNat : Int) = ((p_more.getD k192 0).toNat : Int))), .bool (decide (((p_s.getD k5 0).toNat : Int) = ((p_more.getD k192 0).toNat : Int))), .bool (decide (((p_s.getD k5 0).toNat : Int) = ((p_more.getD k192 0).toNat : Int)))] Tryz.follows rfl ⟨oI rfl fun h => yM rfl (h.g 6 rfl) kI, oI rfl fun h => yM rfl (h.g 42 rfl) kI, oW rfl rfl rfl rfl hb207 fun h => yM rfl (h.g 0 rfl) kI, oW rfl rfl rfl rfl hb207 fun h => yM rfl (h.g 5 rfl) kI, ?_, oW rfl rfl rfl rfl hb207 fun h => yM rfl (h.g 1 rfl) kI, oW rfl rfl rfl rfl hb207 fun h => yM rfl (h.g 7 rfl) kI, ?_, oW rfl rfl rfl rfl hb207 fun h => yl_eql rfl (h.g 46 rfl) (h.g 49 rfl) kI, oI rfl fun h => yl_pick_f rfl (h.g 43 rfl) hb207 (h.g 50 rfl) kI, oI rfl fun h => yA rfl (h.g 51 rfl) kI, trivial⟩ ?_
         ·intro L299 w300 hi301
          have hE302 := hi301.ex
          have hE302z := Ex.size hE302
          exact OpR.want rfl rfl (hi301.g 43 rfl) hb207 (Yl.sameI (yl_sindexN un9 (a := p_s) rfl (hi301.g 44 rfl) (hi301.g 45 rfl) Bo kI))
         ·intro L318 w319 hi320
          have hE321 := hi320.ex
          have hE321z := Ex.size hE321
          exact OpR.want rfl rfl (hi320.g 43 rfl) hb207 (Yl.sameI (yl_sindexN un9 (a := p_more) rfl (hi320.g 47 rfl) (hi320.g 48 rfl) Bo kI))
         ·intro fl346 fh347 L343 w344 hp345
          have hE348 := hp345.ex
          have hE348z := Ex.size hE348
          refine SeqR.done (bn (tn (CW.sub (hp345.ss [0, 1, 5, 6, 7] rfl) (CW.region (sM rfl (sd rfl (yl_inc rfl rfl rfl oM (sA rfl (SeqR.done ?_)))))))))
          refine tn ?_
          have hB354 : B_s_l3Bytes_1 p_s p_more k5 k192 (x193) = .cont (decide (((p_s.getD k5 0).toNat : Int) = ((p_more.getD k192 0).toNat : Int))) := by simp only [B_s_l3Bytes_1, hb19, hb20, hb191, hb207, cL]
          exact ⟨p_more.length - (k192 + 1), oM, k192 + 1, decide (((p_s.getD k5 0).toNat : Int) = ((p_more.getD k192 0).toNat : Int)), rfl, hlt206, oM, (sR rfl), (Ex.trans hf204 hE348), (loopM.cont hlt206 hB354).symm.trans hI201⟩
       ·refine CW.seq (cR (sM rfl (sM rfl (sd rfl (yl_slen un9 (a := p_more) rfl rfl (sd rfl (yl_lss rfl rfl rfl (dn ?_))))))))
        refine CW.cond_f rfl (lt_f hlt206) (CW.exit (tx (tx ?_)))
        have hL356 : loopM (B_s_l3Bytes_1 p_s p_more k5) (p_more.length - 0) 0 (decide (((p_s.getD k5 0).toNat : Int) ≤ 57)) = .done (x193) := hI201.symm.trans (loopM.stop hlt206)
        refine bx (tn (cR (sM rfl (sd rfl (yl_not rfl rfl (dn (bcase (x193) (fun hb357 => ?_) (fun hb357 => ?_))))))))
        ·refine CW.cond_f rfl (not_t hb357) (CW.skip (bn (tn (CW.region (sM rfl (sd rfl (yl_inc rfl rfl rfl oM (sA rfl (SeqR.done ?_)))))))))
         refine tn ?_
         have hB358 : B_s_l3Bytes_0 p_s p_more k5 () = .cont () := by simp only [B_s_l3Bytes_0, hb19, hb20, hb191, hb357, hL356, cL]
         exact ⟨p_s.length - (k5 + 1), oM, k5 + 1, rfl, hlt18, oM, (sR rfl), hf204, (loopM.cont hlt18 hB358).symm.trans hI13⟩
        ·refine CW.cond_t rfl (not_f hb357) (cR (sA rfl (dn (CW.ret (br (tr ?_))))))
         refine tr ?_
         have hB360 : B_s_l3Bytes_0 p_s p_more k5 () = .ret false := by simp only [B_s_l3Bytes_0, hb19, hb20, hb191, hb357, hL356, cL]
         have hL359 : loopM (B_s_l3Bytes_0 p_s p_more) (p_s.length - 0) 0 () = .ret false := hI13.symm.trans (loopM.ret hlt18 hB360)
         refine br (tr (rr rfl (.cons rfl .nil) ?_))
         rw [show (s_l3Bytes p_s p_more) = (false) by simp only [s_l3Bytes, hb19, hb20, hb191, hb357, hL356, hL359, cL]]
         exact ⟨rfl, hf204⟩
     ·refine sz rfl rfl hb191 (sz rfl rfl hb191 (sz rfl rfl hb191 (sz rfl rfl hb191 (sy rfl rfl hb20 (yl_pick_f rfl rfl hb191 rfl (sd rfl (yl_pick_f rfl rfl hb20 rfl (sA rfl (dn ?_)))))))))
      refine CW.seq (cR (sA rfl (dn (CW.block (CW.loop (fun m364 L365 w366 => ∃ (k362 : Nat) (x363 : Bool), m364 = p_more.length - k362 ∧ k362 ≤ p_more.length ∧ w11.heap.size ≤ w366.heap.size ∧ Sub [(0, .string (bs (p_s))), (1, .string (bs (p_more))), (5, .int .i64 ((k5 : Int))), (6, .bool (x363)), (7, .int .i64 ((k362 : Int)))] L365 ∧ Ex w w366 ∧ loopM (B_s_l3Bytes_1 p_s p_more k5) (p_more.length - k362) k362 (x363) = loopM (B_s_l3Bytes_1 p_s p_more k5) (p_more.length - 0) 0 (false)) (p_more.length - 0) ?_ ?_)))))
      ·exact ⟨0, false, rfl, oM, Nat.le_refl _, (sR rfl), hf16, rfl⟩
      ·rintro m367 L368 w369 ⟨k362, x363, rfl, hk370, hsz372, hl373, hf374, hI371⟩
       refine CW.sub hl373 ?_
       have hf374z := Ex.size hf374
       have hbg375 : p_more.length ≤ 1073741824 := o2
       rcases Nat.lt_or_ge k362 p_more.length with hlt376 | hlt376
       ·refine CW.seq (cR (sM rfl (sM rfl (sd rfl (yl_slen un9 (a := p_more) rfl rfl (sd rfl (yl_lss rfl rfl rfl (dn ?_))))))))
        refine CW.cond_t rfl (lt_t hlt376) (CW.skip (tn (CW.seq (CW.block (bcase (x363) (fun hb377 => ?_) (fun hb377 => ?_))))))
        ·refine drJ 11 [.bool (x363), .bool (x363), undef, undef, undef, undef, undef, undef, undef, .bool (true), .bool (true)] Tryz.follows rfl ⟨oI rfl fun h => yM rfl (h.g 6 rfl) kI, oI rfl fun h => yM rfl (h.g 42 rfl) kI, oS rfl rfl rfl rfl rfl hb377, oS rfl rfl rfl rfl rfl hb377, oS rfl rfl rfl rfl rfl hb377, oS rfl rfl rfl rfl rfl hb377, oS rfl rfl rfl rfl rfl hb377, oS rfl rfl rfl rfl rfl hb377, oS rfl rfl rfl rfl rfl hb377, oI rfl fun h => yl_pick_t rfl (h.g 43 rfl) hb377 rfl kI, oI rfl fun h => yA rfl (h.g 51 rfl) kI, trivial⟩ ?_
         ·intro fl437 fh438 L434 w435 hp436
          have hE439 := hp436.ex
          have hE439z := Ex.size hE439
          refine SeqR.done (bn (tn (CW.sub (hp436.ss [0, 1, 5, 6, 7] rfl) (CW.region (sM rfl (sd rfl (yl_inc rfl rfl rfl oM (sA rfl (SeqR.done ?_)))))))))
          refine tn ?_
          have hB445 : B_s_l3Bytes_1 p_s p_more k5 k362 (x363) = .cont (true) := by simp only [B_s_l3Bytes_1, hb19, hb20, hb191, hb377, cL]
          exact ⟨p_more.length - (k362 + 1), oM, k362 + 1, true, rfl, hlt376, oM, (sR rfl), (Ex.trans hf374 hE439), (loopM.cont hlt376 hB445).symm.trans hI371⟩
        ·refine drJ 11 [.bool (x363), .bool (x363), .string (bs (p_s)), .int .i64 ((k5 : Int)), .int .u8 (((p_s.getD k5 0).toNat : Int)), .string (bs (p_more)), .int .i64 ((k362 : Int)), .int .u8 (((p_more.getD k362 0).toNat : Int)), .bool (decide (((p_s.getD k5 0).toNat : Int) = ((p_more.getD k362 0).toNat : Int))), .bool (decide (((p_s.getD k5 0).toNat : Int) = ((p_more.getD k362 0).toNat : Int))), .bool (decide (((p_s.getD k5 0).toNat : Int) = ((p_more.getD k362 0).toNat : Int)))] Tryz.follows rfl ⟨oI rfl fun h => yM rfl (h.g 6 rfl) kI, oI rfl fun h => yM rfl (h.g 42 rfl) kI, oW rfl rfl rfl rfl hb377 fun h => yM rfl (h.g 0 rfl) kI, oW rfl rfl rfl rfl hb377 fun h => yM rfl (h.g 5 rfl) kI, ?_, oW rfl rfl rfl rfl hb377 fun h => yM rfl (h.g 1 rfl) kI, oW rfl rfl rfl rfl hb377 fun h => yM rfl (h.g 7 rfl) kI, ?_, oW rfl rfl rfl rfl hb377 fun h => yl_eql rfl (h.g 46 rfl) (h.g 49 rfl) kI, oI rfl fun h => yl_pick_f rfl (h.g 43 rfl) hb377 (h.g 50 rfl) kI, oI rfl fun h => yA rfl (h.g 51 rfl) kI, trivial⟩ ?_
         ·intro L469 w470 hi471
          have hE472 := hi471.ex
          have hE472z := Ex.size hE472
          exact OpR.want rfl rfl (hi471.g 43 rfl) hb377 (Yl.sameI (yl_sindexN un9 (a := p_s) rfl (hi471.g 44 rfl) (hi471.g 45 rfl) Bo kI))
         ·intro L488 w489 hi490
          have hE491 := hi490.ex
          have hE491z := Ex.size hE491
          exact OpR.want rfl rfl (hi490.g 43 rfl) hb377 (Yl.sameI (yl_sindexN un9 (a := p_more) rfl (hi490.g 47 rfl) (hi490.g 48 rfl) Bo kI))
         ·intro fl516 fh517 L513 w514 hp515
          have hE518 := hp515.ex
          have hE518z := Ex.size hE518
          refine SeqR.done (bn (tn (CW.sub (hp515.ss [0, 1, 5, 6, 7] rfl) (CW.region (sM rfl (sd rfl (yl_inc rfl rfl rfl oM (sA rfl (SeqR.done ?_)))))))))
          refine tn ?_
          have hB524 : B_s_l3Bytes_1 p_s p_more k5 k362 (x363) = .cont (decide (((p_s.getD k5 0).toNat : Int) = ((p_more.getD k362 0).toNat : Int))) := by simp only [B_s_l3Bytes_1, hb19, hb20, hb191, hb377, cL]
          exact ⟨p_more.length - (k362 + 1), oM, k362 + 1, decide (((p_s.getD k5 0).toNat : Int) = ((p_more.getD k362 0).toNat : Int)), rfl, hlt376, oM, (sR rfl), (Ex.trans hf374 hE518), (loopM.cont hlt376 hB524).symm.trans hI371⟩
       ·refine CW.seq (cR (sM rfl (sM rfl (sd rfl (yl_slen un9 (a := p_more) rfl rfl (sd rfl (yl_lss rfl rfl rfl (dn ?_))))))))
        refine CW.cond_f rfl (lt_f hlt376) (CW.exit (tx (tx ?_)))
        have hL526 : loopM (B_s_l3Bytes_1 p_s p_more k5) (p_more.length - 0) 0 (false) = .done (x363) := hI371.symm.trans (loopM.stop hlt376)
        refine bx (tn (cR (sM rfl (sd rfl (yl_not rfl rfl (dn (bcase (x363) (fun hb527 => ?_) (fun hb527 => ?_))))))))
        ·refine CW.cond_f rfl (not_t hb527) (CW.skip (bn (tn (CW.region (sM rfl (sd rfl (yl_inc rfl rfl rfl oM (sA rfl (SeqR.done ?_)))))))))
         refine tn ?_
         have hB528 : B_s_l3Bytes_0 p_s p_more k5 () = .cont () := by simp only [B_s_l3Bytes_0, hb19, hb20, hb191, hb527, hL526, cL]
         exact ⟨p_s.length - (k5 + 1), oM, k5 + 1, rfl, hlt18, oM, (sR rfl), hf374, (loopM.cont hlt18 hB528).symm.trans hI13⟩
        ·refine CW.cond_t rfl (not_f hb527) (cR (sA rfl (dn (CW.ret (br (tr ?_))))))
         refine tr ?_
         have hB530 : B_s_l3Bytes_0 p_s p_more k5 () = .ret false := by simp only [B_s_l3Bytes_0, hb19, hb20, hb191, hb527, hL526, cL]
         have hL529 : loopM (B_s_l3Bytes_0 p_s p_more) (p_s.length - 0) 0 () = .ret false := hI13.symm.trans (loopM.ret hlt18 hB530)
         refine br (tr (rr rfl (.cons rfl .nil) ?_))
         rw [show (s_l3Bytes p_s p_more) = (false) by simp only [s_l3Bytes, hb19, hb20, hb191, hb527, hL526, hL529, cL]]
         exact ⟨rfl, hf374⟩
   ·refine sz rfl rfl hb19 (sz rfl rfl hb19 (sz rfl rfl hb19 (sz rfl rfl hb19 (sd rfl (yl_pick_f rfl rfl hb19 rfl (sM rfl (sy rfl rfl rfl (yM rfl rfl (sy rfl rfl rfl (yM rfl rfl (sy rfl rfl rfl (yl_sindexN un9 (a := p_s) rfl rfl rfl Bo ?_))))))))))))
    refine sy rfl rfl rfl (yl_geq rfl rfl rfl (sy rfl rfl rfl (yM rfl rfl (bcD (q := 48 ≤ ((p_s.getD k5 0).toNat : Int)) (fun hb532 hb532p => ?_) (fun hb532 hb532p => ?_)))))
    ·refine sy rfl rfl hb532 (yM rfl rfl (sy rfl rfl hb532 (yM rfl rfl (sy rfl rfl hb532 (yl_sindexN un9 (a := p_s) rfl rfl rfl Bo (sy rfl rfl hb532 (yl_leq rfl rfl rfl (sy rfl rfl rfl (yl_pick_t rfl rfl hb532 rfl (sd rfl (yl_pick_f rfl rfl rfl rfl (sA rfl (dn ?_)))))))))))))
     refine CW.seq (cR (sA rfl (dn (CW.block (CW.loop (fun m535 L536 w537 => ∃ (k533 : Nat) (x534 : Bool), m535 = p_more.length - k533 ∧ k533 ≤ p_more.length ∧ w11.heap.size ≤ w537.heap.size ∧ Sub [(0, .string (bs (p_s))), (1, .string (bs (p_more))), (5, .int .i64 ((k5 : Int))), (6, .bool (x534)), (7, .int .i64 ((k533 : Int)))] L536 ∧ Ex w w537 ∧ loopM (B_s_l3Bytes_1 p_s p_more k5) (p_more.length - k533) k533 (x534) = loopM (B_s_l3Bytes_1 p_s p_more k5) (p_more.length - 0) 0 (decide (((p_s.getD k5 0).toNat : Int) ≤ 57))) (p_more.length - 0) ?_ ?_)))))
     ·exact ⟨0, decide (((p_s.getD k5 0).toNat : Int) ≤ 57), rfl, oM, Nat.le_refl _, (sR rfl), hf16, rfl⟩
     ·rintro m538 L539 w540 ⟨k533, x534, rfl, hk541, hsz543, hl544, hf545, hI542⟩
      refine CW.sub hl544 ?_
      have hf545z := Ex.size hf545
      have hbg546 : p_more.length ≤ 1073741824 := o2
      rcases Nat.lt_or_ge k533 p_more.length with hlt547 | hlt547
      ·refine CW.seq (cR (sM rfl (sM rfl (sd rfl (yl_slen un9 (a := p_more) rfl rfl (sd rfl (yl_lss rfl rfl rfl (dn ?_))))))))
       refine CW.cond_t rfl (lt_t hlt547) (CW.skip (tn (CW.seq (CW.block (bcase (x534) (fun hb548 => ?_) (fun hb548 => ?_))))))
       ·refine drJ 11 [.bool (x534), .bool (x534), undef, undef, undef, undef, undef, undef, undef, .bool (true), .bool (true)] Tryz.follows rfl ⟨oI rfl fun h => yM rfl (h.g 6 rfl) kI, oI rfl fun h => yM rfl (h.g 42 rfl) kI, oS rfl rfl rfl rfl rfl hb548, oS rfl rfl rfl rfl rfl hb548, oS rfl rfl rfl rfl rfl hb548, oS rfl rfl rfl rfl rfl hb548, oS rfl rfl rfl rfl rfl hb548, oS rfl rfl rfl rfl rfl hb548, oS rfl rfl rfl rfl rfl hb548, oI rfl fun h => yl_pick_t rfl (h.g 43 rfl) hb548 rfl kI, oI rfl fun h => yA rfl (h.g 51 rfl) kI, trivial⟩ ?_
        ·intro fl608 fh609 L605 w606 hp607
         have hE610 := hp607.ex
         have hE610z := Ex.size hE610
         refine SeqR.done (bn (tn (CW.sub (hp607.ss [0, 1, 5, 6, 7] rfl) (CW.region (sM rfl (sd rfl (yl_inc rfl rfl rfl oM (sA rfl (SeqR.done ?_)))))))))
         refine tn ?_
         have hB616 : B_s_l3Bytes_1 p_s p_more k5 k533 (x534) = .cont (true) := by simp only [B_s_l3Bytes_1, hb19, hb532, hb548, cL]
         exact ⟨p_more.length - (k533 + 1), oM, k533 + 1, true, rfl, hlt547, oM, (sR rfl), (Ex.trans hf545 hE610), (loopM.cont hlt547 hB616).symm.trans hI542⟩
       ·refine drJ 11 [.bool (x534), .bool (x534), .string (bs (p_s)), .int .i64 ((k5 : Int)), .int .u8 (((p_s.getD k5 0).toNat : Int)), .string (bs (p_more)), .int .i64 ((k533 : Int)), .int .u8 (((p_more.getD k533 0).toNat : Int)), .bool (decide (((p_s.getD k5 0).toNat : Int) = ((p_more.getD k533 0).toNat : Int))), .bool (decide (((p_s.getD k5 0).toNat : Int) = ((p_more.getD k533 0).toNat : Int))), .bool (decide (((p_s.getD k5 0).toNat : Int) = ((p_more.getD k533 0).toNat : Int)))] Tryz.follows rfl ⟨oI rfl fun h => yM rfl (h.g 6 rfl) kI, oI rfl fun h => yM rfl (h.g 42 rfl) kI, oW rfl rfl rfl rfl hb548 fun h => yM rfl (h.g 0 rfl) kI, oW rfl rfl rfl rfl hb548 fun h => yM rfl (h.g 5 rfl) kI, ?_, oW rfl rfl rfl rfl hb548 fun h => yM rfl (h.g 1 rfl) kI, oW rfl rfl rfl rfl hb548 fun h => yM rfl (h.g 7 rfl) kI, ?_, oW rfl rfl rfl rfl hb548 fun h => yl_eql rfl (h.g 46 rfl) (h.g 49 rfl) kI, oI rfl fun h => yl_pick_f rfl (h.g 43 rfl) hb548 (h.g 50 rfl) kI, oI rfl fun h => yA rfl (h.g 51 rfl) kI, trivial⟩ ?_
        ·intro L640 w641 hi642
         have hE643 := hi642.ex
         have hE643z := Ex.size hE643
         exact OpR.want rfl rfl (hi642.g 43 rfl) hb548 (Yl.sameI (yl_sindexN un9 (a := p_s) rfl (hi642.g 44 rfl) (hi642.g 45 rfl) Bo kI))
        ·intro L659 w660 hi661
         have hE662 := hi661.ex
         have hE662z := Ex.size hE662
         exact OpR.want rfl rfl (hi661.g 43 rfl) hb548 (Yl.sameI (yl_sindexN un9 (a := p_more) rfl (hi661.g 47 rfl) (hi661.g 48 rfl) Bo kI))
        ·intro fl687 fh688 L684 w685 hp686
         have hE689 := hp686.ex
         have hE689z := Ex.size hE689
         refine SeqR.done (bn (tn (CW.sub (hp686.ss [0, 1, 5, 6, 7] rfl) (CW.region (sM rfl (sd rfl (yl_inc rfl rfl rfl oM (sA rfl (SeqR.done ?_)))))))))
         refine tn ?_
         have hB695 : B_s_l3Bytes_1 p_s p_more k5 k533 (x534) = .cont (decide (((p_s.getD k5 0).toNat : Int) = ((p_more.getD k533 0).toNat : Int))) := by simp only [B_s_l3Bytes_1, hb19, hb532, hb548, cL]
         exact ⟨p_more.length - (k533 + 1), oM, k533 + 1, decide (((p_s.getD k5 0).toNat : Int) = ((p_more.getD k533 0).toNat : Int)), rfl, hlt547, oM, (sR rfl), (Ex.trans hf545 hE689), (loopM.cont hlt547 hB695).symm.trans hI542⟩
      ·refine CW.seq (cR (sM rfl (sM rfl (sd rfl (yl_slen un9 (a := p_more) rfl rfl (sd rfl (yl_lss rfl rfl rfl (dn ?_))))))))
       refine CW.cond_f rfl (lt_f hlt547) (CW.exit (tx (tx ?_)))
       have hL697 : loopM (B_s_l3Bytes_1 p_s p_more k5) (p_more.length - 0) 0 (decide (((p_s.getD k5 0).toNat : Int) ≤ 57)) = .done (x534) := hI542.symm.trans (loopM.stop hlt547)
       refine bx (tn (cR (sM rfl (sd rfl (yl_not rfl rfl (dn (bcase (x534) (fun hb698 => ?_) (fun hb698 => ?_))))))))
       ·refine CW.cond_f rfl (not_t hb698) (CW.skip (bn (tn (CW.region (sM rfl (sd rfl (yl_inc rfl rfl rfl oM (sA rfl (SeqR.done ?_)))))))))
        refine tn ?_
        have hB699 : B_s_l3Bytes_0 p_s p_more k5 () = .cont () := by simp only [B_s_l3Bytes_0, hb19, hb532, hb698, hL697, cL]
        exact ⟨p_s.length - (k5 + 1), oM, k5 + 1, rfl, hlt18, oM, (sR rfl), hf545, (loopM.cont hlt18 hB699).symm.trans hI13⟩
       ·refine CW.cond_t rfl (not_f hb698) (cR (sA rfl (dn (CW.ret (br (tr ?_))))))
        refine tr ?_
        have hB701 : B_s_l3Bytes_0 p_s p_more k5 () = .ret false := by simp only [B_s_l3Bytes_0, hb19, hb532, hb698, hL697, cL]
        have hL700 : loopM (B_s_l3Bytes_0 p_s p_more) (p_s.length - 0) 0 () = .ret false := hI13.symm.trans (loopM.ret hlt18 hB701)
        refine br (tr (rr rfl (.cons rfl .nil) ?_))
        rw [show (s_l3Bytes p_s p_more) = (false) by simp only [s_l3Bytes, hb19, hb532, hb698, hL697, hL700, cL]]
        exact ⟨rfl, hf545⟩
    ·refine sz rfl rfl hb532 (sz rfl rfl hb532 (sz rfl rfl hb532 (sz rfl rfl hb532 (sy rfl rfl rfl (yl_pick_f rfl rfl hb532 rfl (sd rfl (yl_pick_f rfl rfl rfl rfl (sA rfl (dn ?_)))))))))
     refine CW.seq (cR (sA rfl (dn (CW.block (CW.loop (fun m705 L706 w707 => ∃ (k703 : Nat) (x704 : Bool), m705 = p_more.length - k703 ∧ k703 ≤ p_more.length ∧ w11.heap.size ≤ w707.heap.size ∧ Sub [(0, .string (bs (p_s))), (1, .string (bs (p_more))), (5, .int .i64 ((k5 : Int))), (6, .bool (x704)), (7, .int .i64 ((k703 : Int)))] L706 ∧ Ex w w707 ∧ loopM (B_s_l3Bytes_1 p_s p_more k5) (p_more.length - k703) k703 (x704) = loopM (B_s_l3Bytes_1 p_s p_more k5) (p_more.length - 0) 0 (false)) (p_more.length - 0) ?_ ?_)))))
     ·exact ⟨0, false, rfl, oM, Nat.le_refl _, (sR rfl), hf16, rfl⟩
     ·rintro m708 L709 w710 ⟨k703, x704, rfl, hk711, hsz713, hl714, hf715, hI712⟩
      refine CW.sub hl714 ?_
      have hf715z := Ex.size hf715
      have hbg716 : p_more.length ≤ 1073741824 := o2
      rcases Nat.lt_or_ge k703 p_more.length with hlt717 | hlt717
      ·refine CW.seq (cR (sM rfl (sM rfl (sd rfl (yl_slen un9 (a := p_more) rfl rfl (sd rfl (yl_lss rfl rfl rfl (dn ?_))))))))
       refine CW.cond_t rfl (lt_t hlt717) (CW.skip (tn (CW.seq (CW.block (bcase (x704) (fun hb718 => ?_) (fun hb718 => ?_))))))
       ·refine drJ 11 [.bool (x704), .bool (x704), undef, undef, undef, undef, undef, undef, undef, .bool (true), .bool (true)] Tryz.follows rfl ⟨oI rfl fun h => yM rfl (h.g 6 rfl) kI, oI rfl fun h => yM rfl (h.g 42 rfl) kI, oS rfl rfl rfl rfl rfl hb718, oS rfl rfl rfl rfl rfl hb718, oS rfl rfl rfl rfl rfl hb718, oS rfl rfl rfl rfl rfl hb718, oS rfl rfl rfl rfl rfl hb718, oS rfl rfl rfl rfl rfl hb718, oS rfl rfl rfl rfl rfl hb718, oI rfl fun h => yl_pick_t rfl (h.g 43 rfl) hb718 rfl kI, oI rfl fun h => yA rfl (h.g 51 rfl) kI, trivial⟩ ?_
        ·intro fl778 fh779 L775 w776 hp777
         have hE780 := hp777.ex
         have hE780z := Ex.size hE780
         refine SeqR.done (bn (tn (CW.sub (hp777.ss [0, 1, 5, 6, 7] rfl) (CW.region (sM rfl (sd rfl (yl_inc rfl rfl rfl oM (sA rfl (SeqR.done ?_)))))))))
         refine tn ?_
         have hB786 : B_s_l3Bytes_1 p_s p_more k5 k703 (x704) = .cont (true) := by simp only [B_s_l3Bytes_1, hb19, hb532, hb718, cL]
         exact ⟨p_more.length - (k703 + 1), oM, k703 + 1, true, rfl, hlt717, oM, (sR rfl), (Ex.trans hf715 hE780), (loopM.cont hlt717 hB786).symm.trans hI712⟩
       ·refine drJ 11 [.bool (x704), .bool (x704), .string (bs (p_s)), .int .i64 ((k5 : Int)), .int .u8 (((p_s.getD k5 0).toNat : Int)), .string (bs (p_more)), .int .i64 ((k703 : Int)), .int .u8 (((p_more.getD k703 0).toNat : Int)), .bool (decide (((p_s.getD k5 0).toNat : Int) = ((p_more.getD k703 0).toNat : Int))), .bool (decide (((p_s.getD k5 0).toNat : Int) = ((p_more.getD k703 0).toNat : Int))), .bool (decide (((p_s.getD k5 0).toNat : Int) = ((p_more.getD k703 0).toNat : Int)))] Tryz.follows rfl ⟨oI rfl fun h => yM rfl (h.g 6 rfl) kI, oI rfl fun h => yM rfl (h.g 42 rfl) kI, oW rfl rfl rfl rfl hb718 fun h => yM rfl (h.g 0 rfl) kI, oW rfl rfl rfl rfl hb718 fun h => yM rfl (h.g 5 rfl) kI, ?_, oW rfl rfl rfl rfl hb718 fun h => yM rfl (h.g 1 rfl) kI, oW rfl rfl rfl rfl hb718 fun h => yM rfl (h.g 7 rfl) kI, ?_, oW rfl rfl rfl rfl hb718 fun h => yl_eql rfl (h.g 46 rfl) (h.g 49 rfl) kI, oI rfl fun h => yl_pick_f rfl (h.g 43 rfl) hb718 (h.g 50 rfl) kI, oI rfl fun h => yA rfl (h.g 51 rfl) kI, trivial⟩ ?_
        ·intro L810 w811 hi812
         have hE813 := hi812.ex
         have hE813z := Ex.size hE813
         exact OpR.want rfl rfl (hi812.g 43 rfl) hb718 (Yl.sameI (yl_sindexN un9 (a := p_s) rfl (hi812.g 44 rfl) (hi812.g 45 rfl) Bo kI))
        ·intro L829 w830 hi831
         have hE832 := hi831.ex
         have hE832z := Ex.size hE832
         exact OpR.want rfl rfl (hi831.g 43 rfl) hb718 (Yl.sameI (yl_sindexN un9 (a := p_more) rfl (hi831.g 47 rfl) (hi831.g 48 rfl) Bo kI))
        ·intro fl857 fh858 L854 w855 hp856
         have hE859 := hp856.ex
         have hE859z := Ex.size hE859
         refine SeqR.done (bn (tn (CW.sub (hp856.ss [0, 1, 5, 6, 7] rfl) (CW.region (sM rfl (sd rfl (yl_inc rfl rfl rfl oM (sA rfl (SeqR.done ?_)))))))))
         refine tn ?_
         have hB865 : B_s_l3Bytes_1 p_s p_more k5 k703 (x704) = .cont (decide (((p_s.getD k5 0).toNat : Int) = ((p_more.getD k703 0).toNat : Int))) := by simp only [B_s_l3Bytes_1, hb19, hb532, hb718, cL]
         exact ⟨p_more.length - (k703 + 1), oM, k703 + 1, decide (((p_s.getD k5 0).toNat : Int) = ((p_more.getD k703 0).toNat : Int)), rfl, hlt717, oM, (sR rfl), (Ex.trans hf715 hE859), (loopM.cont hlt717 hB865).symm.trans hI712⟩
      ·refine CW.seq (cR (sM rfl (sM rfl (sd rfl (yl_slen un9 (a := p_more) rfl rfl (sd rfl (yl_lss rfl rfl rfl (dn ?_))))))))
       refine CW.cond_f rfl (lt_f hlt717) (CW.exit (tx (tx ?_)))
       have hL867 : loopM (B_s_l3Bytes_1 p_s p_more k5) (p_more.length - 0) 0 (false) = .done (x704) := hI712.symm.trans (loopM.stop hlt717)
       refine bx (tn (cR (sM rfl (sd rfl (yl_not rfl rfl (dn (bcase (x704) (fun hb868 => ?_) (fun hb868 => ?_))))))))
       ·refine CW.cond_f rfl (not_t hb868) (CW.skip (bn (tn (CW.region (sM rfl (sd rfl (yl_inc rfl rfl rfl oM (sA rfl (SeqR.done ?_)))))))))
        refine tn ?_
        have hB869 : B_s_l3Bytes_0 p_s p_more k5 () = .cont () := by simp only [B_s_l3Bytes_0, hb19, hb532, hb868, hL867, cL]
        exact ⟨p_s.length - (k5 + 1), oM, k5 + 1, rfl, hlt18, oM, (sR rfl), hf715, (loopM.cont hlt18 hB869).symm.trans hI13⟩
       ·refine CW.cond_t rfl (not_f hb868) (cR (sA rfl (dn (CW.ret (br (tr ?_))))))
        refine tr ?_
        have hB871 : B_s_l3Bytes_0 p_s p_more k5 () = .ret false := by simp only [B_s_l3Bytes_0, hb19, hb532, hb868, hL867, cL]
        have hL870 : loopM (B_s_l3Bytes_0 p_s p_more) (p_s.length - 0) 0 () = .ret false := hI13.symm.trans (loopM.ret hlt18 hB871)
        refine br (tr (rr rfl (.cons rfl .nil) ?_))
        rw [show (s_l3Bytes p_s p_more) = (false) by simp only [s_l3Bytes, hb19, hb532, hb868, hL867, hL870, cL]]
        exact ⟨rfl, hf715⟩
  ·refine CW.seq (cR (sM rfl (sM rfl (sd rfl (yl_slen un9 (a := p_s) rfl rfl (sd rfl (yl_lss rfl rfl rfl (dn ?_))))))))
   refine CW.cond_f rfl (lt_f hlt18) (CW.exit (tx (tx ?_)))
   have hL873 : loopM (B_s_l3Bytes_0 p_s p_more) (p_s.length - 0) 0 () = .done () := hI13.symm.trans (loopM.stop hlt18)
   refine bx (tn (cR (sA rfl (dn (CW.ret (rr rfl (.cons rfl .nil) ?_))))))
   rw [show (s_l3Bytes p_s p_more) = (true) by simp only [s_l3Bytes, hL873, cL]]
   exact ⟨rfl, hf16⟩
theorem c_s_l25Field {w : World} (p_s : Str) (o1 : okS p_s) : Cal Tryz.prog 167 #[.string (bs (p_s))] w fun v w' => v = .bool ((s_l25Field p_s)) ∧ Ex w w' := by
 refine Cal.of func167 rfl ntmps167 rfl (cR (sA rfl (dn (cR (sM rfl ?_)))))
 refine sd rfl (yl_slen un9 (a := p_s) rfl rfl (sd rfl (yC en91 rfl (oc rfl (oc rfl (oc rfl oz))) (Cal.mono (c_s_l1In (p_s.length : Int) 1 3) ?_))))
 rintro v4 w3 ⟨rfl, hE5⟩
 refine sM rfl (bcase (s_l1In (p_s.length : Int) 1 3) (fun hb6 => ?_) (fun hb6 => ?_))
 ·have hb6p := f_l1In hb6
  refine sy rfl rfl hb6 (yM rfl rfl (sy rfl rfl hb6 (yC en139 rfl (oc rfl (oc rfl oz)) (Cal.mono (c_s_l3Bytes p_s ([] : Str) o1 (okS.lit rfl)) ?_))))
  rintro v8 w7 ⟨rfl, hE9⟩
  refine sd rfl (yl_pick_t rfl rfl hb6 rfl (sA rfl (dn (CW.ret (rr rfl (.cons rfl .nil) ?_)))))
  rw [show (s_l25Field p_s) = ((s_l3Bytes p_s ([] : Str))) by simp only [s_l25Field, hb6, cL]]
  exact ⟨rfl, (Ex.trans (Ex.trans (Ex.refl w) hE5) hE9)⟩
 ·refine sz rfl rfl hb6 (sz rfl rfl hb6 (sd rfl (yl_pick_f rfl rfl hb6 rfl (sA rfl (dn (CW.ret (rr rfl (.cons rfl .nil) ?_)))))))
  rw [show (s_l25Field p_s) = (false) by simp only [s_l25Field, hb6, cL]]
  exact ⟨rfl, (Ex.trans (Ex.refl w) hE5)⟩
theorem c_s_l25Good {A1 : Option Addr} {c1 : Nat} {A2 : Option Addr} {c2 : Nat} {A4 : Option Addr} {c4 : Nat} {w : World} (p_t : DTable) (p_r : DRow) (h1 : RdS w (Iv 0 w.heap.size) (RF e_Str) 1 A1 p_t.Cols.length c1 p_t.Cols) (h2 : RdS w (Iv 0 w.heap.size) (RF e_Idx) 3 A2 p_t.Idxs.length c2 p_t.Idxs) (h4 : RdS w (Iv 0 w.heap.size) (RF e_Str) 1 A4 p_r.Vals.length c4 p_r.Vals) (o3 : ok_Table p_t) (o5 : ok_Row p_r) : Cal Tryz.prog 120 #[.agg #[.string (bs (p_t.Name)), .slice A1 p_t.Cols.length c1, .slice A2 p_t.Idxs.length c2], .agg #[.slice A4 p_r.Vals.length c4]] w fun v w' => v = .bool ((s_l25Good p_t p_r)) ∧ Ex w w' := by
 have hol6 : p_t.Name.length ≤ 1073741824 := o3.1
 have hol7 := o3.2.1.1
 have hol8 := o3.2.2.1
 have hol9 := o5.1
 refine Cal.of func120 rfl ntmps120 rfl (cR (sd rfl (yl_box rfl rfl rfl ?_)))
 intro b10 w11 hs12 hz13 hB14 hE15
 refine sd rfl (yl_box rfl rfl rfl ?_)
 intro b16 w17 hs18 hz19 hB20 hE21
 refine sA rfl (dn (CW.seq (cR (sd rfl (yl_fieldAddr fd42_0 rfl rfl (sd rfl (yl_load1 ty22 rfl rfl ((hB20.cell 0).trans rfl) (sd rfl (yL un22 rfl rfl ?_)))))))))
 refine sM rfl (dn (CW.block (CW.loop (fun m23 L24 w25 => ∃ (k22 : Nat), m23 = p_r.Vals.length - k22 ∧ k22 ≤ p_r.Vals.length ∧ w17.heap.size ≤ w25.heap.size ∧ Sub [(2, .pointer (some ⟨b10, 0, none⟩)), (3, .pointer (some ⟨b16, 0, none⟩)), (8, .slice A4 p_r.Vals.length c4), (9, .int .i64 ((p_r.Vals.length : Int))), (10, .int .i64 ((k22 : Int)))] L24 ∧ Box w25 b10 39 [.string (bs (p_t.Name)), .slice A1 p_t.Cols.length c1, .slice A2 p_t.Idxs.length c2] ∧ RdS w25 (Iv 0 w.heap.size) (RF e_Str) 1 A1 p_t.Cols.length c1 p_t.Cols ∧ RdS w25 (Iv 0 w.heap.size) (RF e_Idx) 3 A2 p_t.Idxs.length c2 p_t.Idxs ∧ Box w25 b16 42 [.slice A4 p_r.Vals.length c4] ∧ RdS w25 (Iv 0 w.heap.size) (RF e_Str) 1 A4 p_r.Vals.length c4 p_r.Vals ∧ Ex w w25 ∧ loopM (B_s_l25Good_0 p_t p_r) (p_r.Vals.length - k22) k22 () = loopM (B_s_l25Good_0 p_t p_r) (p_r.Vals.length - 0) 0 ()) (p_r.Vals.length - 0) ?_ ?_)))
 ·exact ⟨0, rfl, oM, Nat.le_refl _, (sR rfl), (Box.ex hB14 hE21), (RdS.ex gS (RdS.ex gS h1 hE15) hE21), (RdS.ex gI (RdS.ex gI h2 hE15) hE21), hB20, (RdS.ex gS (RdS.ex gS h4 hE15) hE21), (Ex.trans (Ex.trans (Ex.refl w) hE15) hE21), rfl⟩
 ·rintro m35 L36 w37 ⟨k22, rfl, hk38, hsz40, hl41, hf42, hf43, hf44, hf45, hf46, hf47, hI39⟩
  refine CW.sub hl41 ?_
  have hf42z := Box.lt hf42
  have hf45z := Box.lt hf45
  have hf47z := Ex.size hf47
  have hbg48 := RdS.big hf46
  rcases Nat.lt_or_ge k22 p_r.Vals.length with hlt49 | hlt49
  ·refine cR (sd rfl (yl_lss rfl rfl rfl (dn (CW.seq (CW.cond_t rfl (lt_t hlt49) (CW.skip (tn ?_)))))))
   refine CW.seq (CW.block (cR ?_))
   obtain ⟨_, _, _, eA50, _, ebl50, _, eR50, eC50⟩ := RdS.aD hf46 d_Str (i := k22)
   obtain rfl := eR50
   refine sd rfl (yl_ixN un22 ty9 rfl rfl rfl eA50 (sd rfl (yl_load1 ty9 rfl rfl (eC50 0 _ rfl) (sA rfl (dn (cR (sM rfl (sd rfl (yC en167 rfl (oc rfl oz) (Cal.mono (c_s_l25Field (p_r.Vals.getD k22 d_Str) (okL.getD o5 ok_d_Str _)) ?_))))))))))
   rintro v52 w51 ⟨rfl, hE53⟩
   have hE53z := Ex.size hE53
   refine sd rfl (yl_not rfl rfl (dn (bcase (s_l25Field (p_r.Vals.getD k22 d_Str)) (fun hb54 => ?_) (fun hb54 => ?_))))
   ·refine CW.cond_f rfl (not_t hb54) (CW.skip (bn (tn (CW.region (sd rfl (yl_inc rfl rfl rfl oM (sM rfl (dn ?_))))))))
    have hB55 : B_s_l25Good_0 p_t p_r k22 () = .cont () := by simp only [B_s_l25Good_0, hb54, cL]
    exact ⟨p_r.Vals.length - (k22 + 1), oM, k22 + 1, rfl, hlt49, oM, (sR rfl), (Box.ex hf42 hE53), (RdS.ex gS hf43 hE53), (RdS.ex gI hf44 hE53), (Box.ex hf45 hE53), (RdS.ex gS hf46 hE53), (Ex.trans hf47 hE53), (loopM.cont hlt49 hB55).symm.trans hI39⟩
   ·refine CW.cond_t rfl (not_f hb54) (cR (sA rfl (dn (CW.ret (br (tr ?_))))))
    refine tr ?_
    have hB63 : B_s_l25Good_0 p_t p_r k22 () = .ret false := by simp only [B_s_l25Good_0, hb54, cL]
    have hL62 : loopM (B_s_l25Good_0 p_t p_r) (p_r.Vals.length - 0) 0 () = .ret false := hI39.symm.trans (loopM.ret hlt49 hB63)
    refine br (tr (rr rfl (.cons rfl .nil) ?_))
    rw [show (s_l25Good p_t p_r) = (false) by simp only [s_l25Good, hb54, hL62, cL]]
    exact ⟨rfl, (Ex.trans hf47 hE53)⟩
  ·refine cR (sd rfl (yl_lss rfl rfl rfl (dn (CW.seq (CW.cond_f rfl (lt_f hlt49) (CW.exit (tx ?_)))))))
   refine tx ?_
   have hL66 : loopM (B_s_l25Good_0 p_t p_r) (p_r.Vals.length - 0) 0 () = .done () := hI39.symm.trans (loopM.stop hlt49)
   refine bx (tn (cR (sd rfl (yl_fieldAddr fd42_0 rfl rfl (sd rfl (yl_load1 ty22 rfl rfl ((hf45.cell 0).trans rfl) (sd rfl (yL un22 rfl rfl (sd rfl (yl_fieldAddr fd39_1 rfl rfl (sd rfl (yl_load1 ty22 rfl rfl ((hf42.cell 1).trans rfl) ?_))))))))))))
   refine sd rfl (yL un22 rfl rfl (sd rfl (yl_eql rfl rfl rfl (sA rfl (dn (CW.ret (rr rfl (.cons rfl .nil) ?_)))))))
   rw [show (s_l25Good p_t p_r) = (decide ((p_r.Vals.length : Int) = (p_t.Cols.length : Int))) by simp only [s_l25Good, hL66, cL]]
   exact ⟨rfl, hf47⟩
theorem c_s_l26Good {A1 : Option Addr} {c1 : Nat} {A2 : Option Addr} {c2 : Nat} {A4 : Option Addr} {c4 : Nat} {A5 : Option Addr} {c5 : Nat} {w : World} (p_t : DTable) (p_a : DRowAct) (h1 : RdS w (Iv 0 w.heap.size) (RF e_Str) 1 A1 p_t.Cols.length c1 p_t.Cols) (h2 : RdS w (Iv 0 w.heap.size) (RF e_Idx) 3 A2 p_t.Idxs.length c2 p_t.Idxs) (h4 : RdS w (Iv 0 w.heap.size) (RF e_Str) 1 A4 p_a.Old.Vals.length c4 p_a.Old.Vals) (h5 : RdS w (Iv 0 w.heap.size) (RF e_Str) 1 A5 p_a.New.Vals.length c5 p_a.New.Vals) (o3 : ok_Table p_t) (o6 : ok_RowAct p_a) (pre0 : (p_a.Kind = 3 → 0 < p_t.Cols.length ∨ 0 < p_a.Old.Vals.length)) : Cal Tryz.prog 71 #[.agg #[.string (bs (p_t.Name)), .slice A1 p_t.Cols.length c1, .slice A2 p_t.Idxs.length c2], .agg #[.int .i64 (p_a.Kind), .slice A4 p_a.Old.Vals.length c4, .slice A5 p_a.New.Vals.length c5]] w fun v w' => v = .bool ((s_l26Good p_t p_a)) ∧ Ex w w' := by
 have hol7 : p_t.Name.length ≤ 1073741824 := o3.1
 have hol8 := o3.2.1.1
 have hol9 := o3.2.2.1
 have hol10 := o6.1.1
 have hol11 := o6.2.1
 refine Cal.of func71 rfl ntmps71 rfl (cR (sd rfl (yl_box rfl rfl rfl ?_)))
 intro b12 w13 hs14 hz15 hB16 hE17
 refine sd rfl (yl_box rfl rfl rfl ?_)
 intro b18 w19 hs20 hz21 hB22 hE23
 refine sA rfl (dn (CW.seq (cR (sd rfl (yl_fieldAddr fd44_0 rfl rfl (sd rfl (yl_load1 ty3 rfl rfl ((hB22.cell 0).trans rfl) (SeqR.done ?_))))))))
 refine tn (CW.block (cR (sd rfl (yl_eql rfl rfl rfl (sA rfl (dn (bcD (q := p_a.Kind = 1) (fun hb24 hb24p => ?_) (fun hb24 hb24p => ?_))))))))
 ·refine CW.cond_t rfl hb24 (cR (sd rfl (yl_fieldAddr fd44_1 rfl rfl (sd rfl (yl_fieldAddr fd42_0 rfl rfl (sd rfl (yl_load1 ty22 rfl rfl ((hB22.cell 1).trans rfl) (sd rfl (yL un22 rfl rfl (sd rfl (yl_eql rfl rfl rfl (sM rfl ?_))))))))))))
  refine bcD (q := (p_a.Old.Vals.length : Int) = 0) (fun hb25 hb25p => ?_) (fun hb25 hb25p => ?_)
  ·refine sy rfl rfl hb25 (yl_loadN ty39 rfl rfl ((Box.ex hB16 hE23).cells (n := 3) rfl) rfl (sy rfl rfl hb25 (yl_fieldAddr fd44_2 rfl rfl (sy rfl rfl hb25 (yl_loadN ty42 rfl rfl (hB22.cells (n := 1) rfl) rfl (sy rfl rfl hb25 (yC en120 rfl (oc rfl (oc rfl oz)) (Cal.mono (c_s_l25Good p_t p_a.New (RdS.up (RdS.ex gS (RdS.ex gS h1 hE17) hE23) gS) (RdS.up (RdS.ex gI (RdS.ex gI h2 hE17) hE23) gI) (RdS.up (RdS.ex gS (RdS.ex gS h5 hE17) hE23) gS) o3 o6.2) ?_))))))))
   rintro v34 w33 ⟨rfl, hE35⟩
   have hE35z := Ex.size hE35
   refine sd rfl (yl_pick_t rfl rfl hb25 rfl (sA rfl (dn (CW.ret (br (tr (rr rfl (.cons rfl .nil) ?_)))))))
   rw [show (s_l26Good p_t p_a) = ((s_l25Good p_t p_a.New)) by simp only [s_l26Good, hb24, hb25, cL]]
   exact ⟨rfl, (Ex.trans (Ex.trans (Ex.trans (Ex.refl w) hE17) hE23) hE35)⟩
  ·refine sz rfl rfl hb25 (sz rfl rfl hb25 (sz rfl rfl hb25 (sz rfl rfl hb25 (sd rfl (yl_pick_f rfl rfl hb25 rfl (sA rfl (dn (CW.ret ?_))))))))
   refine br (tr (rr rfl (.cons rfl .nil) ?_))
   rw [show (s_l26Good p_t p_a) = (false) by simp only [s_l26Good, hb24, hb25, cL]]
   exact ⟨rfl, (Ex.trans (Ex.trans (Ex.refl w) hE17) hE23)⟩
 ·refine CW.cond_f rfl hb24 (cR (sd rfl (yl_eql rfl rfl rfl (sA rfl (dn (bcD (q := p_a.Kind = 2) (fun hb43 hb43p => ?_) (fun hb43 hb43p => ?_)))))))
  ·refine CW.cond_t rfl hb43 (cR (sd rfl (yl_fieldAddr fd44_2 rfl rfl (sd rfl (yl_fieldAddr fd42_0 rfl rfl (sd rfl (yl_load1 ty22 rfl rfl ((hB22.cell 2).trans rfl) (sd rfl (yL un22 rfl rfl (sd rfl (yl_eql rfl rfl rfl (sM rfl ?_))))))))))))
   refine bcD (q := (p_a.New.Vals.length : Int) = 0) (fun hb44 hb44p => ?_) (fun hb44 hb44p => ?_)
   ·refine sy rfl rfl hb44 (yl_loadN ty39 rfl rfl ((Box.ex hB16 hE23).cells (n := 3) rfl) rfl (sy rfl rfl hb44 (yl_fieldAddr fd44_1 rfl rfl (sy rfl rfl hb44 (yl_loadN ty42 rfl rfl (hB22.cells (n := 1) rfl) rfl (sy rfl rfl hb44 (yC en120 rfl (oc rfl (oc rfl oz)) (Cal.mono (c_s_l25Good p_t p_a.Old (RdS.up (RdS.ex gS (RdS.ex gS h1 hE17) hE23) gS) (RdS.up (RdS.ex gI (RdS.ex gI h2 hE17) hE23) gI) (RdS.up (RdS.ex gS (RdS.ex gS h4 hE17) hE23) gS) o3 o6.1) ?_))))))))
    rintro v53 w52 ⟨rfl, hE54⟩
    have hE54z := Ex.size hE54
    refine sd rfl (yl_pick_t rfl rfl hb44 rfl (sA rfl (dn (CW.ret (br (tr (rr rfl (.cons rfl .nil) ?_)))))))
    rw [show (s_l26Good p_t p_a) = ((s_l25Good p_t p_a.Old)) by simp only [s_l26Good, hb24, hb43, hb44, cL]]
    exact ⟨rfl, (Ex.trans (Ex.trans (Ex.trans (Ex.refl w) hE17) hE23) hE54)⟩
   ·refine sz rfl rfl hb44 (sz rfl rfl hb44 (sz rfl rfl hb44 (sz rfl rfl hb44 (sd rfl (yl_pick_f rfl rfl hb44 rfl (sA rfl (dn (CW.ret ?_))))))))
    refine br (tr (rr rfl (.cons rfl .nil) ?_))
    rw [show (s_l26Good p_t p_a) = (false) by simp only [s_l26Good, hb24, hb43, hb44, cL]]
    exact ⟨rfl, (Ex.trans (Ex.trans (Ex.refl w) hE17) hE23)⟩
  ·refine CW.cond_f rfl hb43 (cR (sd rfl (yl_eql rfl rfl rfl (sA rfl (dn (bcD (q := p_a.Kind = 3) (fun hb62 hb62p => ?_) (fun hb62 hb62p => ?_)))))))
   ·refine CW.cond_t rfl hb62 (CW.seq (bcase (s_l25Good p_t p_a.Old) (fun hb71 => ?_) (fun hb71 => ?_)))
    ·obtain ⟨hb71p0, hb71p1⟩ := f_s_l25Good hb71
     refine bcase (s_l25Good p_t p_a.New) (fun hb83 => ?_) (fun hb83 => ?_)
     ·obtain ⟨hb83p0, hb83p1⟩ := f_s_l25Good hb83
      have q84 := Box.ex hB16 hE23
      have q86 := RdS.ex gS (RdS.ex gS h1 hE17) hE23
      have q88 := RdS.ex gI (RdS.ex gI h2 hE17) hE23
      have q90 := RdS.ex gS (RdS.ex gS h4 hE17) hE23
      have q93 := RdS.ex gS (RdS.ex gS h5 hE17) hE23
      obtain ⟨eb95, eo95, _, eA95, _, ebl95, _, eR95, eC95⟩ := RdS.aD q90 d_Str (i := 0)
      obtain rfl := eR95
      obtain ⟨eb96, eo96, _, eA96, _, ebl96, _, eR96, eC96⟩ := RdS.aD q93 d_Str (i := 0)
      obtain rfl := eR96
      refine drJ 24 [.agg #[.string (bs (p_t.Name)), .slice A1 p_t.Cols.length c1, .slice A2 p_t.Idxs.length c2], .pointer (some ⟨b18, 0 + 1, none⟩), .agg #[.slice A4 p_a.Old.Vals.length c4], .bool ((s_l25Good p_t p_a.Old)), .bool ((s_l25Good p_t p_a.Old)), .agg #[.string (bs (p_t.Name)), .slice A1 p_t.Cols.length c1, .slice A2 p_t.Idxs.length c2], .pointer (some ⟨b18, 0 + 2, none⟩), .agg #[.slice A5 p_a.New.Vals.length c5], .bool ((s_l25Good p_t p_a.New)), .bool ((s_l25Good p_t p_a.New)), .bool ((s_l25Good p_t p_a.New)), .pointer (some ⟨b18, 0 + 1, none⟩), .pointer (some ⟨b18, 0 + 1 + 0, none⟩), .slice A4 p_a.Old.Vals.length c4, .pointer (some ⟨eb95, eo95 + 0 * 1, none⟩), .string (bs ((p_a.Old.Vals.getD 0 d_Str))), .pointer (some ⟨b18, 0 + 2, none⟩), .pointer (some ⟨b18, 0 + 2 + 0, none⟩), .slice A5 p_a.New.Vals.length c5, .pointer (some ⟨eb96, eo96 + 0 * 1, none⟩), .string (bs ((p_a.New.Vals.getD 0 d_Str))), .bool ((p_a.Old.Vals.getD 0 d_Str) == (p_a.New.Vals.getD 0 d_Str)), .bool ((p_a.Old.Vals.getD 0 d_Str) == (p_a.New.Vals.getD 0 d_Str)), .bool ((p_a.Old.Vals.getD 0 d_Str) == (p_a.New.Vals.getD 0 d_Str))] Tryz.follows rfl ?_ ?_
      ·refine ⟨oI rfl fun h => yl_loadN ty39 rfl (h.g 2 rfl) ((Box.ex q84 h.ex).cells (n := 3) rfl) rfl kI, oI rfl fun h => yl_fieldAddr fd44_1 rfl (h.g 3 rfl) kI, oI rfl fun h => yl_loadN ty42 rfl (h.g 36 rfl) ((Box.ex hB22 h.ex).cells (n := 1) rfl) rfl kI, ?_, oI rfl fun h => yM rfl (h.g 38 rfl) kI, oW rfl rfl rfl rfl hb71 fun h => yl_loadN ty39 rfl (h.g 2 rfl) ((Box.ex q84 h.ex).cells (n := 3) rfl) rfl kI, oW rfl rfl rfl rfl hb71 fun h => yl_fieldAddr fd44_2 rfl (h.g 3 rfl) kI, oW rfl rfl rfl rfl hb71 fun h => yl_loadN ty42 rfl (h.g 41 rfl) ((Box.ex hB22 h.ex).cells (n := 1) rfl) rfl kI, ?_, oI rfl fun h => yl_pick_t rfl (h.g 39 rfl) hb71 (h.g 43 rfl) kI, oI rfl fun h => yM rfl (h.g 44 rfl) kI, oW rfl rfl rfl rfl hb83 fun h => yl_fieldAddr fd44_1 rfl (h.g 3 rfl) kI, oW rfl rfl rfl rfl hb83 fun h => yl_fieldAddr fd42_0 rfl (h.g 46 rfl) kI, oW rfl rfl rfl rfl hb83 fun h => yl_load1 ty22 rfl (h.g 47 rfl) (((Box.ex hB22 h.ex).cell 1).trans rfl) kI, ?_, oW rfl rfl rfl rfl hb83 fun h => yl_load1 ty9 rfl (h.g 49 rfl) ((Cells.ex eC95 h.ex) 0 _ rfl) kI, oW rfl rfl rfl rfl hb83 fun h => yl_fieldAddr fd44_2 rfl (h.g 3 rfl) kI, oW rfl rfl rfl rfl hb83 fun h => yl_fieldAddr fd42_0 rfl (h.g 51 rfl) kI, oW rfl rfl rfl rfl hb83 fun h => yl_load1 ty22 rfl (h.g 52 rfl) (((Box.ex hB22 h.ex).cell 2).trans rfl) kI, ?_, oW rfl rfl rfl rfl hb83 fun h => yl_load1 ty9 rfl (h.g 54 rfl) ((Cells.ex eC96 h.ex) 0 _ rfl) kI, oW rfl rfl rfl rfl hb83 fun h => yl_seql (a := (p_a.Old.Vals.getD 0 d_Str)) (b := (p_a.New.Vals.getD 0 d_Str)) rfl (h.g 50 rfl) (h.g 55 rfl) kI, oI rfl fun h => yl_pick_t rfl (h.g 45 rfl) hb83 (h.g 56 rfl) kI, oI rfl fun h => yA rfl (h.g 57 rfl) kI, trivial⟩
       ·intro L114 w115 hi116
        have hE117 := hi116.ex
        exact OpR.op' rfl (yC en120 rfl (oc (hi116.g 35 rfl) (oc (hi116.g 37 rfl) oz)) (Cal.mono (c_s_l25Good p_t p_a.Old (RdS.up (RdS.ex gS q86 hE117) gS) (RdS.up (RdS.ex gI q88 hE117) gI) (RdS.up (RdS.ex gS q90 hE117) gS) o3 o6.1) fun _ _ h => h))
       ·intro L151 w152 hi153
        have hE154 := hi153.ex
        exact OpR.want rfl rfl (hi153.g 39 rfl) hb71 (yC en120 rfl (oc (hi153.g 40 rfl) (oc (hi153.g 42 rfl) oz)) (Cal.mono (c_s_l25Good p_t p_a.New (RdS.up (RdS.ex gS q86 hE154) gS) (RdS.up (RdS.ex gI q88 hE154) gI) (RdS.up (RdS.ex gS q93 hE154) gS) o3 o6.2) fun _ _ h => h))
       ·intro L194 w195 hi196
        have hE197 := hi196.ex
        have hE197z := Ex.size hE197
        exact OpR.want rfl rfl (hi196.g 45 rfl) hb83 (Yl.sameI (yl_ixN un22 ty9 rfl (hi196.g 48 rfl) rfl eA95 kI))
       ·intro L226 w227 hi228
        have hE229 := hi228.ex
        have hE229z := Ex.size hE229
        exact OpR.want rfl rfl (hi228.g 45 rfl) hb83 (Yl.sameI (yl_ixN un22 ty9 rfl (hi228.g 53 rfl) rfl eA96 kI))
      ·intro fl260 fh261 L257 w258 hp259
       have hE262 := hp259.ex
       have hE262z := Ex.size hE262
       refine dn (CW.sub (hp259.ss [4] rfl) (CW.ret (br (tr (rr rfl (.cons rfl .nil) ?_)))))
       rw [show (s_l26Good p_t p_a) = ((p_a.Old.Vals.getD 0 d_Str) == (p_a.New.Vals.getD 0 d_Str)) by simp only [s_l26Good, hb24, hb43, hb62, hb71, hb83, cL]]
       exact ⟨rfl, (Ex.trans (Ex.trans (Ex.trans (Ex.refl w) hE17) hE23) hE262)⟩
     ·have q268 := Box.ex hB16 hE23
      have q270 := RdS.ex gS (RdS.ex gS h1 hE17) hE23
      have q272 := RdS.ex gI (RdS.ex gI h2 hE17) hE23
      refine drJ 24 [.agg #[.string (bs (p_t.Name)), .slice A1 p_t.Cols.length c1, .slice A2 p_t.Idxs.length c2], .pointer (some ⟨b18, 0 + 1, none⟩), .agg #[.slice A4 p_a.Old.Vals.length c4], .bool ((s_l25Good p_t p_a.Old)), .bool ((s_l25Good p_t p_a.Old)), .agg #[.string (bs (p_t.Name)), .slice A1 p_t.Cols.length c1, .slice A2 p_t.Idxs.length c2], .pointer (some ⟨b18, 0 + 2, none⟩), .agg #[.slice A5 p_a.New.Vals.length c5], .bool ((s_l25Good p_t p_a.New)), .bool ((s_l25Good p_t p_a.New)), .bool ((s_l25Good p_t p_a.New)), undef, undef, undef, undef, undef, undef, undef, undef, undef, undef, undef, .bool (false), .bool (false)] Tryz.follows rfl ?_ ?_
      ·refine ⟨oI rfl fun h => yl_loadN ty39 rfl (h.g 2 rfl) ((Box.ex q268 h.ex).cells (n := 3) rfl) rfl kI, oI rfl fun h => yl_fieldAddr fd44_1 rfl (h.g 3 rfl) kI, oI rfl fun h => yl_loadN ty42 rfl (h.g 36 rfl) ((Box.ex hB22 h.ex).cells (n := 1) rfl) rfl kI, ?_, oI rfl fun h => yM rfl (h.g 38 rfl) kI, oW rfl rfl rfl rfl hb71 fun h => yl_loadN ty39 rfl (h.g 2 rfl) ((Box.ex q268 h.ex).cells (n := 3) rfl) rfl kI, oW rfl rfl rfl rfl hb71 fun h => yl_fieldAddr fd44_2 rfl (h.g 3 rfl) kI, oW rfl rfl rfl rfl hb71 fun h => yl_loadN ty42 rfl (h.g 41 rfl) ((Box.ex hB22 h.ex).cells (n := 1) rfl) rfl kI, ?_, oI rfl fun h => yl_pick_t rfl (h.g 39 rfl) hb71 (h.g 43 rfl) kI, oI rfl fun h => yM rfl (h.g 44 rfl) kI, oS rfl rfl rfl rfl rfl hb83, oS rfl rfl rfl rfl rfl hb83, oS rfl rfl rfl rfl rfl hb83, oS rfl rfl rfl rfl rfl hb83, oS rfl rfl rfl rfl rfl hb83, oS rfl rfl rfl rfl rfl hb83, oS rfl rfl rfl rfl rfl hb83, oS rfl rfl rfl rfl rfl hb83, oS rfl rfl rfl rfl rfl hb83, oS rfl rfl rfl rfl rfl hb83, oS rfl rfl rfl rfl rfl hb83, oI rfl fun h => yl_pick_f rfl (h.g 45 rfl) hb83 rfl kI, oI rfl fun h => yA rfl (h.g 57 rfl) kI, trivial⟩
       ·intro L296 w297 hi298
        have hE299 := hi298.ex
        exact OpR.op' rfl (yC en120 rfl (oc (hi298.g 35 rfl) (oc (hi298.g 37 rfl) oz)) (Cal.mono (c_s_l25Good p_t p_a.Old (RdS.up (RdS.ex gS q270 hE299) gS) (RdS.up (RdS.ex gI q272 hE299) gI) (RdS.up (RdS.ex gS (RdS.ex gS (RdS.ex gS h4 hE17) hE23) hE299) gS) o3 o6.1) fun _ _ h => h))
       ·intro L333 w334 hi335
        have hE336 := hi335.ex
        exact OpR.want rfl rfl (hi335.g 39 rfl) hb71 (yC en120 rfl (oc (hi335.g 40 rfl) (oc (hi335.g 42 rfl) oz)) (Cal.mono (c_s_l25Good p_t p_a.New (RdS.up (RdS.ex gS q270 hE336) gS) (RdS.up (RdS.ex gI q272 hE336) gI) (RdS.up (RdS.ex gS (RdS.ex gS (RdS.ex gS h5 hE17) hE23) hE336) gS) o3 o6.2) fun _ _ h => h))
      ·intro fl426 fh427 L423 w424 hp425
       have hE428 := hp425.ex
       have hE428z := Ex.size hE428
       refine dn (CW.sub (hp425.ss [4] rfl) (CW.ret (br (tr (rr rfl (.cons rfl .nil) ?_)))))
       rw [show (s_l26Good p_t p_a) = (false) by simp only [s_l26Good, hb24, hb43, hb62, hb71, hb83, cL]]
       exact ⟨rfl, (Ex.trans (Ex.trans (Ex.trans (Ex.refl w) hE17) hE23) hE428)⟩
    ·refine drJ 24 [.agg #[.string (bs (p_t.Name)), .slice A1 p_t.Cols.length c1, .slice A2 p_t.Idxs.length c2], .pointer (some ⟨b18, 0 + 1, none⟩), .agg #[.slice A4 p_a.Old.Vals.length c4], .bool ((s_l25Good p_t p_a.Old)), .bool ((s_l25Good p_t p_a.Old)), undef, undef, undef, undef, .bool (false), .bool (false), undef, undef, undef, undef, undef, undef, undef, undef, undef, undef, undef, .bool (false), .bool (false)] Tryz.follows rfl ?_ ?_
     ·refine ⟨oI rfl fun h => yl_loadN ty39 rfl (h.g 2 rfl) ((Box.ex (Box.ex hB16 hE23) h.ex).cells (n := 3) rfl) rfl kI, oI rfl fun h => yl_fieldAddr fd44_1 rfl (h.g 3 rfl) kI, oI rfl fun h => yl_loadN ty42 rfl (h.g 36 rfl) ((Box.ex hB22 h.ex).cells (n := 1) rfl) rfl kI, ?_, oI rfl fun h => yM rfl (h.g 38 rfl) kI, oS rfl rfl rfl rfl rfl hb71, oS rfl rfl rfl rfl rfl hb71, oS rfl rfl rfl rfl rfl hb71, oS rfl rfl rfl rfl rfl hb71, oI rfl fun h => yl_pick_f rfl (h.g 39 rfl) hb71 rfl kI, oI rfl fun h => yM rfl (h.g 44 rfl) kI, oS rfl rfl rfl rfl rfl rfl, oS rfl rfl rfl rfl rfl rfl, oS rfl rfl rfl rfl rfl rfl, oS rfl rfl rfl rfl rfl rfl, oS rfl rfl rfl rfl rfl rfl, oS rfl rfl rfl rfl rfl rfl, oS rfl rfl rfl rfl rfl rfl, oS rfl rfl rfl rfl rfl rfl, oS rfl rfl rfl rfl rfl rfl, oS rfl rfl rfl rfl rfl rfl, oS rfl rfl rfl rfl rfl rfl, oI rfl fun h => yl_pick_f rfl (h.g 45 rfl) rfl rfl kI, oI rfl fun h => yA rfl (h.g 57 rfl) kI, trivial⟩
      ·intro L459 w460 hi461
       have hE462 := hi461.ex
       exact OpR.op' rfl (yC en120 rfl (oc (hi461.g 35 rfl) (oc (hi461.g 37 rfl) oz)) (Cal.mono (c_s_l25Good p_t p_a.Old (RdS.up (RdS.ex gS (RdS.ex gS (RdS.ex gS h1 hE17) hE23) hE462) gS) (RdS.up (RdS.ex gI (RdS.ex gI (RdS.ex gI h2 hE17) hE23) hE462) gI) (RdS.up (RdS.ex gS (RdS.ex gS (RdS.ex gS h4 hE17) hE23) hE462) gS) o3 o6.1) fun _ _ h => h))
     ·intro fl576 fh577 L573 w574 hp575
      have hE578 := hp575.ex
      have hE578z := Ex.size hE578
      refine dn (CW.sub (hp575.ss [4] rfl) (CW.ret (br (tr (rr rfl (.cons rfl .nil) ?_)))))
      rw [show (s_l26Good p_t p_a) = (false) by simp only [s_l26Good, hb24, hb43, hb62, hb71, cL]]
      exact ⟨rfl, (Ex.trans (Ex.trans (Ex.trans (Ex.refl w) hE17) hE23) hE578)⟩
   ·refine CW.cond_f rfl hb62 (CW.skip (bn (tn (cR (sA rfl (dn ?_))))))
    refine CW.ret (rr rfl (.cons rfl .nil) ?_)
    rw [show (s_l26Good p_t p_a) = (false) by simp only [s_l26Good, hb24, hb43, hb62, cL]]
    exact ⟨rfl, (Ex.trans (Ex.trans (Ex.refl w) hE17) hE23)⟩
theorem c_s_GoodAct {A1 : Option Addr} {c1 : Nat} {A2 : Option Addr} {c2 : Nat} {A4 : Option Addr} {c4 : Nat} {A5 : Option Addr} {c5 : Nat} {w : World} (p_t : DTable) (p_a : DRowAct) (h1 : RdS w (Iv 0 w.heap.size) (RF e_Str) 1 A1 p_t.Cols.length c1 p_t.Cols) (h2 : RdS w (Iv 0 w.heap.size) (RF e_Idx) 3 A2 p_t.Idxs.length c2 p_t.Idxs) (h4 : RdS w (Iv 0 w.heap.size) (RF e_Str) 1 A4 p_a.Old.Vals.length c4 p_a.Old.Vals) (h5 : RdS w (Iv 0 w.heap.size) (RF e_Str) 1 A5 p_a.New.Vals.length c5 p_a.New.Vals) (o3 : ok_Table p_t) (o6 : ok_RowAct p_a) : Cal Tryz.prog 39 #[.agg #[.string (bs (p_t.Name)), .slice A1 p_t.Cols.length c1, .slice A2 p_t.Idxs.length c2], .agg #[.int .i64 (p_a.Kind), .slice A4 p_a.Old.Vals.length c4, .slice A5 p_a.New.Vals.length c5]] w fun v w' => v = .bool ((s_GoodAct p_t p_a)) ∧ Ex w w' := by
 have hol7 : p_t.Name.length ≤ 1073741824 := o3.1
 have hol8 := o3.2.1.1
 have hol9 := o3.2.2.1
 have hol10 := o6.1.1
 have hol11 := o6.2.1
 refine Cal.of func39 rfl ntmps39 rfl (cR (sd rfl (yl_box rfl rfl rfl ?_)))
 intro b12 w13 hs14 hz15 hB16 hE17
 refine sd rfl (yl_box rfl rfl rfl ?_)
 intro b18 w19 hs20 hz21 hB22 hE23
 refine sA rfl (dn (cR ?_))
 have q24 := Box.ex hB16 hE23
 refine sd rfl (yl_loadN ty39 rfl rfl (q24.cells (n := 3) rfl) rfl ?_)
 have q26 := RdS.ex gS (RdS.ex gS h1 hE17) hE23
 have q28 := RdS.ex gI (RdS.ex gI h2 hE17) hE23
 refine sd rfl (yC en65 rfl (oc rfl oz) (Cal.mono (c_s_GoodTable p_t (RdS.up q26 gS) (RdS.up q28 gI) o3) ?_))
 rintro v30 w29 ⟨rfl, hE31⟩
 have hE31z := Ex.size hE31
 refine sM rfl (bcase (s_GoodTable p_t) (fun hb32 => ?_) (fun hb32 => ?_))
 ·have hb32p := f_s_GoodTable hb32
  refine sy rfl rfl hb32 (yl_loadN ty39 rfl rfl ((Box.ex q24 hE31).cells (n := 3) rfl) rfl (sy rfl rfl hb32 (yl_loadN ty44 rfl rfl ((Box.ex hB22 hE31).cells (n := 3) rfl) rfl (sy rfl rfl hb32 (yC en71 rfl (oc rfl (oc rfl oz)) (Cal.mono (c_s_l26Good p_t p_a (RdS.up (RdS.ex gS q26 hE31) gS) (RdS.up (RdS.ex gI q28 hE31) gI) (RdS.up (RdS.ex gS (RdS.ex gS (RdS.ex gS h4 hE17) hE23) hE31) gS) (RdS.up (RdS.ex gS (RdS.ex gS (RdS.ex gS h5 hE17) hE23) hE31) gS) o3 o6 Bo) ?_))))))
  rintro v44 w43 ⟨rfl, hE45⟩
  have hE45z := Ex.size hE45
  refine sd rfl (yl_pick_t rfl rfl hb32 rfl (sA rfl (dn (CW.ret (rr rfl (.cons rfl .nil) ?_)))))
  rw [show (s_GoodAct p_t p_a) = ((s_l26Good p_t p_a)) by simp only [s_GoodAct, hb32, cL]]
  exact ⟨rfl, (Ex.trans (Ex.trans (Ex.trans (Ex.trans (Ex.refl w) hE17) hE23) hE31) hE45)⟩
 ·refine sz rfl rfl hb32 (sz rfl rfl hb32 (sz rfl rfl hb32 (sd rfl (yl_pick_f rfl rfl hb32 rfl (sA rfl (dn (CW.ret (rr rfl (.cons rfl .nil) ?_))))))))
  rw [show (s_GoodAct p_t p_a) = (false) by simp only [s_GoodAct, hb32, cL]]
  exact ⟨rfl, (Ex.trans (Ex.trans (Ex.trans (Ex.refl w) hE17) hE23) hE31)⟩
theorem c_s_l3Key {w : World} (p_s : Str) (o1 : okS p_s) : Cal Tryz.prog 90 #[.string (bs (p_s))] w fun v w' => v = .bool ((s_l3Key p_s)) ∧ Ex w w' := by
 refine Cal.of func90 rfl ntmps90 rfl (cR (sA rfl (dn (cR (sM rfl ?_)))))
 refine sd rfl (yl_slen un9 (a := p_s) rfl rfl (sd rfl (yC en91 rfl (oc rfl (oc rfl (oc rfl oz))) (Cal.mono (c_s_l1In (p_s.length : Int) 1 12) ?_))))
 rintro v4 w3 ⟨rfl, hE5⟩
 refine sM rfl (bcase (s_l1In (p_s.length : Int) 1 12) (fun hb6 => ?_) (fun hb6 => ?_))
 ·have hb6p := f_l1In hb6
  refine sy rfl rfl hb6 (yM rfl rfl (sy rfl rfl hb6 (yC en139 rfl (oc rfl (oc rfl oz)) (Cal.mono (c_s_l3Bytes p_s ([46, 47] : Str) o1 (okS.lit rfl)) ?_))))
  rintro v8 w7 ⟨rfl, hE9⟩
  refine sd rfl (yl_pick_t rfl rfl hb6 rfl (sA rfl (dn (CW.ret (rr rfl (.cons rfl .nil) ?_)))))
  rw [show (s_l3Key p_s) = ((s_l3Bytes p_s ([46, 47] : Str))) by simp only [s_l3Key, hb6, cL]]
  exact ⟨rfl, (Ex.trans (Ex.trans (Ex.refl w) hE5) hE9)⟩
 ·refine sz rfl rfl hb6 (sz rfl rfl hb6 (sd rfl (yl_pick_f rfl rfl hb6 rfl (sA rfl (dn (CW.ret (rr rfl (.cons rfl .nil) ?_)))))))
  rw [show (s_l3Key p_s) = (false) by simp only [s_l3Key, hb6, cL]]
  exact ⟨rfl, (Ex.trans (Ex.refl w) hE5)⟩
theorem c_s_l3Val {w : World} (p_s : Str) (o1 : okS p_s) : Cal Tryz.prog 168 #[.string (bs (p_s))] w fun v w' => v = .bool ((s_l3Val p_s)) ∧ Ex w w' := by
 refine Cal.of func168 rfl ntmps168 rfl (cR (sA rfl (dn (cR (sM rfl ?_)))))
 refine sd rfl (yl_slen un9 (a := p_s) rfl rfl (sd rfl (yl_leq rfl rfl rfl (sM rfl (bcD (q := (p_s.length : Int) ≤ 24) (fun hb3 hb3p => ?_) (fun hb3 hb3p => ?_))))))
 ·refine sy rfl rfl hb3 (yM rfl rfl (sy rfl rfl hb3 (yC en139 rfl (oc rfl (oc rfl oz)) (Cal.mono (c_s_l3Bytes p_s ([46, 45, 44, 95] : Str) o1 (okS.lit rfl)) ?_))))
  rintro v5 w4 ⟨rfl, hE6⟩
  refine sd rfl (yl_pick_t rfl rfl hb3 rfl (sA rfl (dn (CW.ret (rr rfl (.cons rfl .nil) ?_)))))
  rw [show (s_l3Val p_s) = ((s_l3Bytes p_s ([46, 45, 44, 95] : Str))) by simp only [s_l3Val, hb3, cL]]
  exact ⟨rfl, (Ex.trans (Ex.refl w) hE6)⟩
 ·refine sz rfl rfl hb3 (sz rfl rfl hb3 (sd rfl (yl_pick_f rfl rfl hb3 rfl (sA rfl (dn (CW.ret (rr rfl (.cons rfl .nil) ?_)))))))
  rw [show (s_l3Val p_s) = (false) by simp only [s_l3Val, hb3, cL]]
  exact ⟨rfl, (Ex.refl w)⟩
theorem c_s_l3Write {w : World} (p_key : Str) (p_val : Str) (p_gone : Bool) (o1 : okS p_key) (o2 : okS p_val) : Cal Tryz.prog 121 #[.string (bs (p_key)), .string (bs (p_val)), .bool (p_gone)] w fun v w' => v = .bool ((s_l3Write p_key p_val p_gone)) ∧ Ex w w' := by
 refine Cal.of func121 rfl ntmps121 rfl (cR (sA rfl (dn (cR (sM rfl ?_)))))
 refine sd rfl (yC en90 rfl (oc rfl oz) (Cal.mono (c_s_l3Key p_key o1) ?_))
 rintro v6 w5 ⟨rfl, hE7⟩
 refine sM rfl (bcase (s_l3Key p_key) (fun hb8 => ?_) (fun hb8 => ?_))
 ·refine sy rfl rfl hb8 (yM rfl rfl (sy rfl rfl hb8 (yC en168 rfl (oc rfl oz) (Cal.mono (c_s_l3Val p_val o2) ?_))))
  rintro v10 w9 ⟨rfl, hE11⟩
  refine sd rfl (yl_pick_t rfl rfl hb8 rfl (sM rfl (bcase (s_l3Val p_val) (fun hb12 => ?_) (fun hb12 => ?_))))
  ·refine sy rfl rfl hb12 (yM rfl rfl (sy rfl rfl hb12 (yl_not rfl rfl (sy rfl rfl hb12 (yM rfl rfl (bcase (p_gone) (fun hb13 => ?_) (fun hb13 => ?_)))))))
   ·refine sy rfl rfl (not_t hb13) (yM rfl rfl (sy rfl rfl (not_t hb13) (yl_seql (a := p_val) (b := ([] : Str)) rfl rfl rfl (sy rfl rfl hb12 (yl_pick_f rfl rfl (not_t hb13) rfl (sd rfl (yl_pick_t rfl rfl hb12 rfl (sA rfl (dn (CW.ret (rr rfl (.cons rfl .nil) ?_)))))))))))
    rw [show (s_l3Write p_key p_val p_gone) = (p_val == ([] : Str)) by simp only [s_l3Write, hb8, hb12, hb13, cL]]
    exact ⟨rfl, (Ex.trans (Ex.trans (Ex.refl w) hE7) hE11)⟩
   ·refine sz rfl rfl (not_f hb13) (sz rfl rfl (not_f hb13) (sy rfl rfl hb12 (yl_pick_t rfl rfl (not_f hb13) rfl (sd rfl (yl_pick_t rfl rfl hb12 rfl (sA rfl (dn (CW.ret (rr rfl (.cons rfl .nil) ?_)))))))))
    rw [show (s_l3Write p_key p_val p_gone) = (true) by simp only [s_l3Write, hb8, hb12, hb13, cL]]
    exact ⟨rfl, (Ex.trans (Ex.trans (Ex.refl w) hE7) hE11)⟩
  ·refine sz rfl rfl hb12 (sz rfl rfl hb12 (sz rfl rfl hb12 (sq rfl rfl (sq rfl rfl (sz rfl rfl hb12 (sd rfl (yl_pick_f rfl rfl hb12 rfl (sA rfl (SeqR.done ?_)))))))))
   refine tn (CW.ret (rr rfl (.cons rfl .nil) ?_))
   rw [show (s_l3Write p_key p_val p_gone) = (false) by simp only [s_l3Write, hb8, hb12, cL]]
   exact ⟨rfl, (Ex.trans (Ex.trans (Ex.refl w) hE7) hE11)⟩
 ·refine sz rfl rfl hb8 (sz rfl rfl hb8 (sd rfl (yl_pick_f rfl rfl hb8 rfl (sM rfl (sz rfl rfl rfl (sz rfl rfl rfl (sz rfl rfl rfl (sq rfl rfl (sq rfl rfl ?_)))))))))
  refine sz rfl rfl rfl (sd rfl (yl_pick_f rfl rfl rfl rfl (sA rfl (dn (CW.ret (rr rfl (.cons rfl .nil) ?_))))))
  rw [show (s_l3Write p_key p_val p_gone) = (false) by simp only [s_l3Write, hb8, cL]]
  exact ⟨rfl, (Ex.trans (Ex.refl w) hE7)⟩
theorem c_s_l3Writes {A1 : Option Addr} {c1 : Nat} {w : World} (p_l : List DWrite) (h1 : RdS w (Iv 0 w.heap.size) (RF e_Write) 3 A1 p_l.length c1 p_l) (o2 : (okL ok_Write) p_l) : Cal Tryz.prog 72 #[.slice A1 p_l.length c1] w fun v w' => v = .bool ((s_l3Writes p_l)) ∧ Ex w w' := by
 have hol3 := o2.1
 refine Cal.of func72 rfl ntmps72 rfl (cR (sA rfl (dn (CW.seq (cR ?_)))))
 refine sM rfl (sd rfl (yL un34 rfl rfl (sM rfl (dn (CW.block (CW.loop (fun m24 L25 w26 => ∃ (k4 : Nat), m24 = p_l.length - k4 ∧ k4 ≤ p_l.length ∧ w.heap.size ≤ w26.heap.size ∧ Sub [(0, .slice A1 p_l.length c1), (5, .slice A1 p_l.length c1), (6, .int .i64 ((p_l.length : Int))), (7, .int .i64 ((k4 : Int)))] L25 ∧ RdS w26 (Iv 0 w.heap.size) (RF e_Write) 3 A1 p_l.length c1 p_l ∧ Ex w w26 ∧ loopM (B_s_l3Writes_0 p_l) (p_l.length - k4) k4 () = loopM (B_s_l3Writes_0 p_l) (p_l.length - 0) 0 ()) (p_l.length - 0) ?_ ?_))))))
 ·exact ⟨0, rfl, oM, Nat.le_refl _, (sR rfl), h1, (Ex.refl w), rfl⟩
 ·rintro m27 L28 w29 ⟨k4, rfl, hk30, hsz32, hl33, hf34, hf35, hI31⟩
  refine CW.sub hl33 ?_
  have hf35z := Ex.size hf35
  have hbg36 := RdS.big hf34
  rcases Nat.lt_or_ge k4 p_l.length with hlt37 | hlt37
  ·refine cR (sd rfl (yl_lss rfl rfl rfl (dn (CW.seq (CW.cond_t rfl (lt_t hlt37) (CW.skip (tn ?_)))))))
   refine CW.seq (CW.block (cR (sM rfl ?_)))
   obtain ⟨_, _, _, eA38, _, ebl38, _, eR38, eC38⟩ := RdS.aD hf34 d_Write (i := k4)
   obtain rfl := eR38
   refine sd rfl (yl_ixN un34 ty80 rfl rfl rfl eA38 (sd rfl (yl_loadN ty80 rfl rfl eC38 rfl (sd rfl (yB ty80 (cs := [.string (bs (([] : Str))), .string (bs (([] : Str))), .bool (false)]) rfl rfl ?_)))))
   intro b39 w40 hs41 hz42 hB43 hE44
   refine sA rfl (SeqR.u rfl rfl (yl_storeA (vs := [.string (bs ((p_l.getD k4 d_Write).Key)), .string (bs ((p_l.getD k4 d_Write).Val)), .bool ((p_l.getD k4 d_Write).Gone)]) ty80 rfl rfl rfl rfl rfl rfl hB43 rfl ?_))
   intro w45 hB46 hO47
   have hO47z := hO47.size
   refine dn (CW.seq (bcase (s_l3Write ((p_l.getD k4 d_Write).Key) ((p_l.getD k4 d_Write).Val) ((p_l.getD k4 d_Write).Gone)) (fun hb49 => ?_) (fun hb49 => ?_)))
   ·refine bcD (q := 0 < (k4 : Int)) (fun hb51 hb51p => ?_) (fun hb51 hb51p => ?_)
    ·have q54 := RdS.only gW (RdS.ex gW hf34 hE44) hO47 iV
     obtain ⟨eb55, eo55, _, eA55, _, ebl55, _, eR55, eC55⟩ := RdS.atD q54 d_Write (i := (IntKind.wrap .i64 ((k4 : Int) - 1)).toNat) Bo
     obtain rfl := eR55
     refine drJ 23 [.pointer (some ⟨b39, 0 + 0, none⟩), .string (bs ((p_l.getD k4 d_Write).Key)), .pointer (some ⟨b39, 0 + 1, none⟩), .string (bs ((p_l.getD k4 d_Write).Val)), .pointer (some ⟨b39, 0 + 2, none⟩), .bool ((p_l.getD k4 d_Write).Gone), .bool ((s_l3Write ((p_l.getD k4 d_Write).Key) ((p_l.getD k4 d_Write).Val) ((p_l.getD k4 d_Write).Gone))), .bool (!(s_l3Write ((p_l.getD k4 d_Write).Key) ((p_l.getD k4 d_Write).Val) ((p_l.getD k4 d_Write).Gone))), .bool (!(s_l3Write ((p_l.getD k4 d_Write).Key) ((p_l.getD k4 d_Write).Val) ((p_l.getD k4 d_Write).Gone))), .int .i64 ((k4 : Int)), .bool (decide (0 < (k4 : Int))), .bool (decide (0 < (k4 : Int))), .slice A1 p_l.length c1, .int .i64 ((k4 : Int)), .int .i64 (IntKind.wrap .i64 ((k4 : Int) - 1)), .pointer (some ⟨eb55, eo55 + ((IntKind.wrap .i64 ((k4 : Int) - 1)).toNat) * 3, none⟩), .pointer (some ⟨eb55, eo55 + ((IntKind.wrap .i64 ((k4 : Int) - 1)).toNat) * 3 + 0, none⟩), .string (bs ((p_l.getD ((IntKind.wrap .i64 ((k4 : Int) - 1)).toNat) d_Write).Key)), .pointer (some ⟨b39, 0 + 0, none⟩), .string (bs ((p_l.getD k4 d_Write).Key)), .bool (!(sLt ((p_l.getD ((IntKind.wrap .i64 ((k4 : Int) - 1)).toNat) d_Write).Key) ((p_l.getD k4 d_Write).Key))), .bool (!(sLt ((p_l.getD ((IntKind.wrap .i64 ((k4 : Int) - 1)).toNat) d_Write).Key) ((p_l.getD k4 d_Write).Key))), .bool (!(sLt ((p_l.getD ((IntKind.wrap .i64 ((k4 : Int) - 1)).toNat) d_Write).Key) ((p_l.getD k4 d_Write).Key)))] Tryz.follows rfl ?_ ?_
     ·refine ⟨oI rfl fun h => yl_fieldAddr fd80_0 rfl (h.g 4 rfl) kI, oI rfl fun h => yl_load1 ty9 rfl (h.g 12 rfl) (((Box.ex hB46 h.ex).cell 0).trans rfl) kI, oI rfl fun h => yl_fieldAddr fd80_1 rfl (h.g 4 rfl) kI, oI rfl fun h => yl_load1 ty9 rfl (h.g 14 rfl) (((Box.ex hB46 h.ex).cell 1).trans rfl) kI, oI rfl fun h => yl_fieldAddr fd80_2 rfl (h.g 4 rfl) kI, oI rfl fun h => yl_load1 ty4 rfl (h.g 16 rfl) (((Box.ex hB46 h.ex).cell 2).trans rfl) kI, ?_, oI rfl fun h => yl_not rfl (h.g 18 rfl) kI, oI rfl fun h => yM rfl (h.g 19 rfl) kI, oW rfl rfl rfl rfl (not_t hb49) fun h => yM rfl (h.g 3 rfl) kI, oW rfl rfl rfl rfl (not_t hb49) fun h => yl_gtr rfl (h.g 21 rfl) rfl kI, oW rfl rfl rfl rfl (not_t hb49) fun h => yM rfl (h.g 22 rfl) kI, oW rfl rfl rfl rfl hb51 fun h => yM rfl (h.g 0 rfl) kI, oW rfl rfl rfl rfl hb51 fun h => yM rfl (h.g 3 rfl) kI, oW rfl rfl rfl rfl hb51 fun h => yl_sub rfl (h.g 25 rfl) rfl kI, ?_, oW rfl rfl rfl rfl hb51 fun h => yl_fieldAddr fd80_0 rfl (h.g 27 rfl) kI, oW rfl rfl rfl rfl hb51 fun h => yl_load1 ty9 rfl (h.g 28 rfl) ((Cells.ex eC55 h.ex) 0 _ rfl) kI, oW rfl rfl rfl rfl hb51 fun h => yl_fieldAddr fd80_0 rfl (h.g 4 rfl) kI, oW rfl rfl rfl rfl hb51 fun h => yl_load1 ty9 rfl (h.g 30 rfl) (((Box.ex hB46 h.ex).cell 0).trans rfl) kI, oW rfl rfl rfl rfl hb51 fun h => yl_sgeq (a := ((p_l.getD ((IntKind.wrap .i64 ((k4 : Int) - 1)).toNat) d_Write).Key)) (b := ((p_l.getD k4 d_Write).Key)) rfl (h.g 29 rfl) (h.g 31 rfl) kI, oW rfl rfl rfl rfl (not_t hb49) fun h => yl_pick_t rfl (h.g 23 rfl) hb51 (h.g 32 rfl) kI, oI rfl fun h => yl_pick_f rfl (h.g 20 rfl) (not_t hb49) (h.g 33 rfl) kI, trivial⟩
      ·intro L89 w90 hi91
       exact OpR.op' rfl (yC en121 rfl (oc (hi91.g 13 rfl) (oc (hi91.g 15 rfl) (oc (hi91.g 17 rfl) oz))) (Cal.mono (c_s_l3Write ((p_l.getD k4 d_Write).Key) ((p_l.getD k4 d_Write).Val) ((p_l.getD k4 d_Write).Gone) ((okL.getD o2 ok_d_Write _).1) ((okL.getD o2 ok_d_Write _).2)) fun _ _ h => h))
      ·intro L145 w146 hi147
       have hE148 := hi147.ex
       have hE148z := Ex.size hE148
       exact OpR.want rfl rfl (hi147.g 23 rfl) hb51 (Yl.sameI (yl_indexAddr un34 ty80 rfl (hi147.g 24 rfl) (hi147.g 26 rfl) eA55 Bo Bo kI))
     ·intro fl201 fh202 L198 w199 hp200
      have hE203 := hp200.ex
      have hE203z := Ex.size hE203
      refine dn (CW.sub (hp200.ss [0, 5, 6, 7, 34] rfl) (bcase (sLt ((p_l.getD ((IntKind.wrap .i64 ((k4 : Int) - 1)).toNat) d_Write).Key) ((p_l.getD k4 d_Write).Key)) (fun hb209 => ?_) (fun hb209 => ?_)))
      ·refine CW.cond_f rfl (not_t hb209) (CW.skip (bn (tn (CW.region (sd rfl (yl_inc rfl rfl rfl oM (sM rfl (dn ?_))))))))
       have hB210 : B_s_l3Writes_0 p_l k4 () = .cont () := by simp only [B_s_l3Writes_0, hb49, hb51, hb209, cL]
       exact ⟨p_l.length - (k4 + 1), oM, k4 + 1, rfl, hlt37, oM, (sR rfl), (RdS.ex gW q54 hE203), (Ex.trans (Below.only (Ex.trans hf35 hE44) hO47 oM) hE203), (loopM.cont hlt37 hB210).symm.trans hI31⟩
      ·refine CW.cond_t rfl (not_f hb209) (cR (sA rfl (dn (CW.ret (br (tr ?_))))))
       refine tr ?_
       have hB216 : B_s_l3Writes_0 p_l k4 () = .ret false := by simp only [B_s_l3Writes_0, hb49, hb51, hb209, cL]
       have hL215 : loopM (B_s_l3Writes_0 p_l) (p_l.length - 0) 0 () = .ret false := hI31.symm.trans (loopM.ret hlt37 hB216)
       refine br (tr (rr rfl (.cons rfl .nil) ?_))
       rw [show (s_l3Writes p_l) = (false) by simp only [s_l3Writes, hb49, hb51, hb209, hL215, cL]]
       exact ⟨rfl, (Ex.trans (Below.only (Ex.trans hf35 hE44) hO47 oM) hE203)⟩
    ·refine drJ 23 [.pointer (some ⟨b39, 0 + 0, none⟩), .string (bs ((p_l.getD k4 d_Write).Key)), .pointer (some ⟨b39, 0 + 1, none⟩), .string (bs ((p_l.getD k4 d_Write).Val)), .pointer (some ⟨b39, 0 + 2, none⟩), .bool ((p_l.getD k4 d_Write).Gone), .bool ((s_l3Write ((p_l.getD k4 d_Write).Key) ((p_l.getD k4 d_Write).Val) ((p_l.getD k4 d_Write).Gone))), .bool (!(s_l3Write ((p_l.getD k4 d_Write).Key) ((p_l.getD k4 d_Write).Val) ((p_l.getD k4 d_Write).Gone))), .bool (!(s_l3Write ((p_l.getD k4 d_Write).Key) ((p_l.getD k4 d_Write).Val) ((p_l.getD k4 d_Write).Gone))), .int .i64 ((k4 : Int)), .bool (decide (0 < (k4 : Int))), .bool (decide (0 < (k4 : Int))), undef, undef, undef, undef, undef, undef, undef, undef, undef, .bool (false), .bool (false)] Tryz.follows rfl ?_ ?_
     ·refine ⟨oI rfl fun h => yl_fieldAddr fd80_0 rfl (h.g 4 rfl) kI, oI rfl fun h => yl_load1 ty9 rfl (h.g 12 rfl) (((Box.ex hB46 h.ex).cell 0).trans rfl) kI, oI rfl fun h => yl_fieldAddr fd80_1 rfl (h.g 4 rfl) kI, oI rfl fun h => yl_load1 ty9 rfl (h.g 14 rfl) (((Box.ex hB46 h.ex).cell 1).trans rfl) kI, oI rfl fun h => yl_fieldAddr fd80_2 rfl (h.g 4 rfl) kI, oI rfl fun h => yl_load1 ty4 rfl (h.g 16 rfl) (((Box.ex hB46 h.ex).cell 2).trans rfl) kI, ?_, oI rfl fun h => yl_not rfl (h.g 18 rfl) kI, oI rfl fun h => yM rfl (h.g 19 rfl) kI, oW rfl rfl rfl rfl (not_t hb49) fun h => yM rfl (h.g 3 rfl) kI, oW rfl rfl rfl rfl (not_t hb49) fun h => yl_gtr rfl (h.g 21 rfl) rfl kI, oW rfl rfl rfl rfl (not_t hb49) fun h => yM rfl (h.g 22 rfl) kI, oS rfl rfl rfl rfl rfl hb51, oS rfl rfl rfl rfl rfl hb51, oS rfl rfl rfl rfl rfl hb51, oS rfl rfl rfl rfl rfl hb51, oS rfl rfl rfl rfl rfl hb51, oS rfl rfl rfl rfl rfl hb51, oS rfl rfl rfl rfl rfl hb51, oS rfl rfl rfl rfl rfl hb51, oS rfl rfl rfl rfl rfl hb51, oW rfl rfl rfl rfl (not_t hb49) fun h => yl_pick_f rfl (h.g 23 rfl) hb51 rfl kI, oI rfl fun h => yl_pick_f rfl (h.g 20 rfl) (not_t hb49) (h.g 33 rfl) kI, trivial⟩
      ·intro L255 w256 hi257
       exact OpR.op' rfl (yC en121 rfl (oc (hi257.g 13 rfl) (oc (hi257.g 15 rfl) (oc (hi257.g 17 rfl) oz))) (Cal.mono (c_s_l3Write ((p_l.getD k4 d_Write).Key) ((p_l.getD k4 d_Write).Val) ((p_l.getD k4 d_Write).Gone) ((okL.getD o2 ok_d_Write _).1) ((okL.getD o2 ok_d_Write _).2)) fun _ _ h => h))
     ·intro fl354 fh355 L351 w352 hp353
      have hE356 := hp353.ex
      have hE356z := Ex.size hE356
      refine dn (CW.sub (hp353.ss [0, 5, 6, 7, 34] rfl) (CW.cond_f rfl rfl (CW.skip (bn (tn (CW.region (sd rfl (yl_inc rfl rfl rfl oM ?_))))))))
      refine sM rfl (dn ?_)
      have hB362 : B_s_l3Writes_0 p_l k4 () = .cont () := by simp only [B_s_l3Writes_0, hb49, hb51, cL]
      exact ⟨p_l.length - (k4 + 1), oM, k4 + 1, rfl, hlt37, oM, (sR rfl), (RdS.ex gW (RdS.only gW (RdS.ex gW hf34 hE44) hO47 iV) hE356), (Ex.trans (Below.only (Ex.trans hf35 hE44) hO47 oM) hE356), (loopM.cont hlt37 hB362).symm.trans hI31⟩
   ·refine drJ 23 [.pointer (some ⟨b39, 0 + 0, none⟩), .string (bs ((p_l.getD k4 d_Write).Key)), .pointer (some ⟨b39, 0 + 1, none⟩), .string (bs ((p_l.getD k4 d_Write).Val)), .pointer (some ⟨b39, 0 + 2, none⟩), .bool ((p_l.getD k4 d_Write).Gone), .bool ((s_l3Write ((p_l.getD k4 d_Write).Key) ((p_l.getD k4 d_Write).Val) ((p_l.getD k4 d_Write).Gone))), .bool (!(s_l3Write ((p_l.getD k4 d_Write).Key) ((p_l.getD k4 d_Write).Val) ((p_l.getD k4 d_Write).Gone))), .bool (!(s_l3Write ((p_l.getD k4 d_Write).Key) ((p_l.getD k4 d_Write).Val) ((p_l.getD k4 d_Write).Gone))), undef, undef, undef, undef, undef, undef, undef, undef, undef, undef, undef, undef, undef, .bool (true)] Tryz.follows rfl ?_ ?_
    ·refine ⟨oI rfl fun h => yl_fieldAddr fd80_0 rfl (h.g 4 rfl) kI, oI rfl fun h => yl_load1 ty9 rfl (h.g 12 rfl) (((Box.ex hB46 h.ex).cell 0).trans rfl) kI, oI rfl fun h => yl_fieldAddr fd80_1 rfl (h.g 4 rfl) kI, oI rfl fun h => yl_load1 ty9 rfl (h.g 14 rfl) (((Box.ex hB46 h.ex).cell 1).trans rfl) kI, oI rfl fun h => yl_fieldAddr fd80_2 rfl (h.g 4 rfl) kI, oI rfl fun h => yl_load1 ty4 rfl (h.g 16 rfl) (((Box.ex hB46 h.ex).cell 2).trans rfl) kI, ?_, oI rfl fun h => yl_not rfl (h.g 18 rfl) kI, oI rfl fun h => yM rfl (h.g 19 rfl) kI, oS rfl rfl rfl rfl rfl (not_f hb49), oS rfl rfl rfl rfl rfl (not_f hb49), oS rfl rfl rfl rfl rfl (not_f hb49), oU rfl rfl rfl rfl rfl, oU rfl rfl rfl rfl rfl, oU rfl rfl rfl rfl rfl, oU rfl rfl rfl rfl rfl, oU rfl rfl rfl rfl rfl, oU rfl rfl rfl rfl rfl, oU rfl rfl rfl rfl rfl, oU rfl rfl rfl rfl rfl, oU rfl rfl rfl rfl rfl, oS rfl rfl rfl rfl rfl (not_f hb49), oI rfl fun h => yl_pick_t rfl (h.g 20 rfl) (not_f hb49) rfl kI, trivial⟩
     ·intro L403 w404 hi405
      exact OpR.op' rfl (yC en121 rfl (oc (hi405.g 13 rfl) (oc (hi405.g 15 rfl) (oc (hi405.g 17 rfl) oz))) (Cal.mono (c_s_l3Write ((p_l.getD k4 d_Write).Key) ((p_l.getD k4 d_Write).Val) ((p_l.getD k4 d_Write).Gone) ((okL.getD o2 ok_d_Write _).1) ((okL.getD o2 ok_d_Write _).2)) fun _ _ h => h))
    ·intro fl497 fh498 L494 w495 hp496
     have hE499 := hp496.ex
     have hE499z := Ex.size hE499
     refine dn (CW.sub (hp496.ss [0, 5, 6, 7, 34] rfl) (CW.cond_t rfl rfl (cR (sA rfl (dn ?_)))))
     refine CW.ret (br (tr (tr ?_)))
     have hB506 : B_s_l3Writes_0 p_l k4 () = .ret false := by simp only [B_s_l3Writes_0, hb49, cL]
     have hL505 : loopM (B_s_l3Writes_0 p_l) (p_l.length - 0) 0 () = .ret false := hI31.symm.trans (loopM.ret hlt37 hB506)
     refine br (tr (rr rfl (.cons rfl .nil) ?_))
     rw [show (s_l3Writes p_l) = (false) by simp only [s_l3Writes, hb49, hL505, cL]]
     exact ⟨rfl, (Ex.trans (Below.only (Ex.trans hf35 hE44) hO47 oM) hE499)⟩
  ·refine cR (sd rfl (yl_lss rfl rfl rfl (dn (CW.seq (CW.cond_f rfl (lt_f hlt37) (CW.exit (tx ?_)))))))
   refine tx ?_
   have hL511 : loopM (B_s_l3Writes_0 p_l) (p_l.length - 0) 0 () = .done () := hI31.symm.trans (loopM.stop hlt37)
   refine bx (tn (cR (sM rfl (sd rfl (yL un34 rfl rfl (sd rfl (yl_leq rfl rfl rfl (sA rfl (SeqR.done ?_)))))))))
   refine tn (CW.ret (rr rfl (.cons rfl .nil) ?_))
   rw [show (s_l3Writes p_l) = (decide ((p_l.length : Int) ≤ 24)) by simp only [s_l3Writes, hL511, cL]]
   exact ⟨rfl, hf35⟩
theorem c_s_l5Rows {A1 : Option Addr} {c1 : Nat} {w : World} (p_l : List DWrite) (h1 : RdS w (Iv 0 w.heap.size) (RF e_Write) 3 A1 p_l.length c1 p_l) (o2 : (okL ok_Write) p_l) : Cal Tryz.prog 40 #[.slice A1 p_l.length c1] w fun v w' => v = .bool ((s_l5Rows p_l)) ∧ Ex w w' := by
 have hol3 := o2.1
 refine Cal.of func40 rfl ntmps40 rfl (cR (sA rfl (dn (CW.seq (cR ?_)))))
 refine sM rfl (sd rfl (yL un34 rfl rfl (sM rfl (dn (CW.block (CW.loop (fun m16 L17 w18 => ∃ (k4 : Nat), m16 = p_l.length - k4 ∧ k4 ≤ p_l.length ∧ w.heap.size ≤ w18.heap.size ∧ Sub [(0, .slice A1 p_l.length c1), (5, .slice A1 p_l.length c1), (6, .int .i64 ((p_l.length : Int))), (7, .int .i64 ((k4 : Int)))] L17 ∧ RdS w18 (Iv 0 w.heap.size) (RF e_Write) 3 A1 p_l.length c1 p_l ∧ Ex w w18 ∧ loopM (B_s_l5Rows_0 p_l) (p_l.length - k4) k4 () = loopM (B_s_l5Rows_0 p_l) (p_l.length - 0) 0 ()) (p_l.length - 0) ?_ ?_))))))
 ·exact ⟨0, rfl, oM, Nat.le_refl _, (sR rfl), h1, (Ex.refl w), rfl⟩
 ·rintro m19 L20 w21 ⟨k4, rfl, hk22, hsz24, hl25, hf26, hf27, hI23⟩
  refine CW.sub hl25 ?_
  have hf27z := Ex.size hf27
  have hbg28 := RdS.big hf26
  rcases Nat.lt_or_ge k4 p_l.length with hlt29 | hlt29
  ·refine cR (sd rfl (yl_lss rfl rfl rfl (dn (CW.seq (CW.cond_t rfl (lt_t hlt29) (CW.skip (tn ?_)))))))
   refine CW.seq (CW.block (cR ?_))
   obtain ⟨_, _, _, eA30, _, ebl30, _, eR30, eC30⟩ := RdS.aD hf26 d_Write (i := k4)
   obtain rfl := eR30
   refine sd rfl (yl_ixN un34 ty80 rfl rfl rfl eA30 (sd rfl (yl_loadN ty80 rfl rfl eC30 rfl (sd rfl (yB ty80 (cs := [.string (bs (([] : Str))), .string (bs (([] : Str))), .bool (false)]) rfl rfl ?_)))))
   intro b31 w32 hs33 hz34 hB35 hE36
   refine SeqR.u rfl rfl (yl_storeA (vs := [.string (bs ((p_l.getD k4 d_Write).Key)), .string (bs ((p_l.getD k4 d_Write).Val)), .bool ((p_l.getD k4 d_Write).Gone)]) ty80 rfl rfl rfl rfl rfl rfl hB35 rfl ?_)
   intro w37 hB38 hO39
   have hO39z := hO39.size
   refine dn (cR (sd rfl (yl_fieldAddr fd80_2 rfl rfl (sd rfl (yl_load1 ty4 rfl rfl ((hB38.cell 2).trans rfl) (dn (bcase ((p_l.getD k4 d_Write).Gone) (fun hb40 => ?_) (fun hb40 => ?_))))))))
   ·refine CW.cond_t rfl hb40 (cR (sA rfl (dn (CW.ret (br (tr ?_))))))
    refine tr ?_
    have hB42 : B_s_l5Rows_0 p_l k4 () = .ret false := by simp only [B_s_l5Rows_0, hb40, cL]
    have hL41 : loopM (B_s_l5Rows_0 p_l) (p_l.length - 0) 0 () = .ret false := hI23.symm.trans (loopM.ret hlt29 hB42)
    refine br (tr (rr rfl (.cons rfl .nil) ?_))
    rw [show (s_l5Rows p_l) = (false) by simp only [s_l5Rows, hb40, hL41, cL]]
    exact ⟨rfl, (Below.only (Ex.trans hf27 hE36) hO39 oM)⟩
   ·refine CW.cond_f rfl hb40 (CW.skip (bn (tn (CW.region (sd rfl (yl_inc rfl rfl rfl oM (sM rfl (dn ?_))))))))
    have hB46 : B_s_l5Rows_0 p_l k4 () = .cont () := by simp only [B_s_l5Rows_0, hb40, cL]
    exact ⟨p_l.length - (k4 + 1), oM, k4 + 1, rfl, hlt29, oM, (sR rfl), (RdS.only gW (RdS.ex gW hf26 hE36) hO39 iV), (Below.only (Ex.trans hf27 hE36) hO39 oM), (loopM.cont hlt29 hB46).symm.trans hI23⟩
  ·refine cR (sd rfl (yl_lss rfl rfl rfl (dn (CW.seq (CW.cond_f rfl (lt_f hlt29) (CW.exit (tx ?_)))))))
   refine tx ?_
   have hL51 : loopM (B_s_l5Rows_0 p_l) (p_l.length - 0) 0 () = .done () := hI23.symm.trans (loopM.stop hlt29)
   refine bx (tn (cR (sM rfl (sd rfl (yC en72 rfl (oc rfl oz) (Cal.mono (c_s_l3Writes p_l (RdS.up hf26 gW) o2) ?_))))))
   rintro v53 w52 ⟨rfl, hE54⟩
   have hE54z := Ex.size hE54
   refine sA rfl (dn (CW.ret (rr rfl (.cons rfl .nil) ?_)))
   rw [show (s_l5Rows p_l) = ((s_l3Writes p_l)) by simp only [s_l5Rows, hL51, cL]]
   exact ⟨rfl, (Ex.trans hf27 hE54)⟩
theorem c_s_l5Op {w : World} (p_o : DOp) (o1 : ok_Op p_o) : Cal Tryz.prog 169 #[.agg #[.int .i64 (p_o.Kind), .string (bs (p_o.Key)), .string (bs (p_o.Val)), .int .i64 (p_o.By)]] w fun v w' => v = .bool ((s_l5Op p_o)) ∧ Ex w w' := by
 refine Cal.of func169 rfl ntmps169 rfl (cR (sd rfl (yl_box rfl rfl rfl ?_)))
 intro b4 w5 hs6 hz7 hB8 hE9
 refine sA rfl (dn (CW.seq (cR (sd rfl (yl_fieldAddr fd122_1 rfl rfl (sd rfl (yl_load1 ty9 rfl rfl ((hB8.cell 1).trans rfl) (sd rfl (yC en90 rfl (oc rfl oz) (Cal.mono (c_s_l3Key p_o.Key o1.1) ?_))))))))))
 rintro v11 w10 ⟨rfl, hE12⟩
 refine sd rfl (yl_not rfl rfl (dn (bcase (s_l3Key p_o.Key) (fun hb13 => ?_) (fun hb13 => ?_))))
 ·refine CW.cond_f rfl (not_t hb13) (CW.skip (tn (CW.seq (cR (sd rfl (yl_fieldAddr fd122_0 rfl rfl ?_))))))
  have q14 := Box.ex hB8 hE12
  refine sd rfl (yl_load1 ty3 rfl rfl ((q14.cell 0).trans rfl) (dn (CW.block (CW.seq (cR (sd rfl (yl_eql rfl rfl rfl (sA rfl ?_))))))))
  refine dn (bcD (q := p_o.Kind = 2) (fun hb15 hb15p => ?_) (fun hb15 hb15p => ?_))
  ·refine CW.cond_t rfl hb15 (CW.skip (tn (CW.cond_t rfl hb15 (cR (sd rfl (yl_fieldAddr fd122_2 rfl rfl (sd rfl (yl_load1 ty9 rfl rfl ((q14.cell 2).trans rfl) (sd rfl (yC en168 rfl (oc rfl oz) (Cal.mono (c_s_l3Val p_o.Val o1.2) ?_)))))))))))
   rintro v17 w16 ⟨rfl, hE18⟩
   refine sM rfl (bcase (s_l3Val p_o.Val) (fun hb19 => ?_) (fun hb19 => ?_))
   ·refine sy rfl rfl hb19 (yl_fieldAddr fd122_3 rfl rfl (sy rfl rfl hb19 (yl_load1 ty3 rfl rfl (((Box.ex q14 hE18).cell 3).trans rfl) (sy rfl rfl hb19 (yl_eql rfl rfl rfl (sd rfl (yl_pick_t rfl rfl hb19 rfl (sA rfl (dn (CW.ret (br ?_)))))))))))
    refine tr (rr rfl (.cons rfl .nil) ?_)
    rw [show (s_l5Op p_o) = (decide (p_o.By = 0)) by simp only [s_l5Op, hb13, hb15, hb19, cL]]
    exact ⟨rfl, (Ex.trans (Ex.trans (Ex.trans (Ex.refl w) hE9) hE12) hE18)⟩
   ·refine sz rfl rfl hb19 (sz rfl rfl hb19 (sz rfl rfl hb19 (sd rfl (yl_pick_f rfl rfl hb19 rfl (sA rfl (dn (CW.ret (br ?_))))))))
    refine tr (rr rfl (.cons rfl .nil) ?_)
    rw [show (s_l5Op p_o) = (false) by simp only [s_l5Op, hb13, hb15, hb19, cL]]
    exact ⟨rfl, (Ex.trans (Ex.trans (Ex.trans (Ex.refl w) hE9) hE12) hE18)⟩
  ·refine CW.cond_f rfl hb15 (CW.region (sd rfl (yl_eql rfl rfl rfl (sA rfl (dn (bcD (q := p_o.Kind = 7) (fun hb29 hb29p => ?_) (fun hb29 hb29p => ?_)))))))
   ·refine CW.cond_t rfl hb29 (cR (sd rfl (yl_fieldAddr fd122_2 rfl rfl (sd rfl (yl_load1 ty9 rfl rfl ((q14.cell 2).trans rfl) (sd rfl (yC en168 rfl (oc rfl oz) (Cal.mono (c_s_l3Val p_o.Val o1.2) ?_))))))))
    rintro v31 w30 ⟨rfl, hE32⟩
    refine sM rfl (bcase (s_l3Val p_o.Val) (fun hb33 => ?_) (fun hb33 => ?_))
    ·refine sy rfl rfl hb33 (yl_fieldAddr fd122_3 rfl rfl (sy rfl rfl hb33 (yl_load1 ty3 rfl rfl (((Box.ex q14 hE32).cell 3).trans rfl) (sy rfl rfl hb33 (yl_eql rfl rfl rfl (sd rfl (yl_pick_t rfl rfl hb33 rfl (sA rfl (dn (CW.ret (br ?_)))))))))))
     refine tr (rr rfl (.cons rfl .nil) ?_)
     rw [show (s_l5Op p_o) = (decide (p_o.By = 0)) by simp only [s_l5Op, hb13, hb15, hb29, hb33, cL]]
     exact ⟨rfl, (Ex.trans (Ex.trans (Ex.trans (Ex.refl w) hE9) hE12) hE32)⟩
    ·refine sz rfl rfl hb33 (sz rfl rfl hb33 (sz rfl rfl hb33 (sd rfl (yl_pick_f rfl rfl hb33 rfl (sA rfl (dn (CW.ret (br ?_))))))))
     refine tr (rr rfl (.cons rfl .nil) ?_)
     rw [show (s_l5Op p_o) = (false) by simp only [s_l5Op, hb13, hb15, hb29, hb33, cL]]
     exact ⟨rfl, (Ex.trans (Ex.trans (Ex.trans (Ex.refl w) hE9) hE12) hE32)⟩
   ·refine CW.cond_f rfl hb29 (CW.seq (cR (sd rfl (yl_eql rfl rfl rfl (sA rfl (dn (bcD (q := p_o.Kind = 4) (fun hb43 hb43p => ?_) (fun hb43 hb43p => ?_))))))))
    ·refine CW.cond_t rfl hb43 (CW.skip (tn (CW.cond_t rfl hb43 (cR (sd rfl (yl_fieldAddr fd122_2 rfl rfl (sd rfl (yl_load1 ty9 rfl rfl ((q14.cell 2).trans rfl) (sd rfl (yl_seql (a := p_o.Val) (b := ([] : Str)) rfl rfl rfl ?_))))))))))
     refine sM rfl (bcase (p_o.Val == ([] : Str)) (fun hb44 => ?_) (fun hb44 => ?_))
     ·refine sy rfl rfl hb44 (yl_fieldAddr fd122_3 rfl rfl (sy rfl rfl hb44 (yl_load1 ty3 rfl rfl ((q14.cell 3).trans rfl) (sy rfl rfl hb44 (yC en91 rfl (oc rfl (oc rfl (oc rfl oz))) (Cal.mono (c_s_l1In p_o.By (-9999) 9999) ?_))))))
      rintro v46 w45 ⟨rfl, hE47⟩
      refine sd rfl (yl_pick_t rfl rfl hb44 rfl (sA rfl (dn (CW.ret (br (tr (rr rfl (.cons rfl .nil) ?_)))))))
      rw [show (s_l5Op p_o) = ((s_l1In p_o.By (-9999) 9999)) by simp only [s_l5Op, hb13, hb15, hb29, hb43, hb44, cL]]
      exact ⟨rfl, (Ex.trans (Ex.trans (Ex.trans (Ex.refl w) hE9) hE12) hE47)⟩
     ·refine sz rfl rfl hb44 (sz rfl rfl hb44 (sz rfl rfl hb44 (sd rfl (yl_pick_f rfl rfl hb44 rfl (sA rfl (dn (CW.ret (br ?_))))))))
      refine tr (rr rfl (.cons rfl .nil) ?_)
      rw [show (s_l5Op p_o) = (false) by simp only [s_l5Op, hb13, hb15, hb29, hb43, hb44, cL]]
      exact ⟨rfl, (Ex.trans (Ex.trans (Ex.refl w) hE9) hE12)⟩
    ·refine CW.cond_f rfl hb43 (CW.region (sd rfl (yl_eql rfl rfl rfl (sA rfl (dn (bcD (q := p_o.Kind = 5) (fun hb55 hb55p => ?_) (fun hb55 hb55p => ?_)))))))
     ·refine CW.cond_t rfl hb55 (cR (sd rfl (yl_fieldAddr fd122_2 rfl rfl (sd rfl (yl_load1 ty9 rfl rfl ((q14.cell 2).trans rfl) (sd rfl (yl_seql (a := p_o.Val) (b := ([] : Str)) rfl rfl rfl (sM rfl (bcase (p_o.Val == ([] : Str)) (fun hb56 => ?_) (fun hb56 => ?_))))))))))
      ·refine sy rfl rfl hb56 (yl_fieldAddr fd122_3 rfl rfl (sy rfl rfl hb56 (yl_load1 ty3 rfl rfl ((q14.cell 3).trans rfl) (sy rfl rfl hb56 (yC en91 rfl (oc rfl (oc rfl (oc rfl oz))) (Cal.mono (c_s_l1In p_o.By (-9999) 9999) ?_))))))
       rintro v58 w57 ⟨rfl, hE59⟩
       refine sd rfl (yl_pick_t rfl rfl hb56 rfl (sA rfl (dn (CW.ret (br (tr (rr rfl (.cons rfl .nil) ?_)))))))
       rw [show (s_l5Op p_o) = ((s_l1In p_o.By (-9999) 9999)) by simp only [s_l5Op, hb13, hb15, hb29, hb43, hb55, hb56, cL]]
       exact ⟨rfl, (Ex.trans (Ex.trans (Ex.trans (Ex.refl w) hE9) hE12) hE59)⟩
      ·refine sz rfl rfl hb56 (sz rfl rfl hb56 (sz rfl rfl hb56 (sd rfl (yl_pick_f rfl rfl hb56 rfl (sA rfl (dn (CW.ret (br ?_))))))))
       refine tr (rr rfl (.cons rfl .nil) ?_)
       rw [show (s_l5Op p_o) = (false) by simp only [s_l5Op, hb13, hb15, hb29, hb43, hb55, hb56, cL]]
       exact ⟨rfl, (Ex.trans (Ex.trans (Ex.refl w) hE9) hE12)⟩
     ·refine CW.cond_f rfl hb55 (CW.skip (bn (tn (cR (sd rfl (yl_fieldAddr fd122_0 rfl rfl (sd rfl (yl_load1 ty3 rfl rfl ((q14.cell 0).trans rfl) (sd rfl (yl_eql rfl rfl rfl ?_))))))))))
      refine sM rfl (bcD (q := p_o.Kind = 1) (fun hb67 hb67p => ?_) (fun hb67 hb67p => ?_))
      ·refine sz rfl rfl hb67 (sz rfl rfl hb67 (sz rfl rfl hb67 (sd rfl (yl_pick_t rfl rfl hb67 rfl (sM rfl (sz rfl rfl rfl (sz rfl rfl rfl (sz rfl rfl rfl (sd rfl (yl_pick_t rfl rfl rfl rfl ?_))))))))))
       refine sM rfl (sy rfl rfl rfl (yl_fieldAddr fd122_2 rfl rfl (sy rfl rfl rfl (yl_load1 ty9 rfl rfl ((q14.cell 2).trans rfl) (sy rfl rfl rfl (yl_seql (a := p_o.Val) (b := ([] : Str)) rfl rfl rfl (sd rfl (yl_pick_t rfl rfl rfl rfl (sM rfl (bcase (p_o.Val == ([] : Str)) (fun hb68 => ?_) (fun hb68 => ?_)))))))))))
       ·refine sy rfl rfl hb68 (yl_fieldAddr fd122_3 rfl rfl (sy rfl rfl hb68 (yl_load1 ty3 rfl rfl ((q14.cell 3).trans rfl) (sy rfl rfl hb68 (yl_eql rfl rfl rfl (sd rfl (yl_pick_t rfl rfl hb68 rfl (sA rfl (dn (CW.ret (rr rfl (.cons rfl .nil) ?_)))))))))))
        rw [show (s_l5Op p_o) = (decide (p_o.By = 0)) by simp only [s_l5Op, hb13, hb15, hb29, hb43, hb55, hb67, hb68, cL]]
        exact ⟨rfl, (Ex.trans (Ex.trans (Ex.refl w) hE9) hE12)⟩
       ·refine sz rfl rfl hb68 (sz rfl rfl hb68 (sz rfl rfl hb68 (sd rfl (yl_pick_f rfl rfl hb68 rfl (sA rfl (dn (CW.ret (rr rfl (.cons rfl .nil) ?_))))))))
        rw [show (s_l5Op p_o) = (false) by simp only [s_l5Op, hb13, hb15, hb29, hb43, hb55, hb67, hb68, cL]]
        exact ⟨rfl, (Ex.trans (Ex.trans (Ex.refl w) hE9) hE12)⟩
      ·refine sy rfl rfl hb67 (yl_fieldAddr fd122_0 rfl rfl (sy rfl rfl hb67 (yl_load1 ty3 rfl rfl ((q14.cell 0).trans rfl) (sy rfl rfl hb67 (yl_eql rfl rfl rfl (sd rfl (yl_pick_f rfl rfl hb67 rfl (sM rfl (bcD (q := p_o.Kind = 3) (fun hb75 hb75p => ?_) (fun hb75 hb75p => ?_))))))))))
       ·refine sz rfl rfl hb75 (sz rfl rfl hb75 (sz rfl rfl hb75 (sd rfl (yl_pick_t rfl rfl hb75 rfl (sM rfl (sy rfl rfl rfl (yl_fieldAddr fd122_2 rfl rfl (sy rfl rfl rfl (yl_load1 ty9 rfl rfl ((q14.cell 2).trans rfl) (sy rfl rfl rfl (yl_seql (a := p_o.Val) (b := ([] : Str)) rfl rfl rfl (sd rfl (yl_pick_t rfl rfl rfl rfl ?_)))))))))))))
        refine sM rfl (bcase (p_o.Val == ([] : Str)) (fun hb76 => ?_) (fun hb76 => ?_))
        ·refine sy rfl rfl hb76 (yl_fieldAddr fd122_3 rfl rfl (sy rfl rfl hb76 (yl_load1 ty3 rfl rfl ((q14.cell 3).trans rfl) (sy rfl rfl hb76 (yl_eql rfl rfl rfl (sd rfl (yl_pick_t rfl rfl hb76 rfl (sA rfl (dn (CW.ret (rr rfl (.cons rfl .nil) ?_)))))))))))
         rw [show (s_l5Op p_o) = (decide (p_o.By = 0)) by simp only [s_l5Op, hb13, hb15, hb29, hb43, hb55, hb67, hb75, hb76, cL]]
         exact ⟨rfl, (Ex.trans (Ex.trans (Ex.refl w) hE9) hE12)⟩
        ·refine sz rfl rfl hb76 (sz rfl rfl hb76 (sz rfl rfl hb76 (sd rfl (yl_pick_f rfl rfl hb76 rfl (sA rfl (dn (CW.ret (rr rfl (.cons rfl .nil) ?_))))))))
         rw [show (s_l5Op p_o) = (false) by simp only [s_l5Op, hb13, hb15, hb29, hb43, hb55, hb67, hb75, hb76, cL]]
         exact ⟨rfl, (Ex.trans (Ex.trans (Ex.refl w) hE9) hE12)⟩
       ·refine sy rfl rfl hb75 (yl_fieldAddr fd122_0 rfl rfl (sy rfl rfl hb75 (yl_load1 ty3 rfl rfl ((q14.cell 0).trans rfl) (sy rfl rfl hb75 (yl_eql rfl rfl rfl (sd rfl (yl_pick_f rfl rfl hb75 rfl (sM rfl (bcD (q := p_o.Kind = 6) (fun hb83 hb83p => ?_) (fun hb83 hb83p => ?_))))))))))
        ·refine sy rfl rfl hb83 (yl_fieldAddr fd122_2 rfl rfl (sy rfl rfl hb83 (yl_load1 ty9 rfl rfl ((q14.cell 2).trans rfl) (sy rfl rfl hb83 (yl_seql (a := p_o.Val) (b := ([] : Str)) rfl rfl rfl (sd rfl (yl_pick_t rfl rfl hb83 rfl (sM rfl (bcase (p_o.Val == ([] : Str)) (fun hb84 => ?_) (fun hb84 => ?_))))))))))
         ·refine sy rfl rfl hb84 (yl_fieldAddr fd122_3 rfl rfl (sy rfl rfl hb84 (yl_load1 ty3 rfl rfl ((q14.cell 3).trans rfl) (sy rfl rfl hb84 (yl_eql rfl rfl rfl (sd rfl (yl_pick_t rfl rfl hb84 rfl (sA rfl (dn (CW.ret (rr rfl (.cons rfl .nil) ?_)))))))))))
          rw [show (s_l5Op p_o) = (decide (p_o.By = 0)) by simp only [s_l5Op, hb13, hb15, hb29, hb43, hb55, hb67, hb75, hb83, hb84, cL]]
          exact ⟨rfl, (Ex.trans (Ex.trans (Ex.refl w) hE9) hE12)⟩
         ·refine sz rfl rfl hb84 (sz rfl rfl hb84 (sz rfl rfl hb84 (sd rfl (yl_pick_f rfl rfl hb84 rfl (sA rfl (dn (CW.ret (rr rfl (.cons rfl .nil) ?_))))))))
          rw [show (s_l5Op p_o) = (false) by simp only [s_l5Op, hb13, hb15, hb29, hb43, hb55, hb67, hb75, hb83, hb84, cL]]
          exact ⟨rfl, (Ex.trans (Ex.trans (Ex.refl w) hE9) hE12)⟩
        ·refine sz rfl rfl hb83 (sz rfl rfl hb83 (sz rfl rfl hb83 (sd rfl (yl_pick_f rfl rfl hb83 rfl (sM rfl (sz rfl rfl rfl (sz rfl rfl rfl (sz rfl rfl rfl (sd rfl (yl_pick_f rfl rfl rfl rfl ?_))))))))))
         refine sA rfl (dn (CW.ret (rr rfl (.cons rfl .nil) ?_)))
         rw [show (s_l5Op p_o) = (false) by simp only [s_l5Op, hb13, hb15, hb29, hb43, hb55, hb67, hb75, hb83, cL]]
         exact ⟨rfl, (Ex.trans (Ex.trans (Ex.refl w) hE9) hE12)⟩
 ·refine CW.cond_t rfl (not_f hb13) (cR (sA rfl (dn (CW.ret (tr (rr rfl (.cons rfl .nil) ?_))))))
  rw [show (s_l5Op p_o) = (false) by simp only [s_l5Op, hb13, cL]]
  exact ⟨rfl, (Ex.trans (Ex.trans (Ex.refl w) hE9) hE12)⟩
theorem c_s_l5Good {A1 : Option Addr} {c1 : Nat} {w : World} (p_l : List DOp) (h1 : RdS w (Iv 0 w.heap.size) (RF e_Op) 4 A1 p_l.length c1 p_l) (o2 : (okL ok_Op) p_l) : Cal Tryz.prog 122 #[.slice A1 p_l.length c1] w fun v w' => v = .bool ((s_l5Good p_l)) ∧ Ex w w' := by
 have hol3 := o2.1
 refine Cal.of func122 rfl ntmps122 rfl (cR (sA rfl (dn (CW.seq (cR ?_)))))
 refine sM rfl (sd rfl (yL un77 rfl rfl (sM rfl (dn (CW.block (CW.loop (fun m19 L20 w21 => ∃ (k4 : Nat), m19 = p_l.length - k4 ∧ k4 ≤ p_l.length ∧ w.heap.size ≤ w21.heap.size ∧ Sub [(0, .slice A1 p_l.length c1), (5, .slice A1 p_l.length c1), (6, .int .i64 ((p_l.length : Int))), (7, .int .i64 ((k4 : Int)))] L20 ∧ RdS w21 (Iv 0 w.heap.size) (RF e_Op) 4 A1 p_l.length c1 p_l ∧ Ex w w21 ∧ loopM (B_s_l5Good_0 p_l) (p_l.length - k4) k4 () = loopM (B_s_l5Good_0 p_l) (p_l.length - 0) 0 ()) (p_l.length - 0) ?_ ?_))))))
 ·exact ⟨0, rfl, oM, Nat.le_refl _, (sR rfl), h1, (Ex.refl w), rfl⟩
 ·rintro m22 L23 w24 ⟨k4, rfl, hk25, hsz27, hl28, hf29, hf30, hI26⟩
  refine CW.sub hl28 ?_
  have hf30z := Ex.size hf30
  have hbg31 := RdS.big hf29
  rcases Nat.lt_or_ge k4 p_l.length with hlt32 | hlt32
  ·refine cR (sd rfl (yl_lss rfl rfl rfl (dn (CW.seq (CW.cond_t rfl (lt_t hlt32) (CW.skip (tn ?_)))))))
   refine CW.seq (CW.block (cR ?_))
   obtain ⟨_, _, _, eA33, _, ebl33, _, eR33, eC33⟩ := RdS.aD hf29 d_Op (i := k4)
   obtain rfl := eR33
   refine sd rfl (yl_ixN un77 ty122 rfl rfl rfl eA33 (sd rfl (yl_loadN ty122 rfl rfl eC33 rfl (sd rfl (yB ty122 (cs := [.int .i64 (0), .string (bs (([] : Str))), .string (bs (([] : Str))), .int .i64 (0)]) rfl rfl ?_)))))
   intro b34 w35 hs36 hz37 hB38 hE39
   refine SeqR.u rfl rfl (yl_storeA (vs := [.int .i64 ((p_l.getD k4 d_Op).Kind), .string (bs ((p_l.getD k4 d_Op).Key)), .string (bs ((p_l.getD k4 d_Op).Val)), .int .i64 ((p_l.getD k4 d_Op).By)]) ty122 rfl rfl rfl rfl rfl rfl hB38 rfl ?_)
   intro w40 hB41 hO42
   have hO42z := hO42.size
   refine dn (cR (sd rfl (yl_loadN ty122 rfl rfl (hB41.cells (n := 4) rfl) rfl (sd rfl (yC en169 rfl (oc rfl oz) (Cal.mono (c_s_l5Op (p_l.getD k4 d_Op) (okL.getD o2 ok_d_Op _)) ?_))))))
   rintro v44 w43 ⟨rfl, hE45⟩
   have hE45z := Ex.size hE45
   refine sd rfl (yl_not rfl rfl (dn (bcase (s_l5Op (p_l.getD k4 d_Op)) (fun hb46 => ?_) (fun hb46 => ?_))))
   ·refine CW.cond_f rfl (not_t hb46) (CW.skip (bn (tn (CW.region (sd rfl (yl_inc rfl rfl rfl oM (sM rfl (dn ?_))))))))
    have hB47 : B_s_l5Good_0 p_l k4 () = .cont () := by simp only [B_s_l5Good_0, hb46, cL]
    exact ⟨p_l.length - (k4 + 1), oM, k4 + 1, rfl, hlt32, oM, (sR rfl), (RdS.ex good_Op (RdS.only good_Op (RdS.ex good_Op hf29 hE39) hO42 iV) hE45), (Ex.trans (Below.only (Ex.trans hf30 hE39) hO42 oM) hE45), (loopM.cont hlt32 hB47).symm.trans hI26⟩
   ·refine CW.cond_t rfl (not_f hb46) (cR (sA rfl (dn (CW.ret (br (tr ?_))))))
    refine tr ?_
    have hB55 : B_s_l5Good_0 p_l k4 () = .ret false := by simp only [B_s_l5Good_0, hb46, cL]
    have hL54 : loopM (B_s_l5Good_0 p_l) (p_l.length - 0) 0 () = .ret false := hI26.symm.trans (loopM.ret hlt32 hB55)
    refine br (tr (rr rfl (.cons rfl .nil) ?_))
    rw [show (s_l5Good p_l) = (false) by simp only [s_l5Good, hb46, hL54, cL]]
    exact ⟨rfl, (Ex.trans (Below.only (Ex.trans hf30 hE39) hO42 oM) hE45)⟩
  ·refine cR (sd rfl (yl_lss rfl rfl rfl (dn (CW.seq (CW.cond_f rfl (lt_f hlt32) (CW.exit (tx ?_)))))))
   refine tx ?_
   have hL60 : loopM (B_s_l5Good_0 p_l) (p_l.length - 0) 0 () = .done () := hI26.symm.trans (loopM.stop hlt32)
   refine bx (tn (cR (sM rfl (sd rfl (yL un77 rfl rfl (sd rfl (yl_leq rfl rfl rfl (sA rfl (SeqR.done ?_)))))))))
   refine tn (CW.ret (rr rfl (.cons rfl .nil) ?_))
   rw [show (s_l5Good p_l) = (decide ((p_l.length : Int) ≤ 8)) by simp only [s_l5Good, hL60, cL]]
   exact ⟨rfl, hf30⟩
theorem c_s_l5PutW {A1 : Option Addr} {c1 : Nat} {w : World} (p_l : List DWrite) (p_w : DWrite) (h1 : RdS w (Iv 0 w.heap.size) (RF e_Write) 3 A1 p_l.length c1 p_l) (o2 : (okL ok_Write) p_l) (o3 : ok_Write p_w) (pre0 : p_l.length ≤ 1000000) : Cal Tryz.prog 172 #[.slice A1 p_l.length c1, .agg #[.string (bs (p_w.Key)), .string (bs (p_w.Val)), .bool (p_w.Gone)]] w fun v w' => ∃ A_1 c_1 lo_1 hi_1, v = .slice A_1 ((s_l5PutW p_l p_w).length) c_1 ∧ OwnL w' lo_1 hi_1 80 3 (RF e_Write) A_1 ((s_l5PutW p_l p_w).length) c_1 (s_l5PutW p_l p_w) ∧ (okL ok_Write) (s_l5PutW p_l p_w) ∧ (s_l5PutW p_l p_w).length ≤ p_l.length + 1 ∧ (w.heap.size ≤ lo_1 ∧ lo_1 ≤ hi_1 ∧ hi_1 ≤ w'.heap.size) ∧ Ex w w' := by
 have hol4 := o2.1
 have hol5 : p_w.Key.length ≤ 1073741824 := o3.1
 have hol6 : p_w.Val.length ≤ 1073741824 := o3.2
 refine Cal.of func172 rfl ntmps172 rfl (cR (sd rfl (yl_box rfl rfl rfl ?_)))
 intro b7 w8 hs9 hz10 hB11 hE12
 refine sA rfl (dn (cR (sM rfl (sd rfl (yL un34 rfl rfl (sA rfl (SeqR.done ?_)))))))
 refine tn (CW.seq (CW.block (CW.loop (fun m15 L16 w17 => ∃ (x14 : Int), ((x14).toNat) < m15 ∧ w8.heap.size ≤ w17.heap.size ∧ Sub [(0, .slice A1 p_l.length c1), (3, .pointer (some ⟨b7, 0, none⟩)), (5, .int .i64 (x14))] L16 ∧ RdS w17 (Iv 0 w.heap.size) (RF e_Write) 3 A1 p_l.length c1 p_l ∧ Box w17 b7 80 [.string (bs (p_w.Key)), .string (bs (p_w.Val)), .bool (p_w.Gone)] ∧ Ex w w17 ∧ (0 ≤ x14 ∧ x14 ≤ (p_l.length : Int)) ∧ loopW (B_s_l5PutW_0 p_l p_w) m15 (x14) = loopW (B_s_l5PutW_0 p_l p_w) ((((p_l.length : Int)).toNat) + 1) ((p_l.length : Int))) ((((p_l.length : Int)).toNat) + 1) ?_ ?_)))
 ·exact ⟨(p_l.length : Int), Nat.lt_succ_self _, Nat.le_refl _, (sR rfl), (RdS.ex gW h1 hE12), hB11, (Ex.trans (Ex.refl w) hE12), Bo, rfl⟩
 ·rintro m20 L21 w22 ⟨x14, hk23, hsz25, hl26, hf27, hf28, hf29, hv30, hI24⟩
  refine CW.sub hl26 ?_
  have hf28z := Box.lt hf28
  have hf29z := Ex.size hf29
  refine CW.seq (CW.seq (bcD (q := 0 < x14) (fun hb31 hb31p => ?_) (fun hb31 hb31p => ?_)))
  ·obtain ⟨eb32, eo32, _, eA32, _, ebl32, _, eR32, eC32⟩ := RdS.atD hf27 d_Write (i := (IntKind.wrap .i64 (x14 - 1)).toNat) Bq
   obtain rfl := eR32
   refine drJ 13 [.int .i64 (x14), .bool (decide (0 < x14)), .bool (decide (0 < x14)), .slice A1 p_l.length c1, .int .i64 (x14), .int .i64 (IntKind.wrap .i64 (x14 - 1)), .pointer (some ⟨eb32, eo32 + ((IntKind.wrap .i64 (x14 - 1)).toNat) * 3, none⟩), .pointer (some ⟨eb32, eo32 + ((IntKind.wrap .i64 (x14 - 1)).toNat) * 3 + 0, none⟩), .string (bs ((p_l.getD ((IntKind.wrap .i64 (x14 - 1)).toNat) d_Write).Key)), .pointer (some ⟨b7, 0 + 0, none⟩), .string (bs (p_w.Key)), .bool (!(sLe ((p_l.getD ((IntKind.wrap .i64 (x14 - 1)).toNat) d_Write).Key) p_w.Key)), .bool (!(sLe ((p_l.getD ((IntKind.wrap .i64 (x14 - 1)).toNat) d_Write).Key) p_w.Key))] Tryz.follows rfl ⟨oI rfl fun h => yM rfl (h.g 5 rfl) kI, oI rfl fun h => yl_gtr rfl (h.g 10 rfl) rfl kI, oI rfl fun h => yM rfl (h.g 11 rfl) kI, oW rfl rfl rfl rfl hb31 fun h => yM rfl (h.g 0 rfl) kI, oW rfl rfl rfl rfl hb31 fun h => yM rfl (h.g 5 rfl) kI, oW rfl rfl rfl rfl hb31 fun h => yl_sub rfl (h.g 14 rfl) rfl kI, ?_, oW rfl rfl rfl rfl hb31 fun h => yl_fieldAddr fd80_0 rfl (h.g 16 rfl) kI, oW rfl rfl rfl rfl hb31 fun h => yl_load1 ty9 rfl (h.g 17 rfl) ((Cells.ex eC32 h.ex) 0 _ rfl) kI, oW rfl rfl rfl rfl hb31 fun h => yl_fieldAddr fd80_0 rfl (h.g 3 rfl) kI, oW rfl rfl rfl rfl hb31 fun h => yl_load1 ty9 rfl (h.g 19 rfl) (((Box.ex hf28 h.ex).cell 0).trans rfl) kI, oW rfl rfl rfl rfl hb31 fun h => yl_sgtr (a := ((p_l.getD ((IntKind.wrap .i64 (x14 - 1)).toNat) d_Write).Key)) (b := p_w.Key) rfl (h.g 18 rfl) (h.g 20 rfl) kI, oI rfl fun h => yl_pick_t rfl (h.g 12 rfl) hb31 (h.g 21 rfl) kI, trivial⟩ ?_
   ·intro L66 w67 hi68
    have hE69 := hi68.ex
    have hE69z := Ex.size hE69
    exact OpR.want rfl rfl (hi68.g 12 rfl) hb31 (Yl.sameI (yl_indexAddr un34 ty80 rfl (hi68.g 13 rfl) (hi68.g 15 rfl) eA32 Bq Bq kI))
   ·intro fl115 fh116 L112 w113 hp114
    have hE117 := hp114.ex
    have hE117z := Ex.size hE117
    refine dn (CW.sub (hp114.ss [0, 3, 5, 22] rfl) (bcase (sLe ((p_l.getD ((IntKind.wrap .i64 (x14 - 1)).toNat) d_Write).Key) p_w.Key) (fun hb122 => ?_) (fun hb122 => ?_)))
    ·refine CW.cond_f rfl (not_t hb122) (CW.exit (tx (tx ?_)))
     have hB124 : B_s_l5PutW_0 p_l p_w (x14) = .brk (x14) := by simp only [B_s_l5PutW_0, hb31, hb122, cL]
     have hL123 : loopW (B_s_l5PutW_0 p_l p_w) ((((p_l.length : Int)).toNat) + 1) ((p_l.length : Int)) = .done (x14) := hI24.symm.trans (loopW.brk hk23 hB124)
     refine bx (tn (CW.seq (CW.seq ?_)))
     have q126 := Box.ex hf28 hE117
     refine drJ 13 [.int .i64 (x14), .bool (decide (0 < x14)), .bool (decide (0 < x14)), .slice A1 p_l.length c1, .int .i64 (x14), .int .i64 (IntKind.wrap .i64 (x14 - 1)), .pointer (some ⟨eb32, eo32 + ((IntKind.wrap .i64 (x14 - 1)).toNat) * 3, none⟩), .pointer (some ⟨eb32, eo32 + ((IntKind.wrap .i64 (x14 - 1)).toNat) * 3 + 0, none⟩), .string (bs ((p_l.getD ((IntKind.wrap .i64 (x14 - 1)).toNat) d_Write).Key)), .pointer (some ⟨b7, 0 + 0, none⟩), .string (bs (p_w.Key)), .bool (((p_l.getD ((IntKind.wrap .i64 (x14 - 1)).toNat) d_Write).Key) == p_w.Key), .bool (((p_l.getD ((IntKind.wrap .i64 (x14 - 1)).toNat) d_Write).Key) == p_w.Key)] Tryz.follows rfl ⟨oI rfl fun h => yM rfl (h.g 5 rfl) kI, oI rfl fun h => yl_gtr rfl (h.g 25 rfl) rfl kI, oI rfl fun h => yM rfl (h.g 26 rfl) kI, oW rfl rfl rfl rfl hb31 fun h => yM rfl (h.g 0 rfl) kI, oW rfl rfl rfl rfl hb31 fun h => yM rfl (h.g 5 rfl) kI, oW rfl rfl rfl rfl hb31 fun h => yl_sub rfl (h.g 29 rfl) rfl kI, ?_, oW rfl rfl rfl rfl hb31 fun h => yl_fieldAddr fd80_0 rfl (h.g 31 rfl) kI, oW rfl rfl rfl rfl hb31 fun h => yl_load1 ty9 rfl (h.g 32 rfl) ((Cells.ex (Cells.ex eC32 hE117) h.ex) 0 _ rfl) kI, oW rfl rfl rfl rfl hb31 fun h => yl_fieldAddr fd80_0 rfl (h.g 3 rfl) kI, oW rfl rfl rfl rfl hb31 fun h => yl_load1 ty9 rfl (h.g 34 rfl) (((Box.ex q126 h.ex).cell 0).trans rfl) kI, oW rfl rfl rfl rfl hb31 fun h => yl_seql (a := ((p_l.getD ((IntKind.wrap .i64 (x14 - 1)).toNat) d_Write).Key)) (b := p_w.Key) rfl (h.g 33 rfl) (h.g 35 rfl) kI, oI rfl fun h => yl_pick_t rfl (h.g 27 rfl) hb31 (h.g 36 rfl) kI, trivial⟩ ?_
     ·intro L160 w161 hi162
      have hE163 := hi162.ex
      have hE163z := Ex.size hE163
      exact OpR.want rfl rfl (hi162.g 27 rfl) hb31 (Yl.sameI (yl_indexAddr un34 ty80 rfl (hi162.g 28 rfl) (hi162.g 30 rfl) eA32 Bq Bq kI))
     ·intro fl209 fh210 L206 w207 hp208
      have hE211 := hp208.ex
      have hE211z := Ex.size hE211
      refine dn (CW.sub (hp208.ss [0, 3, 5, 37] rfl) (bcase (((p_l.getD ((IntKind.wrap .i64 (x14 - 1)).toNat) d_Write).Key) == p_w.Key) (fun hb216 => ?_) (fun hb216 => ?_)))
      ·refine CW.cond_t rfl hb216 (cR (sd rfl (yl_buildSlice (cs := []) un34 ty80 (by decide) rfl opvs_nil (by kernel_rfl) ?_)))
       intro b217 w218 hs219 hz220 hB221 hE222
       have hO223 : OwnL w218 b217 (b217 + 1) 80 3 (RF e_Write) (some ⟨b217, 0, none⟩) 0 0 ([] : List DWrite) := oB hB221
       refine sM rfl ?_
       obtain ⟨nw227, he228, hs229⟩ := RdS.src (RdS.ex gW (RdS.ex gW (RdS.ex gW hf27 hE117) hE211) hE222)
       have hol230 : p_l.length ≤ 2147483648 := o2.1
       refine sd rfl (yl_appendL (S := (fun _ => False)) (lo := b217) (hi := (b217 + 1)) (xs := ([] : List DWrite)) (ys := p_l) gW un34 ty80 rfl (nb rfl) rfl rfl rfl hO223 he228 hs229 rfl Bl Bl oM oM (fun _ h _ => False.elim h) oM ?_)
       intro A231 c232 w233 row234 hO235 hG236 hrg237
       have hG236z := hG236.size
       refine sA rfl (dn (cR (sM rfl (sM rfl (sd rfl (yl_sub rfl rfl rfl (sd rfl (yl_loadN ty80 rfl rfl ((Box.grown (Box.ex (Box.ex q126 hE211) hE222) hG236 (hW hrg237)).cells (n := 3) rfl) rfl ?_))))))))
       obtain ⟨eb242, eo242, _, eA242, _, ebl242, _, eR242, _⟩ := RdS.atD (OwnL.rd gW hO235) d_Write (i := (IntKind.wrap .i64 (x14 - 1)).toNat) Bq
       obtain rfl := eR242
       refine sd rfl (yl_indexAddr un34 ty80 rfl rfl rfl eA242 Bq Bq ?_)
       have hrg243 := OwnL.rng hO235 (i := (IntKind.wrap .i64 (x14 - 1)).toNat) Bq eb242 (by rw [eA242]; rfl)
       refine SeqR.u rfl rfl (yl_storeF (off := eo242) (i := (IntKind.wrap .i64 (x14 - 1)).toNat) (d := 0) (dx := d_Write) (x' := p_w) (vs := [.string (bs (p_w.Key)), .string (bs (p_w.Val)), .bool (p_w.Gone)]) ty80 rfl hO235 eA242 rfl rfl rfl rfl rfl Bq (nb rfl) rfl rfl ?_)
       intro w244 hB245 hO246
       have hO246z := hO246.size
       refine dn (cR (sM rfl (sA rfl (dn (CW.ret ?_)))))
       refine tr (rr rfl (.cons rfl .nil) ?_)
       have hfx248 := (hB245).1
       have hol249 : p_l.length ≤ 2147483648 := o2.1
       rw [show (s_l5PutW p_l p_w) = (((([] : List DWrite) ++ p_l).set ((IntKind.wrap .i64 (x14 - 1)).toNat) p_w)) by simp only [s_l5PutW, hb31, hb122, hb216, hL123, cL]]
       exact ⟨A231, c232, b217, w233.heap.size, (by first | rfl | (simp only [List.length_replicate, List.length_set]; done) | (simp only [List.length_replicate, List.length_set]; rfl) | (rw [hfx248] <;> rfl)), (OwnL.fix hB245), (okL.mk (xs := ((([] : List DWrite) ++ p_l).set ((IntKind.wrap .i64 (x14 - 1)).toNat) p_w)) Bl (okE.set (okE.append okE.nil (o2).2) o3)), (by (try dsimp only); first | omega | (simp only [List.length_append, List.length_take, List.length_drop, List.length_set, List.length_cons, List.length_nil]; omega)), oM, (Below.only (Below.grown (Ex.trans (Ex.trans (Ex.trans hf29 hE117) hE211) hE222) hG236 oM (hW hrg237)) hO246 oM)⟩
      ·refine CW.cond_f rfl hb216 (CW.skip (tn (cR (sd rfl (yl_buildSlice (cs := []) un34 ty80 (by decide) rfl opvs_nil (by kernel_rfl) ?_)))))
       intro b255 w256 hs257 hz258 hB259 hE260
       have hO261 : OwnL w256 b255 (b255 + 1) 80 3 (RF e_Write) (some ⟨b255, 0, none⟩) 0 0 ([] : List DWrite) := oB hB259
       refine sM rfl (sM rfl ?_)
       have q264 := RdS.ex gW (RdS.ex gW (RdS.ex gW hf27 hE117) hE211) hE260
       obtain ⟨A265, c266, he269, h268⟩ := RdS.sl (RdS.drop q264 (k := (x14).toNat) Bq)
       have hrc270 := (q264).2.1
       refine sd rfl (yl_sliceR (kh := .i64) (l := (x14).toNat) (h := p_l.length) un34 ty80 rfl rfl (.inr ⟨_, rfl, (toNat_op rfl Bq)⟩) (.inl ⟨rfl, rfl⟩) Bq Bq he269 ?_)
       obtain ⟨nw271, he272, hs273⟩ := RdS.src h268
       have hol274 : (p_l.drop ((x14).toNat)).length ≤ 2147483648 := (okL.drop o2 _).1
       refine sd rfl (yl_appendL (S := (fun _ => False)) (lo := b255) (hi := (b255 + 1)) (xs := ([] : List DWrite)) (ys := (p_l.drop ((x14).toNat))) gW un34 ty80 rfl (nb rfl) rfl rfl rfl hO261 he272 hs273 rfl Bl Bl oM oM (fun _ h _ => False.elim h) oM ?_)
       intro A275 c276 w277 row278 hO279 hG280 hrg281
       have hG280z := hG280.size
       refine sA rfl (dn (CW.seq ?_))
       have q285 := RdS.grown gW q264 hG280 (hV hrg281)
       obtain ⟨A286, c287, he290, h289⟩ := RdS.sl (RdS.drop (RdS.take q285 (k := (x14).toNat) Bq) (k := 0) Bq)
       have hrc291 := (q285).2.1
       refine CW.drawsG 9 (fun _ _ => False) (fun i G b => (i = 7 ∧ (G.fl 4) ≤ b ∧ b < (G.fh 4))) (vgetG [fun G v wq => ∃ A282, v = .slice A282 0 0 ∧ OwnL wq w277.heap.size w277.heap.size 80 3 (RF e_Write) A282 0 0 ([] : List DWrite), DetG (.slice A1 p_l.length c1), DetG (.int .i64 (x14)), fun G v wq => ∃ A286 c287, v = .slice A286 ((p_l.take ((x14).toNat)).length) c287 ∧ RdS wq (Iv 0 w.heap.size) (RF e_Write) 3 A286 (p_l.take ((x14).toNat)).length c287 (p_l.take ((x14).toNat)), fun G v wq => ∃ A293 c294, v = .slice A293 ((([] : List DWrite) ++ (p_l.take ((x14).toNat))).length) c294 ∧ (G.dn 7 = false → OwnL wq (G.fl 4) (G.fh 4) 80 3 (RF e_Write) A293 ((([] : List DWrite) ++ (p_l.take ((x14).toNat))).length) c294 (([] : List DWrite) ++ (p_l.take ((x14).toNat)))), DetG (.agg #[.string (bs (p_w.Key)), .string (bs (p_w.Val)), .bool (p_w.Gone)]), fun G v wq => ∃ A299, v = .slice A299 1 1 ∧ OwnL wq (G.fl 6) (G.fh 6) 80 3 (RF e_Write) A299 1 1 ([p_w] : List DWrite), fun G v wq => ∃ A302 c303, v = .slice A302 (((([] : List DWrite) ++ (p_l.take ((x14).toNat))) ++ ([p_w] : List DWrite)).length) c303 ∧ OwnL wq (G.fl 4) (G.fh 7) 80 3 (RF e_Write) A302 (((([] : List DWrite) ++ (p_l.take ((x14).toNat))) ++ ([p_w] : List DWrite)).length) c303 ((([] : List DWrite) ++ (p_l.take ((x14).toNat))) ++ ([p_w] : List DWrite)), DetG (.slice A275 ((([] : List DWrite) ++ (p_l.drop ((x14).toNat))).length) c276)]) Tryz.follows rfl rfl rfl rfl rfl rfl (fun _ _ _ _ _ h => h) (fun i G w lo hi b K hn hh hp => by exact (match hp with | ⟨e, q1, q2⟩ => by subst e; exact .inr (by have := K.rng 4 (hh 4 rfl); omega))) (vgetG_kept ⟨(by rintro i G v w w' K hn hh hj ⟨A282, hv, h0⟩ e; exact ⟨A282, hv, (by exact OwnL.chg gW h0 e (fun b hb hp => by obtain ⟨rfl, q1, q2⟩ := hp; have := K.rng 4 (hh 4 rfl); skip; omega))⟩), (KeptG.det _), (KeptG.det _), (by rintro i G v w w' K hn hh hj ⟨A286, c287, hv, h0⟩ e; exact ⟨A286, c287, hv, (by exact RdS.chg gW h0 e (fun b hb hp hS => by have hS1 := hS.1; have hS2 := hS.2; obtain ⟨rfl, q1, q2⟩ := hp; have := K.rng 4 (hh 4 rfl); skip; omega))⟩), (by rintro i G v w w' K hn hh hj ⟨A293, c294, hv, h0⟩ e; have d4 : G.dn 4 = true := hj; have u4 := Gh.ufl (lo := w.heap.size) (hi := w'.heap.size) d4 hn; have t4 := Gh.ufh (lo := w.heap.size) (hi := w'.heap.size) d4 hn; exact ⟨A293, c294, hv, (by intro hd; simp only [u4, t4]; exact OwnL.chg gW (h0 (Gh.off hd).2) e (fun b hb hp => by obtain ⟨rfl, q1, q2⟩ := hp; exact absurd rfl (Gh.off hd).1))⟩), (KeptG.det _), (by rintro i G v w w' K hn hh hj ⟨A299, hv, h0⟩ e; have d6 : G.dn 6 = true := hj; have u6 := Gh.ufl (lo := w.heap.size) (hi := w'.heap.size) d6 hn; have t6 := Gh.ufh (lo := w.heap.size) (hi := w'.heap.size) d6 hn; exact ⟨A299, hv, (by simp only [u6, t6]; exact OwnL.chg gW h0 e (fun b hb hp => by obtain ⟨rfl, q1, q2⟩ := hp; have := K.rng 4 (hh 4 rfl); have := K.rng 6 d6; have := K.sep 4 6 (hh 4 rfl) d6 rfl; skip; omega))⟩), (by rintro i G v w w' K hn hh hj ⟨A302, c303, hv, h0⟩ e; have d4 : G.dn 4 = true := K.cl 7 4 hj rfl; have u4 := Gh.ufl (lo := w.heap.size) (hi := w'.heap.size) d4 hn; have t4 := Gh.ufh (lo := w.heap.size) (hi := w'.heap.size) d4 hn; have d7 : G.dn 7 = true := hj; have u7 := Gh.ufl (lo := w.heap.size) (hi := w'.heap.size) d7 hn; have t7 := Gh.ufh (lo := w.heap.size) (hi := w'.heap.size) d7 hn; exact ⟨A302, c303, hv, (by simp only [u4, t4, u7, t7]; exact OwnL.chg gW h0 e (fun b hb hp => by obtain ⟨rfl, q1, q2⟩ := hp; rw [hj] at hn; cases hn))⟩), (KeptG.det _), trivial⟩) ⟨?_, ?_, ?_, ?_, ?_, ?_, ?_, ?_, ?_, trivial⟩ ?_
       ·intro L306 w307 G305 hgk308
        have hE309 := hgk308.st.ex.ex (fun b h => h.elim (fun h => h.elim) (fun h => h))
        have hE309z := Ex.size hE309
        refine OpR.op' rfl (yl_buildSlice (cs := []) un34 ty80 (by decide) rfl opvs_nil (by kernel_rfl) ?_)
        intro b310 w311 hs312 hz313 hB314 hE315
        have hO316 : OwnL w311 b310 (b310 + 1) 80 3 (RF e_Write) (some ⟨b310, 0, none⟩) 0 0 ([] : List DWrite) := oB hB314
        exact ⟨Chg.of_ex hE315, _, rfl, OwnL.empty _ _ _ _ _ _ _⟩
       ·intro L318 w319 G317 hgk320
        have hE321 := hgk320.st.ex.ex (fun b h => h.elim (fun h => h.elim) (fun h => h))
        have hE321z := Ex.size hE321
        exact OpR.op' rfl (Yl.sameG (yM rfl (hgk320.old 0 _ rfl rfl) kI))
       ·intro L324 w325 G323 hgk326
        have hE327 := hgk326.st.ex.ex (fun b h => h.elim (fun h => h.elim) (fun h => h))
        have hE327z := Ex.size hE327
        exact OpR.op' rfl (Yl.sameG (yM rfl (hgk326.old 5 _ rfl rfl) kI))
       ·intro L330 w331 G329 hgk332
        have hE333 := hgk332.st.ex.ex (fun b h => h.elim (fun h => h.elim) (fun h => h))
        have hE333z := Ex.size hE333
        obtain ⟨_, hx334, rfl⟩ := hgk332.val 1 53 rfl rfl
        obtain ⟨_, hx335, rfl⟩ := hgk332.val 2 54 rfl rfl
        have q336 := RdS.ex gW q285 hE333
        obtain ⟨A337, c338, he341, h340⟩ := RdS.sl (RdS.drop (RdS.take q336 (k := (x14).toNat) Bq) (k := 0) Bq)
        have hrc342 := (q336).2.1
        exact OpR.op' rfl (Yl.sameG (yl_sliceR (kl := .i64) (l := 0) (h := (x14).toNat) un34 ty80 rfl hx334 (.inl ⟨rfl, rfl⟩) (.inr ⟨_, rfl, (toNat_op hx335 Bq)⟩) Bq Bq he341 ⟨fun _ _ => ⟨A337, c338, rfl, h340⟩, rfl⟩))
       ·intro L344 w345 G343 hgk346
        have hE347 := hgk346.st.ex.ex (fun b h => h.elim (fun h => h.elim) (fun h => h))
        have hE347z := Ex.size hE347
        obtain ⟨_, hx348, A282_349, rfl, h350⟩ := hgk346.val 0 52 rfl rfl
        obtain ⟨_, hx351, A286_352, c287_353, rfl, h354⟩ := hgk346.val 3 55 rfl rfl
        have hr355 := hgk346.st.rng 0 (hgk346.has 0 rfl)
        have hr356 := hgk346.st.rng 3 (hgk346.has 3 rfl)
        have hsp357 := hgk346.st.sep 0 3 (hgk346.has 0 rfl) (hgk346.has 3 rfl) rfl
        obtain ⟨nw358, he359, hs360⟩ := RdS.src h354
        have hol361 : (p_l.take ((x14).toNat)).length ≤ 2147483648 := (okL.take o2 _).1
        refine OpR.op' rfl (yl_appendL (S := (fun _ => False)) (lo := w345.heap.size) (hi := w345.heap.size) (xs := ([] : List DWrite)) (ys := (p_l.take ((x14).toNat))) gW un34 ty80 rfl (nb rfl) rfl hx348 hx351 (OwnL.empty w345 w345.heap.size w345.heap.size 80 3 (RF e_Write) A282_349) he359 hs360 rfl Bl Bl oM oM (fun _ h _ => False.elim h) oM ?_)
        intro A362 c363 w364 row365 hO366 hG367 hrg368
        have hG367z := hG367.size
        exact ⟨Chg.of_grown hG367 (fun k hk => by have hq := hrg368 k hk; exact absurd hq oM), A362, c363, rfl, fun _ => OwnL.more (lo' := w345.heap.size) (hi' := w364.heap.size) hO366 oM oM⟩
       ·intro L370 w371 G369 hgk372
        have hE373 := hgk372.st.ex.ex (fun b h => h.elim (fun h => h.elim) (fun h => h))
        have hE373z := Ex.size hE373
        exact OpR.op' rfl (Yl.sameG (yl_loadN ty80 rfl (hgk372.old 3 _ rfl rfl) ((Box.ex (Box.grown (Box.ex (Box.ex q126 hE211) hE260) hG280 (hW hrg281)) hE373).cells (n := 3) rfl) rfl kI))
       ·intro L377 w378 G376 hgk379
        have hE380 := hgk379.st.ex.ex (fun b h => h.elim (fun h => h.elim) (fun h => h))
        have hE380z := Ex.size hE380
        obtain ⟨_, hx381, rfl⟩ := hgk379.val 5 57 rfl rfl
        refine OpR.op' rfl (yl_buildSlice (cs := [.string (bs (p_w.Key)), .string (bs (p_w.Val)), .bool (p_w.Gone)]) un34 ty80 (by decide) rfl (oc hx381 oz) (by kernel_rfl) ?_)
        intro b382 w383 hs384 hz385 hB386 hE387
        have hO388 : OwnL w383 b382 (b382 + 1) 80 3 (RF e_Write) (some ⟨b382, 0, none⟩) 1 1 ([p_w] : List DWrite) := OwnL.of_box (S := fun _ => False) hB386 (Nat.le_refl _) (Nat.lt_succ_self _) (EncL.cons (c := [.string (bs (p_w.Key)), .string (bs (p_w.Val)), .bool (p_w.Gone)]) rfl rfl EncL.nil) (nb rfl) (fun h => h) (fun _ h => False.elim h)
        exact ⟨Chg.of_ex hE387, (some ⟨b382, 0, none⟩), rfl, OwnL.more (lo' := w378.heap.size) (hi' := w383.heap.size) hO388 oM oM⟩
       ·intro L390 w391 G389 hgk392
        have hE393 := hgk392.st.ex.ex (fun b h => h.elim (fun h => h.elim) (fun h => h))
        have hE393z := Ex.size hE393
        obtain ⟨_, hx394, A293_395, c294_396, rfl, h397⟩ := hgk392.val 4 56 rfl rfl
        have h397 := h397 hgk392.new
        obtain ⟨_, hx398, A299_399, rfl, h400⟩ := hgk392.val 6 58 rfl rfl
        have hr401 := hgk392.st.rng 4 (hgk392.has 4 rfl)
        have hr402 := hgk392.st.rng 6 (hgk392.has 6 rfl)
        have hsp403 := hgk392.st.sep 4 6 (hgk392.has 4 rfl) (hgk392.has 6 rfl) rfl
        have q404 := OwnL.rd gW h400
        obtain ⟨nw405, he406, hs407⟩ := RdS.src q404
        have hol408 : (p_l.take ((x14).toNat)).length ≤ 2147483648 := (okL.take o2 _).1
        refine OpR.op' rfl (yl_appendL (S := (fun _ => False)) (lo := (G389.fl 4)) (hi := (G389.fh 4)) (xs := (([] : List DWrite) ++ (p_l.take ((x14).toNat)))) (ys := ([p_w] : List DWrite)) gW un34 ty80 rfl (nb rfl) rfl hx394 hx398 h397 he406 hs407 (RdS.len q404) Bl Bl oM oM (fun _ h _ => False.elim h) oM ?_)
        intro A409 c410 w411 row412 hO413 hG414 hrg415
        have hG414z := hG414.size
        exact ⟨Chg.of_grown hG414 (fun k hk => by have hq := hrg415 k hk; exact (⟨rfl, oM, by omega⟩)), A409, c410, rfl, OwnL.more (lo' := (G389.fl 4)) (hi' := w411.heap.size) hO413 oM oM⟩
       ·intro L417 w418 G416 hgk419
        have hE420 := hgk419.st.ex.ex (fun b h => h.elim (fun h => h.elim) (fun h => h))
        have hE420z := Ex.size hE420
        exact OpR.op' rfl (Yl.sameG (yM rfl (hgk419.old 7 _ rfl rfl) kI))
       ·intro G422 L423 w424 hgp425
        have hE426 := hgp425.st.ex.ex (fun b h => h.elim (fun h => h.elim) (fun h => h))
        have hE426z := Ex.size hE426
        obtain ⟨_, hx427, A282_428, rfl, h429⟩ := hgp425.val 0 52 rfl rfl
        obtain ⟨_, hx430, A286_431, c287_432, rfl, h433⟩ := hgp425.val 3 55 rfl rfl
        obtain ⟨_, hx434, A299_435, rfl, h436⟩ := hgp425.val 6 58 rfl rfl
        obtain ⟨_, hx437, A302_438, c303_439, rfl, h440⟩ := hgp425.val 7 59 rfl rfl
        obtain ⟨_, hx441, rfl⟩ := hgp425.val 8 60 rfl rfl
        have hr442 := hgp425.st.rng 0 (hgp425.has 0 rfl)
        have hr443 := hgp425.st.rng 3 (hgp425.has 3 rfl)
        have hr444 := hgp425.st.rng 4 (hgp425.has 4 rfl)
        have hr445 := hgp425.st.rng 6 (hgp425.has 6 rfl)
        have hr446 := hgp425.st.rng 7 (hgp425.has 7 rfl)
        have hsp447 := hgp425.st.sep 0 3 (hgp425.has 0 rfl) (hgp425.has 3 rfl) rfl
        have hsp448 := hgp425.st.ord 4 0 (hgp425.has 4 rfl) rfl
        have hsp449 := hgp425.st.sep 0 6 (hgp425.has 0 rfl) (hgp425.has 6 rfl) rfl
        have hsp450 := hgp425.st.ord 7 0 (hgp425.has 7 rfl) rfl
        have hsp451 := hgp425.st.ord 4 3 (hgp425.has 4 rfl) rfl
        have hsp452 := hgp425.st.sep 3 6 (hgp425.has 3 rfl) (hgp425.has 6 rfl) rfl
        have hsp453 := hgp425.st.ord 7 3 (hgp425.has 7 rfl) rfl
        have hsp454 := hgp425.st.sep 4 6 (hgp425.has 4 rfl) (hgp425.has 6 rfl) rfl
        have hsp455 := hgp425.st.ord 7 4 (hgp425.has 7 rfl) rfl
        have hsp456 := hgp425.st.ord 7 6 (hgp425.has 7 rfl) rfl
        obtain ⟨nw459, he460, hs461⟩ := RdS.src (OwnL.rd gW (OwnL.ex gW hO279 hE426))
        have hol462 : (p_l.take ((x14).toNat)).length ≤ 2147483648 := (okL.take o2 _).1
        have hol463 : (p_l.drop ((x14).toNat)).length ≤ 2147483648 := (okL.drop o2 _).1
        refine sd rfl (yl_appendL (S := (fun _ => False)) (lo := (G422.fl 4)) (hi := (G422.fh 7)) (xs := ((([] : List DWrite) ++ (p_l.take ((x14).toNat))) ++ ([p_w] : List DWrite))) (ys := (([] : List DWrite) ++ (p_l.drop ((x14).toNat)))) gW un34 ty80 rfl (nb rfl) rfl hx437 hx441 h440 he460 hs461 rfl Bl Bl oM oM (fun _ h _ => False.elim h) oM ?_)
        intro A464 c465 w466 row467 hO468 hG469 hrg470
        have hG469z := hG469.size
        refine sA rfl (dn (CW.sub (sC 4 rfl (Sub.nil _)) (CW.ret (rr rfl (.cons rfl .nil) ?_))))
        have hol472 : (p_l.take ((x14).toNat)).length ≤ 2147483648 := (okL.take o2 _).1
        have hol473 : (p_l.drop ((x14).toNat)).length ≤ 2147483648 := (okL.drop o2 _).1
        rw [show (s_l5PutW p_l p_w) = ((((([] : List DWrite) ++ (p_l.take ((x14).toNat))) ++ ([p_w] : List DWrite)) ++ (([] : List DWrite) ++ (p_l.drop ((x14).toNat))))) by simp only [s_l5PutW, hb31, hb122, hb216, hL123, cL]]
        exact ⟨A464, c465, (G422.fl 4), w466.heap.size, rfl, hO468, (okL.mk (xs := (((([] : List DWrite) ++ (p_l.take ((x14).toNat))) ++ ([p_w] : List DWrite)) ++ (([] : List DWrite) ++ (p_l.drop ((x14).toNat))))) Bl (okE.append (okE.append (okE.append okE.nil ((okL.take o2 _)).2) ((okL.mk (nb rfl) (okE.cons o3 okE.nil))).2) (okE.append okE.nil ((okL.drop o2 _)).2))), (by (try dsimp only); first | omega | (simp only [List.length_append, List.length_take, List.length_drop, List.length_set, List.length_cons, List.length_nil]; omega)), oM, (Below.grown (Ex.trans (Below.grown (Ex.trans (Ex.trans (Ex.trans hf29 hE117) hE211) hE260) hG280 oM (hW hrg281)) hE426) hG469 oM (hW hrg470))⟩
    ·refine CW.cond_t rfl (not_f hb122) (CW.skip (tn (CW.block (CW.region (sM rfl (sd rfl (yl_sub rfl rfl rfl (sA rfl (SeqR.done ?_)))))))))
     refine bn (tn ?_)
     have hB480 : B_s_l5PutW_0 p_l p_w (x14) = .cont (IntKind.wrap .i64 (x14 - 1)) := by simp only [B_s_l5PutW_0, hb31, hb122, cL]
     have hmu484 : ((IntKind.wrap .i64 (x14 - 1)).toNat) < ((x14).toNat) := by first | omega | assumption | (simp only [wI] at *; omega)
     exact ⟨m20 - 1, oM, IntKind.wrap .i64 (x14 - 1), oM, oM, (sR rfl), (RdS.ex gW hf27 hE117), (Box.ex hf28 hE117), (Ex.trans hf29 hE117), Bo, (loopW.cont hk23 hB480).symm.trans hI24⟩
  ·refine drJ 13 [.int .i64 (x14), .bool (decide (0 < x14)), .bool (decide (0 < x14)), undef, undef, undef, undef, undef, undef, undef, undef, undef, .bool (false)] Tryz.follows rfl ⟨oI rfl fun h => yM rfl (h.g 5 rfl) kI, oI rfl fun h => yl_gtr rfl (h.g 10 rfl) rfl kI, oI rfl fun h => yM rfl (h.g 11 rfl) kI, oS rfl rfl rfl rfl rfl hb31, oS rfl rfl rfl rfl rfl hb31, oS rfl rfl rfl rfl rfl hb31, oS rfl rfl rfl rfl rfl hb31, oS rfl rfl rfl rfl rfl hb31, oS rfl rfl rfl rfl rfl hb31, oS rfl rfl rfl rfl rfl hb31, oS rfl rfl rfl rfl rfl hb31, oS rfl rfl rfl rfl rfl hb31, oI rfl fun h => yl_pick_f rfl (h.g 12 rfl) hb31 rfl kI, trivial⟩ ?_
   ·intro fl554 fh555 L551 w552 hp553
    have hE556 := hp553.ex
    have hE556z := Ex.size hE556
    refine dn (CW.sub (hp553.ss [0, 3, 5, 22] rfl) (CW.cond_f rfl rfl (CW.exit (tx (tx ?_)))))
    have hB562 : B_s_l5PutW_0 p_l p_w (x14) = .brk (x14) := by simp only [B_s_l5PutW_0, hb31, cL]
    have hL561 : loopW (B_s_l5PutW_0 p_l p_w) ((((p_l.length : Int)).toNat) + 1) ((p_l.length : Int)) = .done (x14) := hI24.symm.trans (loopW.brk hk23 hB562)
    refine bx (tn (CW.seq (CW.seq (drJ 13 [.int .i64 (x14), .bool (decide (0 < x14)), .bool (decide (0 < x14)), undef, undef, undef, undef, undef, undef, undef, undef, undef, .bool (false)] Tryz.follows rfl ⟨?_, ?_, ?_, ?_, ?_, ?_, ?_, ?_, ?_, ?_, ?_, ?_, ?_, trivial⟩ ?_))))
    ·exact oI rfl fun h => yM rfl (h.g 5 rfl) kI
    ·exact oI rfl fun h => yl_gtr rfl (h.g 25 rfl) rfl kI
    ·exact oI rfl fun h => yM rfl (h.g 26 rfl) kI
    ·exact oS rfl rfl rfl rfl rfl hb31
    ·exact oS rfl rfl rfl rfl rfl hb31
    ·exact oS rfl rfl rfl rfl rfl hb31
    ·exact oS rfl rfl rfl rfl rfl hb31
    ·exact oS rfl rfl rfl rfl rfl hb31
    ·exact oS rfl rfl rfl rfl rfl hb31
    ·exact oS rfl rfl rfl rfl rfl hb31
    ·exact oS rfl rfl rfl rfl rfl hb31
    ·exact oS rfl rfl rfl rfl rfl hb31
    ·exact oI rfl fun h => yl_pick_f rfl (h.g 27 rfl) hb31 rfl kI
    ·intro fl632 fh633 L629 w630 hp631
     have hE634 := hp631.ex
     have hE634z := Ex.size hE634
     refine dn (CW.sub (hp631.ss [0, 3, 5, 37] rfl) (CW.cond_f rfl rfl (CW.skip (tn (cR (sd rfl (yl_buildSlice (cs := []) un34 ty80 (by decide) rfl opvs_nil (by kernel_rfl) ?_)))))))
     intro b639 w640 hs641 hz642 hB643 hE644
     have hO645 : OwnL w640 b639 (b639 + 1) 80 3 (RF e_Write) (some ⟨b639, 0, none⟩) 0 0 ([] : List DWrite) := oB hB643
     refine sM rfl (sM rfl ?_)
     have q648 := RdS.ex gW (RdS.ex gW (RdS.ex gW hf27 hE556) hE634) hE644
     obtain ⟨A649, c650, he653, h652⟩ := RdS.sl (RdS.drop q648 (k := (x14).toNat) Bq)
     have hrc654 := (q648).2.1
     refine sd rfl (yl_sliceR (kh := .i64) (l := (x14).toNat) (h := p_l.length) un34 ty80 rfl rfl (.inr ⟨_, rfl, (toNat_op rfl Bq)⟩) (.inl ⟨rfl, rfl⟩) Bq Bq he653 ?_)
     obtain ⟨nw655, he656, hs657⟩ := RdS.src h652
     have hol658 : (p_l.drop ((x14).toNat)).length ≤ 2147483648 := (okL.drop o2 _).1
     refine sd rfl (yl_appendL (S := (fun _ => False)) (lo := b639) (hi := (b639 + 1)) (xs := ([] : List DWrite)) (ys := (p_l.drop ((x14).toNat))) gW un34 ty80 rfl (nb rfl) rfl rfl rfl hO645 he656 hs657 rfl Bl Bl oM oM (fun _ h _ => False.elim h) oM ?_)
     intro A659 c660 w661 row662 hO663 hG664 hrg665
     have hG664z := hG664.size
     refine sA rfl (dn (CW.seq ?_))
     have q669 := RdS.grown gW q648 hG664 (hV hrg665)
     obtain ⟨A670, c671, he674, h673⟩ := RdS.sl (RdS.drop (RdS.take q669 (k := (x14).toNat) Bq) (k := 0) Bq)
     have hrc675 := (q669).2.1
     refine CW.drawsG 9 (fun _ _ => False) (fun i G b => (i = 7 ∧ (G.fl 4) ≤ b ∧ b < (G.fh 4))) (vgetG [fun G v wq => ∃ A666, v = .slice A666 0 0 ∧ OwnL wq w661.heap.size w661.heap.size 80 3 (RF e_Write) A666 0 0 ([] : List DWrite), DetG (.slice A1 p_l.length c1), DetG (.int .i64 (x14)), fun G v wq => ∃ A670 c671, v = .slice A670 ((p_l.take ((x14).toNat)).length) c671 ∧ RdS wq (Iv 0 w.heap.size) (RF e_Write) 3 A670 (p_l.take ((x14).toNat)).length c671 (p_l.take ((x14).toNat)), fun G v wq => ∃ A677 c678, v = .slice A677 ((([] : List DWrite) ++ (p_l.take ((x14).toNat))).length) c678 ∧ (G.dn 7 = false → OwnL wq (G.fl 4) (G.fh 4) 80 3 (RF e_Write) A677 ((([] : List DWrite) ++ (p_l.take ((x14).toNat))).length) c678 (([] : List DWrite) ++ (p_l.take ((x14).toNat)))), DetG (.agg #[.string (bs (p_w.Key)), .string (bs (p_w.Val)), .bool (p_w.Gone)]), fun G v wq => ∃ A684, v = .slice A684 1 1 ∧ OwnL wq (G.fl 6) (G.fh 6) 80 3 (RF e_Write) A684 1 1 ([p_w] : List DWrite), fun G v wq => ∃ A687 c688, v = .slice A687 (((([] : List DWrite) ++ (p_l.take ((x14).toNat))) ++ ([p_w] : List DWrite)).length) c688 ∧ OwnL wq (G.fl 4) (G.fh 7) 80 3 (RF e_Write) A687 (((([] : List DWrite) ++ (p_l.take ((x14).toNat))) ++ ([p_w] : List DWrite)).length) c688 ((([] : List DWrite) ++ (p_l.take ((x14).toNat))) ++ ([p_w] : List DWrite)), DetG (.slice A659 ((([] : List DWrite) ++ (p_l.drop ((x14).toNat))).length) c660)]) Tryz.follows rfl rfl rfl rfl rfl rfl (fun _ _ _ _ _ h => h) (fun i G w lo hi b K hn hh hp => by exact (match hp with | ⟨e, q1, q2⟩ => by subst e; exact .inr (by have := K.rng 4 (hh 4 rfl); omega))) (vgetG_kept ⟨(by rintro i G v w w' K hn hh hj ⟨A666, hv, h0⟩ e; exact ⟨A666, hv, (by exact OwnL.chg gW h0 e (fun b hb hp => by obtain ⟨rfl, q1, q2⟩ := hp; have := K.rng 4 (hh 4 rfl); skip; omega))⟩), (KeptG.det _), (KeptG.det _), (by rintro i G v w w' K hn hh hj ⟨A670, c671, hv, h0⟩ e; exact ⟨A670, c671, hv, (by exact RdS.chg gW h0 e (fun b hb hp hS => by have hS1 := hS.1; have hS2 := hS.2; obtain ⟨rfl, q1, q2⟩ := hp; have := K.rng 4 (hh 4 rfl); skip; omega))⟩), (by rintro i G v w w' K hn hh hj ⟨A677, c678, hv, h0⟩ e; have d4 : G.dn 4 = true := hj; have u4 := Gh.ufl (lo := w.heap.size) (hi := w'.heap.size) d4 hn; have t4 := Gh.ufh (lo := w.heap.size) (hi := w'.heap.size) d4 hn; exact ⟨A677, c678, hv, (by intro hd; simp only [u4, t4]; exact OwnL.chg gW (h0 (Gh.off hd).2) e (fun b hb hp => by obtain ⟨rfl, q1, q2⟩ := hp; exact absurd rfl (Gh.off hd).1))⟩), (KeptG.det _), (by rintro i G v w w' K hn hh hj ⟨A684, hv, h0⟩ e; have d6 : G.dn 6 = true := hj; have u6 := Gh.ufl (lo := w.heap.size) (hi := w'.heap.size) d6 hn; have t6 := Gh.ufh (lo := w.heap.size) (hi := w'.heap.size) d6 hn; exact ⟨A684, hv, (by simp only [u6, t6]; exact OwnL.chg gW h0 e (fun b hb hp => by obtain ⟨rfl, q1, q2⟩ := hp; have := K.rng 4 (hh 4 rfl); have := K.rng 6 d6; have := K.sep 4 6 (hh 4 rfl) d6 rfl; skip; omega))⟩), (by rintro i G v w w' K hn hh hj ⟨A687, c688, hv, h0⟩ e; have d4 : G.dn 4 = true := K.cl 7 4 hj rfl; have u4 := Gh.ufl (lo := w.heap.size) (hi := w'.heap.size) d4 hn; have t4 := Gh.ufh (lo := w.heap.size) (hi := w'.heap.size) d4 hn; have d7 : G.dn 7 = true := hj; have u7 := Gh.ufl (lo := w.heap.size) (hi := w'.heap.size) d7 hn; have t7 := Gh.ufh (lo := w.heap.size) (hi := w'.heap.size) d7 hn; exact ⟨A687, c688, hv, (by simp only [u4, t4, u7, t7]; exact OwnL.chg gW h0 e (fun b hb hp => by obtain ⟨rfl, q1, q2⟩ := hp; rw [hj] at hn; cases hn))⟩), (KeptG.det _), trivial⟩) ⟨?_, ?_, ?_, ?_, ?_, ?_, ?_, ?_, ?_, trivial⟩ ?_
     ·intro L691 w692 G690 hgk693
      have hE694 := hgk693.st.ex.ex (fun b h => h.elim (fun h => h.elim) (fun h => h))
      have hE694z := Ex.size hE694
      refine OpR.op' rfl (yl_buildSlice (cs := []) un34 ty80 (by decide) rfl opvs_nil (by kernel_rfl) ?_)
      intro b695 w696 hs697 hz698 hB699 hE700
      have hO701 : OwnL w696 b695 (b695 + 1) 80 3 (RF e_Write) (some ⟨b695, 0, none⟩) 0 0 ([] : List DWrite) := oB hB699
      exact ⟨Chg.of_ex hE700, _, rfl, OwnL.empty _ _ _ _ _ _ _⟩
     ·intro L703 w704 G702 hgk705
      have hE706 := hgk705.st.ex.ex (fun b h => h.elim (fun h => h.elim) (fun h => h))
      have hE706z := Ex.size hE706
      exact OpR.op' rfl (Yl.sameG (yM rfl (hgk705.old 0 _ rfl rfl) kI))
     ·intro L709 w710 G708 hgk711
      have hE712 := hgk711.st.ex.ex (fun b h => h.elim (fun h => h.elim) (fun h => h))
      have hE712z := Ex.size hE712
      exact OpR.op' rfl (Yl.sameG (yM rfl (hgk711.old 5 _ rfl rfl) kI))
     ·intro L715 w716 G714 hgk717
      have hE718 := hgk717.st.ex.ex (fun b h => h.elim (fun h => h.elim) (fun h => h))
      have hE718z := Ex.size hE718
      obtain ⟨_, hx719, rfl⟩ := hgk717.val 1 53 rfl rfl
      obtain ⟨_, hx720, rfl⟩ := hgk717.val 2 54 rfl rfl
      have q721 := RdS.ex gW q669 hE718
      obtain ⟨A722, c723, he726, h725⟩ := RdS.sl (RdS.drop (RdS.take q721 (k := (x14).toNat) Bq) (k := 0) Bq)
      have hrc727 := (q721).2.1
      exact OpR.op' rfl (Yl.sameG (yl_sliceR (kl := .i64) (l := 0) (h := (x14).toNat) un34 ty80 rfl hx719 (.inl ⟨rfl, rfl⟩) (.inr ⟨_, rfl, (toNat_op hx720 Bq)⟩) Bq Bq he726 ⟨fun _ _ => ⟨A722, c723, rfl, h725⟩, rfl⟩))
     ·intro L729 w730 G728 hgk731
      have hE732 := hgk731.st.ex.ex (fun b h => h.elim (fun h => h.elim) (fun h => h))
      have hE732z := Ex.size hE732
      obtain ⟨_, hx733, A666_734, rfl, h735⟩ := hgk731.val 0 52 rfl rfl
      obtain ⟨_, hx736, A670_737, c671_738, rfl, h739⟩ := hgk731.val 3 55 rfl rfl
      have hr740 := hgk731.st.rng 0 (hgk731.has 0 rfl)
      have hr741 := hgk731.st.rng 3 (hgk731.has 3 rfl)
      have hsp742 := hgk731.st.sep 0 3 (hgk731.has 0 rfl) (hgk731.has 3 rfl) rfl
      obtain ⟨nw743, he744, hs745⟩ := RdS.src h739
      have hol746 : (p_l.take ((x14).toNat)).length ≤ 2147483648 := (okL.take o2 _).1
      refine OpR.op' rfl (yl_appendL (S := (fun _ => False)) (lo := w730.heap.size) (hi := w730.heap.size) (xs := ([] : List DWrite)) (ys := (p_l.take ((x14).toNat))) gW un34 ty80 rfl (nb rfl) rfl hx733 hx736 (OwnL.empty w730 w730.heap.size w730.heap.size 80 3 (RF e_Write) A666_734) he744 hs745 rfl Bl Bl oM oM (fun _ h _ => False.elim h) oM ?_)
      intro A747 c748 w749 row750 hO751 hG752 hrg753
      have hG752z := hG752.size
      exact ⟨Chg.of_grown hG752 (fun k hk => by have hq := hrg753 k hk; exact absurd hq oM), A747, c748, rfl, fun _ => OwnL.more (lo' := w730.heap.size) (hi' := w749.heap.size) hO751 oM oM⟩
     ·intro L755 w756 G754 hgk757
      have hE758 := hgk757.st.ex.ex (fun b h => h.elim (fun h => h.elim) (fun h => h))
      have hE758z := Ex.size hE758
      exact OpR.op' rfl (Yl.sameG (yl_loadN ty80 rfl (hgk757.old 3 _ rfl rfl) ((Box.ex (Box.grown (Box.ex (Box.ex (Box.ex hf28 hE556) hE634) hE644) hG664 (hW hrg665)) hE758).cells (n := 3) rfl) rfl kI))
     ·intro L762 w763 G761 hgk764
      have hE765 := hgk764.st.ex.ex (fun b h => h.elim (fun h => h.elim) (fun h => h))
      have hE765z := Ex.size hE765
      obtain ⟨_, hx766, rfl⟩ := hgk764.val 5 57 rfl rfl
      refine OpR.op' rfl (yl_buildSlice (cs := [.string (bs (p_w.Key)), .string (bs (p_w.Val)), .bool (p_w.Gone)]) un34 ty80 (by decide) rfl (oc hx766 oz) (by kernel_rfl) ?_)
      intro b767 w768 hs769 hz770 hB771 hE772
      have hO773 : OwnL w768 b767 (b767 + 1) 80 3 (RF e_Write) (some ⟨b767, 0, none⟩) 1 1 ([p_w] : List DWrite) := OwnL.of_box (S := fun _ => False) hB771 (Nat.le_refl _) (Nat.lt_succ_self _) (EncL.cons (c := [.string (bs (p_w.Key)), .string (bs (p_w.Val)), .bool (p_w.Gone)]) rfl rfl EncL.nil) (nb rfl) (fun h => h) (fun _ h => False.elim h)
      exact ⟨Chg.of_ex hE772, (some ⟨b767, 0, none⟩), rfl, OwnL.more (lo' := w763.heap.size) (hi' := w768.heap.size) hO773 oM oM⟩
     ·intro L775 w776 G774 hgk777
      have hE778 := hgk777.st.ex.ex (fun b h => h.elim (fun h => h.elim) (fun h => h))
      have hE778z := Ex.size hE778
      obtain ⟨_, hx779, A677_780, c678_781, rfl, h782⟩ := hgk777.val 4 56 rfl rfl
      have h782 := h782 hgk777.new
      obtain ⟨_, hx783, A684_784, rfl, h785⟩ := hgk777.val 6 58 rfl rfl
      have hr786 := hgk777.st.rng 4 (hgk777.has 4 rfl)
      have hr787 := hgk777.st.rng 6 (hgk777.has 6 rfl)
      have hsp788 := hgk777.st.sep 4 6 (hgk777.has 4 rfl) (hgk777.has 6 rfl) rfl
      have q789 := OwnL.rd gW h785
      obtain ⟨nw790, he791, hs792⟩ := RdS.src q789
      have hol793 : (p_l.take ((x14).toNat)).length ≤ 2147483648 := (okL.take o2 _).1
      refine OpR.op' rfl (yl_appendL (S := (fun _ => False)) (lo := (G774.fl 4)) (hi := (G774.fh 4)) (xs := (([] : List DWrite) ++ (p_l.take ((x14).toNat)))) (ys := ([p_w] : List DWrite)) gW un34 ty80 rfl (nb rfl) rfl hx779 hx783 h782 he791 hs792 (RdS.len q789) Bl Bl oM oM (fun _ h _ => False.elim h) oM ?_)
      intro A794 c795 w796 row797 hO798 hG799 hrg800
      have hG799z := hG799.size
      exact ⟨Chg.of_grown hG799 (fun k hk => by have hq := hrg800 k hk; exact (⟨rfl, oM, by omega⟩)), A794, c795, rfl, OwnL.more (lo' := (G774.fl 4)) (hi' := w796.heap.size) hO798 oM oM⟩
     ·intro L802 w803 G801 hgk804
      have hE805 := hgk804.st.ex.ex (fun b h => h.elim (fun h => h.elim) (fun h => h))
      have hE805z := Ex.size hE805
      exact OpR.op' rfl (Yl.sameG (yM rfl (hgk804.old 7 _ rfl rfl) kI))
     ·intro G807 L808 w809 hgp810
      have hE811 := hgp810.st.ex.ex (fun b h => h.elim (fun h => h.elim) (fun h => h))
      have hE811z := Ex.size hE811
      obtain ⟨_, hx812, A666_813, rfl, h814⟩ := hgp810.val 0 52 rfl rfl
      obtain ⟨_, hx815, A670_816, c671_817, rfl, h818⟩ := hgp810.val 3 55 rfl rfl
      obtain ⟨_, hx819, A684_820, rfl, h821⟩ := hgp810.val 6 58 rfl rfl
      obtain ⟨_, hx822, A687_823, c688_824, rfl, h825⟩ := hgp810.val 7 59 rfl rfl
      obtain ⟨_, hx826, rfl⟩ := hgp810.val 8 60 rfl rfl
      have hr827 := hgp810.st.rng 0 (hgp810.has 0 rfl)
      have hr828 := hgp810.st.rng 3 (hgp810.has 3 rfl)
      have hr829 := hgp810.st.rng 4 (hgp810.has 4 rfl)
      have hr830 := hgp810.st.rng 6 (hgp810.has 6 rfl)
      have hr831 := hgp810.st.rng 7 (hgp810.has 7 rfl)
      have hsp832 := hgp810.st.sep 0 3 (hgp810.has 0 rfl) (hgp810.has 3 rfl) rfl
      have hsp833 := hgp810.st.ord 4 0 (hgp810.has 4 rfl) rfl
      have hsp834 := hgp810.st.sep 0 6 (hgp810.has 0 rfl) (hgp810.has 6 rfl) rfl
      have hsp835 := hgp810.st.ord 7 0 (hgp810.has 7 rfl) rfl
      have hsp836 := hgp810.st.ord 4 3 (hgp810.has 4 rfl) rfl
      have hsp837 := hgp810.st.sep 3 6 (hgp810.has 3 rfl) (hgp810.has 6 rfl) rfl
      have hsp838 := hgp810.st.ord 7 3 (hgp810.has 7 rfl) rfl
      have hsp839 := hgp810.st.sep 4 6 (hgp810.has 4 rfl) (hgp810.has 6 rfl) rfl
      have hsp840 := hgp810.st.ord 7 4 (hgp810.has 7 rfl) rfl
      have hsp841 := hgp810.st.ord 7 6 (hgp810.has 7 rfl) rfl
      obtain ⟨nw844, he845, hs846⟩ := RdS.src (OwnL.rd gW (OwnL.ex gW hO663 hE811))
      have hol847 : (p_l.take ((x14).toNat)).length ≤ 2147483648 := (okL.take o2 _).1
      have hol848 : (p_l.drop ((x14).toNat)).length ≤ 2147483648 := (okL.drop o2 _).1
      refine sd rfl (yl_appendL (S := (fun _ => False)) (lo := (G807.fl 4)) (hi := (G807.fh 7)) (xs := ((([] : List DWrite) ++ (p_l.take ((x14).toNat))) ++ ([p_w] : List DWrite))) (ys := (([] : List DWrite) ++ (p_l.drop ((x14).toNat)))) gW un34 ty80 rfl (nb rfl) rfl hx822 hx826 h825 he845 hs846 rfl Bl Bl oM oM (fun _ h _ => False.elim h) oM ?_)
      intro A849 c850 w851 row852 hO853 hG854 hrg855
      have hG854z := hG854.size
      refine sA rfl (dn (CW.sub (sC 4 rfl (Sub.nil _)) (CW.ret (rr rfl (.cons rfl .nil) ?_))))
      have hol857 : (p_l.take ((x14).toNat)).length ≤ 2147483648 := (okL.take o2 _).1
      have hol858 : (p_l.drop ((x14).toNat)).length ≤ 2147483648 := (okL.drop o2 _).1
      rw [show (s_l5PutW p_l p_w) = ((((([] : List DWrite) ++ (p_l.take ((x14).toNat))) ++ ([p_w] : List DWrite)) ++ (([] : List DWrite) ++ (p_l.drop ((x14).toNat))))) by simp only [s_l5PutW, hb31, hL561, cL]]
      exact ⟨A849, c850, (G807.fl 4), w851.heap.size, rfl, hO853, (okL.mk (xs := (((([] : List DWrite) ++ (p_l.take ((x14).toNat))) ++ ([p_w] : List DWrite)) ++ (([] : List DWrite) ++ (p_l.drop ((x14).toNat))))) Bl (okE.append (okE.append (okE.append okE.nil ((okL.take o2 _)).2) ((okL.mk (nb rfl) (okE.cons o3 okE.nil))).2) (okE.append okE.nil ((okL.drop o2 _)).2))), (by (try dsimp only); first | omega | (simp only [List.length_append, List.length_take, List.length_drop, List.length_set, List.length_cons, List.length_nil]; omega)), oM, (Below.grown (Ex.trans (Below.grown (Ex.trans (Ex.trans (Ex.trans hf29 hE556) hE634) hE644) hG664 oM (hW hrg665)) hE811) hG854 oM (hW hrg855))⟩
theorem c_s_l5Stands {A1 : Option Addr} {c1 : Nat} {A3 : Option Addr} {c3 : Nat} {w : World} (p_buf : List DWrite) (p_got : List DGot) (p_key : Str) (h1 : RdS w (Iv 0 w.heap.size) (RF e_Write) 3 A1 p_buf.length c1 p_buf) (h3 : RdS w (Iv 0 w.heap.size) (RF e_Got) 3 A3 p_got.length c3 p_got) (o2 : (okL ok_Write) p_buf) (o4 : (okL ok_Got) p_got) (o5 : okS p_key) : Cal Tryz.prog 199 #[.slice A1 p_buf.length c1, .slice A3 p_got.length c3, .string (bs (p_key))] w fun v w' => v = .tuple #[.string (bs ((s_l5Stands p_buf p_got p_key).1)), .bool ((s_l5Stands p_buf p_got p_key).2.1), .bool ((s_l5Stands p_buf p_got p_key).2.2)] ∧ okS ((s_l5Stands p_buf p_got p_key).1) ∧ Ex w w' := by
 have hol6 := o2.1
 have hol7 := o4.1
 have hol8 : p_key.length ≤ 1073741824 := o5
 refine Cal.of func199 rfl ntmps199 rfl (cR (sA rfl (sA rfl (sA rfl (dn (CW.seq ?_))))))
 refine cR (sM rfl (sd rfl (yL un34 rfl rfl (sM rfl (dn (CW.block (CW.loop (fun m21 L22 w23 => ∃ (k9 : Nat), m21 = p_buf.length - k9 ∧ k9 ≤ p_buf.length ∧ w.heap.size ≤ w23.heap.size ∧ Sub [(1, .slice A3 p_got.length c3), (2, .string (bs (p_key))), (13, .slice A1 p_buf.length c1), (14, .int .i64 ((p_buf.length : Int))), (15, .int .i64 ((k9 : Int)))] L22 ∧ RdS w23 (Iv 0 w.heap.size) (RF e_Got) 3 A3 p_got.length c3 p_got ∧ RdS w23 (Iv 0 w.heap.size) (RF e_Write) 3 A1 p_buf.length c1 p_buf ∧ Ex w w23 ∧ loopM (B_s_l5Stands_0 p_buf p_got p_key) (p_buf.length - k9) k9 () = loopM (B_s_l5Stands_0 p_buf p_got p_key) (p_buf.length - 0) 0 ()) (p_buf.length - 0) ?_ ?_)))))))
 ·exact ⟨0, rfl, oM, Nat.le_refl _, (sR rfl), h3, h1, (Ex.refl w), rfl⟩
 ·rintro m24 L25 w26 ⟨k9, rfl, hk27, hsz29, hl30, hf31, hf32, hf33, hI28⟩
  refine CW.sub hl30 ?_
  have hf33z := Ex.size hf33
  have hbg34 := RdS.big hf32
  rcases Nat.lt_or_ge k9 p_buf.length with hlt35 | hlt35
  ·refine cR (sd rfl (yl_lss rfl rfl rfl (dn (CW.seq (CW.cond_t rfl (lt_t hlt35) (CW.skip (tn ?_)))))))
   refine CW.seq (CW.block (cR ?_))
   obtain ⟨_, _, _, eA36, _, ebl36, _, eR36, eC36⟩ := RdS.aD hf32 d_Write (i := k9)
   obtain rfl := eR36
   refine sd rfl (yl_ixN un34 ty80 rfl rfl rfl eA36 (sd rfl (yl_loadN ty80 rfl rfl eC36 rfl (sd rfl (yB ty80 (cs := [.string (bs (([] : Str))), .string (bs (([] : Str))), .bool (false)]) rfl rfl ?_)))))
   intro b37 w38 hs39 hz40 hB41 hE42
   refine SeqR.u rfl rfl (yl_storeA (vs := [.string (bs ((p_buf.getD k9 d_Write).Key)), .string (bs ((p_buf.getD k9 d_Write).Val)), .bool ((p_buf.getD k9 d_Write).Gone)]) ty80 rfl rfl rfl rfl rfl rfl hB41 rfl ?_)
   intro w43 hB44 hO45
   have hO45z := hO45.size
   refine dn (cR (sd rfl (yl_fieldAddr fd80_0 rfl rfl (sd rfl (yl_load1 ty9 rfl rfl ((hB44.cell 0).trans rfl) (sM rfl (sd rfl (yl_seql (a := ((p_buf.getD k9 d_Write).Key)) (b := p_key) rfl rfl rfl (SeqR.done ?_)))))))))
   refine tn (bcase (((p_buf.getD k9 d_Write).Key) == p_key) (fun hb46 => ?_) (fun hb46 => ?_))
   ·refine CW.cond_t rfl hb46 (CW.seq (drJ 8 [.pointer (some ⟨b37, 0 + 1, none⟩), .string (bs ((p_buf.getD k9 d_Write).Val)), .pointer (some ⟨b37, 0 + 2, none⟩), .bool ((p_buf.getD k9 d_Write).Gone), .bool (!((p_buf.getD k9 d_Write).Gone)), .string (bs ((p_buf.getD k9 d_Write).Val)), .bool (!((p_buf.getD k9 d_Write).Gone)), .bool (true)] Tryz.follows rfl ⟨?_, ?_, ?_, ?_, ?_, ?_, ?_, ?_, trivial⟩ ?_))
    ·exact oI rfl fun h => yl_fieldAddr fd80_1 rfl (h.g 10 rfl) kI
    ·exact oI rfl fun h => yl_load1 ty9 rfl (h.g 23 rfl) (((Box.ex hB44 h.ex).cell 1).trans rfl) kI
    ·exact oI rfl fun h => yl_fieldAddr fd80_2 rfl (h.g 10 rfl) kI
    ·exact oI rfl fun h => yl_load1 ty4 rfl (h.g 25 rfl) (((Box.ex hB44 h.ex).cell 2).trans rfl) kI
    ·exact oI rfl fun h => yl_not rfl (h.g 26 rfl) kI
    ·exact oI rfl fun h => yA rfl (h.g 24 rfl) kI
    ·exact oI rfl fun h => yA rfl (h.g 27 rfl) kI
    ·exact oI rfl fun _ => yA rfl rfl kI
    ·intro fl91 fh92 L88 w89 hp90
     have hE93 := hp90.ex
     have hE93z := Ex.size hE93
     refine dn (CW.sub (hp90.ss [6, 7, 8] rfl) (CW.ret (br (tr (tr ?_)))))
     have hB98 : B_s_l5Stands_0 p_buf p_got p_key k9 () = .ret ((p_buf.getD k9 d_Write).Val, !((p_buf.getD k9 d_Write).Gone), true) := by simp only [B_s_l5Stands_0, hb46, cL]
     have hL97 : loopM (B_s_l5Stands_0 p_buf p_got p_key) (p_buf.length - 0) 0 () = .ret ((p_buf.getD k9 d_Write).Val, !((p_buf.getD k9 d_Write).Gone), true) := hI28.symm.trans (loopM.ret hlt35 hB98)
     refine br (tr (rr rfl (.cons rfl (.cons rfl (.cons rfl .nil))) ?_))
     rw [show (s_l5Stands p_buf p_got p_key) = (((p_buf.getD k9 d_Write).Val, !((p_buf.getD k9 d_Write).Gone), true)) by simp only [s_l5Stands, hb46, hL97, cL]]
     exact ⟨rfl, (okL.getD o2 ok_d_Write _).2, (Ex.trans (Below.only (Ex.trans hf33 hE42) hO45 oM) hE93)⟩
   ·refine CW.cond_f rfl hb46 (CW.skip (bn (tn (CW.region (sd rfl (yl_inc rfl rfl rfl oM (sM rfl (dn ?_))))))))
    have hB103 : B_s_l5Stands_0 p_buf p_got p_key k9 () = .cont () := by simp only [B_s_l5Stands_0, hb46, cL]
    exact ⟨p_buf.length - (k9 + 1), oM, k9 + 1, rfl, hlt35, oM, (sR rfl), (RdS.only good_Got (RdS.ex good_Got hf31 hE42) hO45 iV), (RdS.only gW (RdS.ex gW hf32 hE42) hO45 iV), (Below.only (Ex.trans hf33 hE42) hO45 oM), (loopM.cont hlt35 hB103).symm.trans hI28⟩
  ·refine cR (sd rfl (yl_lss rfl rfl rfl (dn (CW.seq (CW.cond_f rfl (lt_f hlt35) (CW.exit (tx ?_)))))))
   refine tx ?_
   have hL110 : loopM (B_s_l5Stands_0 p_buf p_got p_key) (p_buf.length - 0) 0 () = .done () := hI28.symm.trans (loopM.stop hlt35)
   refine bx (tn (CW.seq (cR (sM rfl (sd rfl (yL un117 rfl rfl (sM rfl (SeqR.done ?_))))))))
   refine tn (CW.block (CW.loop (fun m123 L124 w125 => ∃ (k111 : Nat), m123 = p_got.length - k111 ∧ k111 ≤ p_got.length ∧ w26.heap.size ≤ w125.heap.size ∧ Sub [(2, .string (bs (p_key))), (29, .slice A3 p_got.length c3), (30, .int .i64 ((p_got.length : Int))), (31, .int .i64 ((k111 : Int)))] L124 ∧ RdS w125 (Iv 0 w.heap.size) (RF e_Got) 3 A3 p_got.length c3 p_got ∧ Ex w w125 ∧ loopM (B_s_l5Stands_1 p_buf p_got p_key) (p_got.length - k111) k111 () = loopM (B_s_l5Stands_1 p_buf p_got p_key) (p_got.length - 0) 0 ()) (p_got.length - 0) ?_ ?_))
   ·exact ⟨0, rfl, oM, Nat.le_refl _, (sR rfl), hf31, hf33, rfl⟩
   ·rintro m126 L127 w128 ⟨k111, rfl, hk129, hsz131, hl132, hf133, hf134, hI130⟩
    refine CW.sub hl132 ?_
    have hf134z := Ex.size hf134
    have hbg135 := RdS.big hf133
    rcases Nat.lt_or_ge k111 p_got.length with hlt136 | hlt136
    ·refine cR (sd rfl (yl_lss rfl rfl rfl (dn (CW.seq (CW.cond_t rfl (lt_t hlt136) (CW.skip (tn ?_)))))))
     refine CW.seq (CW.block (cR ?_))
     obtain ⟨_, _, _, eA137, _, ebl137, _, eR137, eC137⟩ := RdS.aD hf133 d_Got (i := k111)
     obtain rfl := eR137
     refine sd rfl (yl_ixN un117 ty170 rfl rfl rfl eA137 (sd rfl (yl_loadN ty170 rfl rfl eC137 rfl (sd rfl (yB ty170 (cs := [.string (bs (([] : Str))), .string (bs (([] : Str))), .bool (false)]) rfl rfl ?_)))))
     intro b138 w139 hs140 hz141 hB142 hE143
     refine SeqR.u rfl rfl (yl_storeA (vs := [.string (bs ((p_got.getD k111 d_Got).Key)), .string (bs ((p_got.getD k111 d_Got).Val)), .bool ((p_got.getD k111 d_Got).There)]) ty170 rfl rfl rfl rfl rfl rfl hB142 rfl ?_)
     intro w144 hB145 hO146
     have hO146z := hO146.size
     refine dn (cR (sd rfl (yl_fieldAddr fd170_0 rfl rfl (sd rfl (yl_load1 ty9 rfl rfl ((hB145.cell 0).trans rfl) (sM rfl (sd rfl (yl_seql (a := ((p_got.getD k111 d_Got).Key)) (b := p_key) rfl rfl rfl (SeqR.done ?_)))))))))
     refine tn (bcase (((p_got.getD k111 d_Got).Key) == p_key) (fun hb147 => ?_) (fun hb147 => ?_))
     ·refine CW.cond_t rfl hb147 (CW.seq (drJ 7 [.pointer (some ⟨b138, 0 + 1, none⟩), .string (bs ((p_got.getD k111 d_Got).Val)), .pointer (some ⟨b138, 0 + 2, none⟩), .bool ((p_got.getD k111 d_Got).There), .string (bs ((p_got.getD k111 d_Got).Val)), .bool ((p_got.getD k111 d_Got).There), .bool (true)] Tryz.follows rfl ⟨?_, ?_, ?_, ?_, ?_, ?_, ?_, trivial⟩ ?_))
      ·exact oI rfl fun h => yl_fieldAddr fd170_1 rfl (h.g 12 rfl) kI
      ·exact oI rfl fun h => yl_load1 ty9 rfl (h.g 39 rfl) (((Box.ex hB145 h.ex).cell 1).trans rfl) kI
      ·exact oI rfl fun h => yl_fieldAddr fd170_2 rfl (h.g 12 rfl) kI
      ·exact oI rfl fun h => yl_load1 ty4 rfl (h.g 41 rfl) (((Box.ex hB145 h.ex).cell 2).trans rfl) kI
      ·exact oI rfl fun h => yA rfl (h.g 40 rfl) kI
      ·exact oI rfl fun h => yA rfl (h.g 42 rfl) kI
      ·exact oI rfl fun _ => yA rfl rfl kI
      ·intro fl187 fh188 L184 w185 hp186
       have hE189 := hp186.ex
       have hE189z := Ex.size hE189
       refine dn (CW.sub (hp186.ss [6, 7, 8] rfl) (CW.ret (br (tr (tr ?_)))))
       have hB194 : B_s_l5Stands_1 p_buf p_got p_key k111 () = .ret ((p_got.getD k111 d_Got).Val, (p_got.getD k111 d_Got).There, true) := by simp only [B_s_l5Stands_1, hb147, hL110, cL]
       have hL193 : loopM (B_s_l5Stands_1 p_buf p_got p_key) (p_got.length - 0) 0 () = .ret ((p_got.getD k111 d_Got).Val, (p_got.getD k111 d_Got).There, true) := hI130.symm.trans (loopM.ret hlt136 hB194)
       refine br (tr (rr rfl (.cons rfl (.cons rfl (.cons rfl .nil))) ?_))
       rw [show (s_l5Stands p_buf p_got p_key) = (((p_got.getD k111 d_Got).Val, (p_got.getD k111 d_Got).There, true)) by simp only [s_l5Stands, hb147, hL110, hL193, cL]]
       exact ⟨rfl, (okL.getD o4 ok_d_Got _).2, (Ex.trans (Below.only (Ex.trans hf134 hE143) hO146 oM) hE189)⟩
     ·refine CW.cond_f rfl hb147 (CW.skip (bn (tn (CW.region (sd rfl (yl_inc rfl rfl rfl oM (sM rfl (dn ?_))))))))
      have hB199 : B_s_l5Stands_1 p_buf p_got p_key k111 () = .cont () := by simp only [B_s_l5Stands_1, hb147, hL110, cL]
      exact ⟨p_got.length - (k111 + 1), oM, k111 + 1, rfl, hlt136, oM, (sR rfl), (RdS.only good_Got (RdS.ex good_Got hf133 hE143) hO146 iV), (Below.only (Ex.trans hf134 hE143) hO146 oM), (loopM.cont hlt136 hB199).symm.trans hI130⟩
    ·refine cR (sd rfl (yl_lss rfl rfl rfl (dn (CW.seq (CW.cond_f rfl (lt_f hlt136) (CW.exit (tx ?_)))))))
     refine tx ?_
     have hL204 : loopM (B_s_l5Stands_1 p_buf p_got p_key) (p_got.length - 0) 0 () = .done () := hI130.symm.trans (loopM.stop hlt136)
     refine bx (tn (cR (sA rfl (sA rfl (sA rfl (dn ?_))))))
     refine CW.ret (rr rfl (.cons rfl (.cons rfl (.cons rfl .nil))) ?_)
     rw [show (s_l5Stands p_buf p_got p_key) = ((([] : Str), false, false)) by simp only [s_l5Stands, hL110, hL204, cL]]
     exact ⟨rfl, (okS.lit rfl), hf134⟩
theorem c_s_l1Read {w : World} (p_s : Str) (o1 : okS p_s) : Cal Tryz.prog 231 #[.string (bs (p_s))] w fun v w' => v = .int .i64 ((s_l1Read p_s)) ∧ Ex w w' := by
 have hol2 : p_s.length ≤ 1073741824 := o1
 refine Cal.of func231 rfl ntmps231 rfl (cR (sA rfl (dn (CW.seq (cR ?_)))))
 refine sM rfl (sd rfl (yl_slen un9 (a := p_s) rfl rfl (sd rfl (yC en91 rfl (oc rfl (oc rfl (oc rfl oz))) (Cal.mono (c_s_l1In (p_s.length : Int) 1 6) ?_)))))
 rintro v4 w3 ⟨rfl, hE5⟩
 have hE5z := Ex.size hE5
 refine sd rfl (yl_not rfl rfl (sM rfl (bcase (s_l1In (p_s.length : Int) 1 6) (fun hb6 => ?_) (fun hb6 => ?_))))
 ·have hb6p := f_l1In hb6
  refine sy rfl rfl (not_t hb6) (yM rfl rfl (sy rfl rfl (not_t hb6) (yl_sindexN un9 (a := p_s) rfl rfl rfl Bo (sy rfl rfl (not_t hb6) (yl_eql rfl rfl rfl (sy rfl rfl (not_t hb6) (yM rfl rfl (bcD (q := ((p_s.getD 0 0).toNat : Int) = 48) (fun hb7 hb7p => ?_) (fun hb7 hb7p => ?_)))))))))
  ·refine sy rfl rfl hb7 (yM rfl rfl (sy rfl rfl hb7 (yl_slen un9 (a := p_s) rfl rfl (sy rfl rfl hb7 (yl_gtr rfl rfl rfl (sy rfl rfl (not_t hb6) (yl_pick_t rfl rfl hb7 rfl (sd rfl (yl_pick_f rfl rfl (not_t hb6) rfl (dn (bcD (q := 1 < (p_s.length : Int)) (fun hb8 hb8p => ?_) (fun hb8 hb8p => ?_))))))))))))
   ·refine CW.cond_t rfl hb8 (cR (sA rfl (dn (CW.ret (tr (rr rfl (.cons rfl .nil) ?_))))))
    rw [show (s_l1Read p_s) = (-1) by simp only [s_l1Read, hb6, hb7, hb8, cL]]
    exact ⟨rfl, (Ex.trans (Ex.refl w) hE5)⟩
   ·refine CW.cond_f rfl hb8 (CW.skip (tn (cR (sA rfl (dn (CW.seq ?_))))))
    refine cR (sA rfl (dn (CW.block (CW.loop (fun m13 L14 w15 => ∃ (k11 : Nat) (x12 : Int), m13 = p_s.length - k11 ∧ k11 ≤ p_s.length ∧ w3.heap.size ≤ w15.heap.size ∧ Sub [(0, .string (bs (p_s))), (3, .int .i64 (x12)), (4, .int .i64 ((k11 : Int)))] L14 ∧ Ex w w15 ∧ loopM (B_s_l1Read_0 p_s) (p_s.length - k11) k11 (x12) = loopM (B_s_l1Read_0 p_s) (p_s.length - 0) 0 (0)) (p_s.length - 0) ?_ ?_))))
    ·exact ⟨0, 0, rfl, oM, Nat.le_refl _, (sR rfl), (Ex.trans (Ex.refl w) hE5), rfl⟩
    ·rintro m17 L18 w19 ⟨k11, x12, rfl, hk20, hsz22, hl23, hf24, hI21⟩
     refine CW.sub hl23 ?_
     have hf24z := Ex.size hf24
     have hbg25 : p_s.length ≤ 1073741824 := o1
     rcases Nat.lt_or_ge k11 p_s.length with hlt26 | hlt26
     ·refine CW.seq (cR (sM rfl (sM rfl (sd rfl (yl_slen un9 (a := p_s) rfl rfl (sd rfl (yl_lss rfl rfl rfl (dn ?_))))))))
      refine CW.cond_t rfl (lt_t hlt26) (CW.skip (tn (CW.seq (CW.block (CW.seq (cR (sM rfl ?_)))))))
      refine sM rfl (sd rfl (yl_sindexN un9 (a := p_s) rfl rfl rfl Bo (sd rfl (yl_lss rfl rfl rfl (sM rfl (bcD (q := ((p_s.getD k11 0).toNat : Int) < 48) (fun hb27 hb27p => ?_) (fun hb27 hb27p => ?_)))))))
      ·refine sz rfl rfl hb27 (sz rfl rfl hb27 (sz rfl rfl hb27 (sz rfl rfl hb27 (sd rfl (yl_pick_t rfl rfl hb27 rfl (dn (CW.cond_t rfl rfl (CW.seq ?_))))))))
       refine CW.region (sA rfl (dn (CW.ret (tr (br (tr (tr ?_)))))))
       have hB29 : B_s_l1Read_0 p_s k11 (x12) = .ret (-1) := by simp only [B_s_l1Read_0, hb6, hb7, hb8, hb27, cL]
       have hL28 : loopM (B_s_l1Read_0 p_s) (p_s.length - 0) 0 (0) = .ret (-1) := hI21.symm.trans (loopM.ret hlt26 hB29)
       refine br (tr (rr rfl (.cons rfl .nil) ?_))
       rw [show (s_l1Read p_s) = (-1) by simp only [s_l1Read, hb6, hb7, hb8, hb27, hL28, cL]]
       exact ⟨rfl, hf24⟩
      ·refine sy rfl rfl hb27 (yM rfl rfl (sy rfl rfl hb27 (yM rfl rfl (sy rfl rfl hb27 (yl_sindexN un9 (a := p_s) rfl rfl rfl Bo (sy rfl rfl hb27 (yl_gtr rfl rfl rfl (sd rfl (yl_pick_f rfl rfl hb27 rfl (dn (bcD (q := 57 < ((p_s.getD k11 0).toNat : Int)) (fun hb31 hb31p => ?_) (fun hb31 hb31p => ?_))))))))))))
       ·refine CW.cond_t rfl hb31 (cR (sA rfl (dn (CW.ret (tr (br ?_))))))
        refine tr (tr ?_)
        have hB33 : B_s_l1Read_0 p_s k11 (x12) = .ret (-1) := by simp only [B_s_l1Read_0, hb6, hb7, hb8, hb27, hb31, cL]
        have hL32 : loopM (B_s_l1Read_0 p_s) (p_s.length - 0) 0 (0) = .ret (-1) := hI21.symm.trans (loopM.ret hlt26 hB33)
        refine br (tr (rr rfl (.cons rfl .nil) ?_))
        rw [show (s_l1Read p_s) = (-1) by simp only [s_l1Read, hb6, hb7, hb8, hb27, hb31, hL32, cL]]
        exact ⟨rfl, hf24⟩
       ·refine CW.cond_f rfl hb31 (CW.skip (tn (CW.region (sM rfl (sd rfl (yl_mul rfl rfl rfl (sM rfl (sM rfl (sd rfl (yl_sindexN un9 (a := p_s) rfl rfl rfl Bo ?_))))))))))
        refine sd rfl (yl_sub rfl rfl rfl (sd rfl (yl_conv un5 un3 rfl rfl (sd rfl (yl_add rfl rfl rfl (sA rfl (SeqR.done (bn (tn (CW.region (sM rfl ?_)))))))))))
        refine sd rfl (yl_inc rfl rfl rfl oM (sA rfl (dn ?_)))
        have hB35 : B_s_l1Read_0 p_s k11 (x12) = .cont (IntKind.wrap .i64 ((IntKind.wrap .i64 (10 * x12)) + (IntKind.wrap .i64 (IntKind.wrap .u8 (((p_s.getD k11 0).toNat : Int) - 48))))) := by simp only [B_s_l1Read_0, hb6, hb7, hb8, hb27, hb31, cL]
        exact ⟨p_s.length - (k11 + 1), oM, k11 + 1, IntKind.wrap .i64 ((IntKind.wrap .i64 (10 * x12)) + (IntKind.wrap .i64 (IntKind.wrap .u8 (((p_s.getD k11 0).toNat : Int) - 48)))), rfl, hlt26, oM, (sR rfl), hf24, (loopM.cont hlt26 hB35).symm.trans hI21⟩
     ·refine CW.seq (cR (sM rfl (sM rfl (sd rfl (yl_slen un9 (a := p_s) rfl rfl (sd rfl (yl_lss rfl rfl rfl (dn ?_))))))))
      refine CW.cond_f rfl (lt_f hlt26) (CW.exit (tx (tx ?_)))
      have hL36 : loopM (B_s_l1Read_0 p_s) (p_s.length - 0) 0 (0) = .done (x12) := hI21.symm.trans (loopM.stop hlt26)
      refine bx (tn (cR (sM rfl (sA rfl (dn (CW.ret ?_))))))
      refine rr rfl (.cons rfl .nil) ?_
      rw [show (s_l1Read p_s) = (x12) by simp only [s_l1Read, hb6, hb7, hb8, hL36, cL]]
      exact ⟨rfl, hf24⟩
  ·refine sz rfl rfl hb7 (sz rfl rfl hb7 (sz rfl rfl hb7 (sy rfl rfl (not_t hb6) (yl_pick_f rfl rfl hb7 rfl (sd rfl (yl_pick_f rfl rfl (not_t hb6) rfl (dn (CW.cond_f rfl rfl (CW.skip ?_)))))))))
   refine tn (cR (sA rfl (dn (CW.seq (cR ?_)))))
   refine sA rfl (dn (CW.block (CW.loop (fun m40 L41 w42 => ∃ (k38 : Nat) (x39 : Int), m40 = p_s.length - k38 ∧ k38 ≤ p_s.length ∧ w3.heap.size ≤ w42.heap.size ∧ Sub [(0, .string (bs (p_s))), (3, .int .i64 (x39)), (4, .int .i64 ((k38 : Int)))] L41 ∧ Ex w w42 ∧ loopM (B_s_l1Read_0 p_s) (p_s.length - k38) k38 (x39) = loopM (B_s_l1Read_0 p_s) (p_s.length - 0) 0 (0)) (p_s.length - 0) ?_ ?_)))
   ·exact ⟨0, 0, rfl, oM, Nat.le_refl _, (sR rfl), (Ex.trans (Ex.refl w) hE5), rfl⟩
   ·rintro m44 L45 w46 ⟨k38, x39, rfl, hk47, hsz49, hl50, hf51, hI48⟩
    refine CW.sub hl50 ?_
    have hf51z := Ex.size hf51
    have hbg52 : p_s.length ≤ 1073741824 := o1
    rcases Nat.lt_or_ge k38 p_s.length with hlt53 | hlt53
    ·refine CW.seq (cR (sM rfl (sM rfl (sd rfl (yl_slen un9 (a := p_s) rfl rfl (sd rfl (yl_lss rfl rfl rfl (dn ?_))))))))
     refine CW.cond_t rfl (lt_t hlt53) (CW.skip (tn (CW.seq (CW.block (CW.seq (cR (sM rfl ?_)))))))
     refine sM rfl (sd rfl (yl_sindexN un9 (a := p_s) rfl rfl rfl Bo (sd rfl (yl_lss rfl rfl rfl (sM rfl (bcD (q := ((p_s.getD k38 0).toNat : Int) < 48) (fun hb54 hb54p => ?_) (fun hb54 hb54p => ?_)))))))
     ·refine sz rfl rfl hb54 (sz rfl rfl hb54 (sz rfl rfl hb54 (sz rfl rfl hb54 (sd rfl (yl_pick_t rfl rfl hb54 rfl (dn (CW.cond_t rfl rfl (CW.seq ?_))))))))
      refine CW.region (sA rfl (dn (CW.ret (tr (br (tr (tr ?_)))))))
      have hB56 : B_s_l1Read_0 p_s k38 (x39) = .ret (-1) := by simp only [B_s_l1Read_0, hb6, hb7, hb54, cL]
      have hL55 : loopM (B_s_l1Read_0 p_s) (p_s.length - 0) 0 (0) = .ret (-1) := hI48.symm.trans (loopM.ret hlt53 hB56)
      refine br (tr (rr rfl (.cons rfl .nil) ?_))
      rw [show (s_l1Read p_s) = (-1) by simp only [s_l1Read, hb6, hb7, hb54, hL55, cL]]
      exact ⟨rfl, hf51⟩
     ·refine sy rfl rfl hb54 (yM rfl rfl (sy rfl rfl hb54 (yM rfl rfl (sy rfl rfl hb54 (yl_sindexN un9 (a := p_s) rfl rfl rfl Bo (sy rfl rfl hb54 (yl_gtr rfl rfl rfl (sd rfl (yl_pick_f rfl rfl hb54 rfl (dn (bcD (q := 57 < ((p_s.getD k38 0).toNat : Int)) (fun hb58 hb58p => ?_) (fun hb58 hb58p => ?_))))))))))))
      ·refine CW.cond_t rfl hb58 (cR (sA rfl (dn (CW.ret (tr (br ?_))))))
       refine tr (tr ?_)
       have hB60 : B_s_l1Read_0 p_s k38 (x39) = .ret (-1) := by simp only [B_s_l1Read_0, hb6, hb7, hb54, hb58, cL]
       have hL59 : loopM (B_s_l1Read_0 p_s) (p_s.length - 0) 0 (0) = .ret (-1) := hI48.symm.trans (loopM.ret hlt53 hB60)
       refine br (tr (rr rfl (.cons rfl .nil) ?_))
       rw [show (s_l1Read p_s) = (-1) by simp only [s_l1Read, hb6, hb7, hb54, hb58, hL59, cL]]
       exact ⟨rfl, hf51⟩
      ·refine CW.cond_f rfl hb58 (CW.skip (tn (CW.region (sM rfl (sd rfl (yl_mul rfl rfl rfl (sM rfl (sM rfl (sd rfl (yl_sindexN un9 (a := p_s) rfl rfl rfl Bo ?_))))))))))
       refine sd rfl (yl_sub rfl rfl rfl (sd rfl (yl_conv un5 un3 rfl rfl (sd rfl (yl_add rfl rfl rfl (sA rfl (SeqR.done (bn (tn (CW.region (sM rfl ?_)))))))))))
       refine sd rfl (yl_inc rfl rfl rfl oM (sA rfl (dn ?_)))
       have hB62 : B_s_l1Read_0 p_s k38 (x39) = .cont (IntKind.wrap .i64 ((IntKind.wrap .i64 (10 * x39)) + (IntKind.wrap .i64 (IntKind.wrap .u8 (((p_s.getD k38 0).toNat : Int) - 48))))) := by simp only [B_s_l1Read_0, hb6, hb7, hb54, hb58, cL]
       exact ⟨p_s.length - (k38 + 1), oM, k38 + 1, IntKind.wrap .i64 ((IntKind.wrap .i64 (10 * x39)) + (IntKind.wrap .i64 (IntKind.wrap .u8 (((p_s.getD k38 0).toNat : Int) - 48)))), rfl, hlt53, oM, (sR rfl), hf51, (loopM.cont hlt53 hB62).symm.trans hI48⟩
    ·refine CW.seq (cR (sM rfl (sM rfl (sd rfl (yl_slen un9 (a := p_s) rfl rfl (sd rfl (yl_lss rfl rfl rfl (dn ?_))))))))
     refine CW.cond_f rfl (lt_f hlt53) (CW.exit (tx (tx ?_)))
     have hL63 : loopM (B_s_l1Read_0 p_s) (p_s.length - 0) 0 (0) = .done (x39) := hI48.symm.trans (loopM.stop hlt53)
     refine bx (tn (cR (sM rfl (sA rfl (dn (CW.ret ?_))))))
     refine rr rfl (.cons rfl .nil) ?_
     rw [show (s_l1Read p_s) = (x39) by simp only [s_l1Read, hb6, hb7, hL63, cL]]
     exact ⟨rfl, hf51⟩
 ·refine sz rfl rfl (not_f hb6) (sz rfl rfl (not_f hb6) (sz rfl rfl (not_f hb6) (sz rfl rfl (not_f hb6) (sq rfl rfl (sq rfl rfl (sq rfl rfl (sz rfl rfl (not_f hb6) (sd rfl (yl_pick_t rfl rfl (not_f hb6) rfl ?_)))))))))
  refine dn (CW.cond_t rfl rfl (cR (sA rfl (dn (CW.ret ?_)))))
  refine tr (rr rfl (.cons rfl .nil) ?_)
  rw [show (s_l1Read p_s) = (-1) by simp only [s_l1Read, hb6, cL]]
  exact ⟨rfl, (Ex.trans (Ex.refl w) hE5)⟩
theorem c_s_l5Num {w : World} (p_s : Str) (o1 : okS p_s) : Cal Tryz.prog 201 #[.string (bs (p_s))] w fun v w' => v = .tuple #[.int .i64 ((s_l5Num p_s).1), .bool ((s_l5Num p_s).2)] ∧ Ex w w' := by
 have hol2 : p_s.length ≤ 1073741824 := o1
 refine Cal.of func201 rfl ntmps201 rfl (cR (sA rfl (sA rfl (dn (cR ?_)))))
 refine sM rfl (sd rfl (yl_slen un9 (a := p_s) rfl rfl (sd rfl (yl_gtr rfl rfl rfl (sM rfl (bcD (q := 0 < (p_s.length : Int)) (fun hb3 hb3p => ?_) (fun hb3 hb3p => ?_)))))))
 ·refine sy rfl rfl hb3 (yM rfl rfl (sy rfl rfl hb3 (yl_sindexN un9 (a := p_s) rfl rfl rfl Bo (sy rfl rfl hb3 (yl_eql rfl rfl rfl (sd rfl (yl_pick_t rfl rfl hb3 rfl (sA rfl (dn (cR ?_))))))))))
  refine sM rfl (sA rfl (dn (CW.seq (cR (sM rfl (SeqR.done ?_))))))
  refine tn (bcD (q := ((p_s.getD 0 0).toNat : Int) = 45) (fun hb4 hb4p => ?_) (fun hb4 hb4p => ?_))
  ·refine CW.cond_t rfl hb4 (CW.region (sM rfl (sd rfl (yl_sslice_lo un9 (a := p_s) (l := 1) rfl rfl rfl oM (sA rfl (dn (cR ?_)))))))
   refine sM rfl (sd rfl (yC en231 rfl (oc rfl oz) (Cal.mono (c_s_l1Read (p_s.drop 1) (okS.drop o1 _)) ?_)))
   rintro v6 w5 ⟨rfl, hE7⟩
   have hE7z := Ex.size hE7
   refine sA rfl (dn (CW.seq (cR (sM rfl (sd rfl (yl_lss rfl rfl rfl (sM rfl ?_)))))))
   refine bcD (q := (s_l1Read (p_s.drop 1)) < 0) (fun hb8 hb8p => ?_) (fun hb8 hb8p => ?_)
   ·refine sz rfl rfl hb8 (sz rfl rfl hb8 (sq rfl rfl (sq rfl rfl (sz rfl rfl hb8 (sd rfl (yl_pick_t rfl rfl hb8 rfl (dn (CW.cond_t rfl rfl ?_))))))))
    refine cR (sA rfl (sA rfl (dn (CW.ret (tr (rr rfl (.cons rfl (.cons rfl .nil)) ?_))))))
    rw [show (s_l5Num p_s) = ((0, false)) by simp only [s_l5Num, hb3, hb4, hb8, cL]]
    exact ⟨rfl, (Ex.trans (Ex.refl w) hE7)⟩
   ·refine sy rfl rfl hb8 (yM rfl rfl (sy rfl rfl hb8 (yM rfl rfl (sy rfl rfl hb4 (yM rfl rfl (sy rfl rfl hb4 (yl_eql rfl rfl rfl (sy rfl rfl hb8 (yl_pick_t rfl rfl hb4 rfl (sd rfl (yl_pick_f rfl rfl hb8 rfl (dn (bcD (q := (s_l1Read (p_s.drop 1)) = 0) (fun hb11 hb11p => ?_) (fun hb11 hb11p => ?_))))))))))))))
    ·refine CW.cond_t rfl hb11 (cR (sA rfl (sA rfl (dn (CW.ret (tr ?_))))))
     refine rr rfl (.cons rfl (.cons rfl .nil)) ?_
     rw [show (s_l5Num p_s) = ((0, false)) by simp only [s_l5Num, hb3, hb4, hb8, hb11, cL]]
     exact ⟨rfl, (Ex.trans (Ex.refl w) hE7)⟩
    ·refine CW.cond_f rfl hb11 (CW.skip (tn (CW.seq (cR (sM rfl (dn ?_))))))
     refine CW.cond_t rfl hb4 (cR (sM rfl (sd rfl (yl_neg rfl rfl (sA rfl (sA rfl (dn ?_)))))))
     refine CW.ret (tr (rr rfl (.cons rfl (.cons rfl .nil)) ?_))
     rw [show (s_l5Num p_s) = ((IntKind.wrap .i64 (0 - (s_l1Read (p_s.drop 1))), true)) by simp only [s_l5Num, hb3, hb4, hb8, hb11, cL]]
     exact ⟨rfl, (Ex.trans (Ex.refl w) hE7)⟩
  ·refine CW.cond_f rfl hb4 (CW.skip (tn (cR (sM rfl (sd rfl (yC en231 rfl (oc rfl oz) (Cal.mono (c_s_l1Read p_s o1) ?_)))))))
   rintro v17 w16 ⟨rfl, hE18⟩
   have hE18z := Ex.size hE18
   refine sA rfl (dn (CW.seq (cR (sM rfl (sd rfl (yl_lss rfl rfl rfl (sM rfl ?_)))))))
   refine bcD (q := (s_l1Read p_s) < 0) (fun hb19 hb19p => ?_) (fun hb19 hb19p => ?_)
   ·refine sz rfl rfl hb19 (sz rfl rfl hb19 (sq rfl rfl (sq rfl rfl (sz rfl rfl hb19 (sd rfl (yl_pick_t rfl rfl hb19 rfl (dn (CW.cond_t rfl rfl ?_))))))))
    refine cR (sA rfl (sA rfl (dn (CW.ret (tr (rr rfl (.cons rfl (.cons rfl .nil)) ?_))))))
    rw [show (s_l5Num p_s) = ((0, false)) by simp only [s_l5Num, hb3, hb4, hb19, cL]]
    exact ⟨rfl, (Ex.trans (Ex.refl w) hE18)⟩
   ·refine sy rfl rfl hb19 (yM rfl rfl (sy rfl rfl hb19 (yM rfl rfl (sz rfl rfl hb4 (sz rfl rfl hb4 (sy rfl rfl hb19 (yl_pick_f rfl rfl hb4 rfl (sd rfl (yl_pick_f rfl rfl hb19 rfl (dn (CW.cond_f rfl rfl ?_)))))))))))
    refine CW.skip (tn (CW.seq (cR (sM rfl (dn (CW.cond_f rfl hb4 ?_))))))
    refine CW.skip (tn (cR (sM rfl (sA rfl (sA rfl (dn ?_))))))
    refine CW.ret (rr rfl (.cons rfl (.cons rfl .nil)) ?_)
    rw [show (s_l5Num p_s) = (((s_l1Read p_s), true)) by simp only [s_l5Num, hb3, hb4, hb19, cL]]
    exact ⟨rfl, (Ex.trans (Ex.refl w) hE18)⟩
 ·refine sz rfl rfl hb3 (sz rfl rfl hb3 (sz rfl rfl hb3 (sd rfl (yl_pick_f rfl rfl hb3 rfl (sA rfl (dn (cR ?_)))))))
  refine sM rfl (sA rfl (dn (CW.seq (cR (sM rfl (SeqR.done ?_))))))
  refine tn (CW.cond_f rfl rfl (CW.skip (tn (cR (sM rfl (sd rfl (yC en231 rfl (oc rfl oz) (Cal.mono (c_s_l1Read p_s o1) ?_))))))))
  rintro v25 w24 ⟨rfl, hE26⟩
  have hE26z := Ex.size hE26
  refine sA rfl (dn (CW.seq (cR (sM rfl (sd rfl (yl_lss rfl rfl rfl (sM rfl ?_)))))))
  refine bcD (q := (s_l1Read p_s) < 0) (fun hb27 hb27p => ?_) (fun hb27 hb27p => ?_)
  ·refine sz rfl rfl hb27 (sz rfl rfl hb27 (sq rfl rfl (sq rfl rfl (sz rfl rfl hb27 (sd rfl (yl_pick_t rfl rfl hb27 rfl (dn (CW.cond_t rfl rfl ?_))))))))
   refine cR (sA rfl (sA rfl (dn (CW.ret (tr (rr rfl (.cons rfl (.cons rfl .nil)) ?_))))))
   rw [show (s_l5Num p_s) = ((0, false)) by simp only [s_l5Num, hb3, hb27, cL]]
   exact ⟨rfl, (Ex.trans (Ex.refl w) hE26)⟩
  ·refine sy rfl rfl hb27 (yM rfl rfl (sy rfl rfl hb27 (yM rfl rfl (sz rfl rfl rfl (sz rfl rfl rfl (sy rfl rfl hb27 (yl_pick_f rfl rfl rfl rfl (sd rfl (yl_pick_f rfl rfl hb27 rfl (dn (CW.cond_f rfl rfl ?_)))))))))))
   refine CW.skip (tn (CW.seq (cR (sM rfl (dn (CW.cond_f rfl rfl ?_))))))
   refine CW.skip (tn (cR (sM rfl (sA rfl (sA rfl (dn ?_))))))
   refine CW.ret (rr rfl (.cons rfl (.cons rfl .nil)) ?_)
   rw [show (s_l5Num p_s) = (((s_l1Read p_s), true)) by simp only [s_l5Num, hb3, hb27, cL]]
   exact ⟨rfl, (Ex.trans (Ex.refl w) hE26)⟩
theorem c_s_l5Gives {w : World} (p_o : DOp) (p_val : Str) (p_there : Bool) (o1 : ok_Op p_o) (o2 : okS p_val) : Cal Tryz.prog 200 #[.agg #[.int .i64 (p_o.Kind), .string (bs (p_o.Key)), .string (bs (p_o.Val)), .int .i64 (p_o.By)], .string (bs (p_val)), .bool (p_there)] w fun v w' => v = .bool ((s_l5Gives p_o p_val p_there)) ∧ Ex w w' := by
 refine Cal.of func200 rfl ntmps200 rfl (cR (sd rfl (yl_box rfl rfl rfl ?_)))
 intro b6 w7 hs8 hz9 hB10 hE11
 refine sA rfl (dn (cR (sM rfl (sd rfl (yC en201 rfl (oc rfl oz) (Cal.mono (c_s_l5Num p_val o2) ?_))))))
 rintro v13 w12 ⟨rfl, hE14⟩
 refine sM rfl (sd rfl (yl_extract rfl rfl rfl (sd rfl (yl_extract rfl rfl rfl (sA rfl (sA rfl (dn (CW.seq (CW.seq ?_)))))))))
 refine CW.region (sd rfl (yl_fieldAddr fd122_0 rfl rfl ?_))
 have q15 := Box.ex hB10 hE14
 refine sd rfl (yl_load1 ty3 rfl rfl ((q15.cell 0).trans rfl) (dn (CW.block (cR (sd rfl (yl_eql rfl rfl rfl (sA rfl (SeqR.done ?_))))))))
 refine tn (bcD (q := p_o.Kind = 4) (fun hb16 hb16p => ?_) (fun hb16 hb16p => ?_))
 ·refine CW.cond_t rfl hb16 (CW.seq (cR (sM rfl (sd rfl (yl_not rfl rfl (dn (bcase (p_there) (fun hb17 => ?_) (fun hb17 => ?_))))))))
  ·refine CW.cond_f rfl (not_t hb17) (CW.skip (tn (cR (sM rfl (sd rfl (yl_not rfl rfl (sM rfl (bcase ((s_l5Num p_val).2) (fun hb18 => ?_) (fun hb18 => ?_)))))))))
   ·refine sy rfl rfl (not_t hb18) (yM rfl rfl (sy rfl rfl (not_t hb18) (yl_fieldAddr fd122_3 rfl rfl (sy rfl rfl (not_t hb18) (yl_load1 ty3 rfl rfl ((q15.cell 3).trans rfl) (sy rfl rfl (not_t hb18) (yl_add rfl rfl rfl (sy rfl rfl (not_t hb18) (yC en91 rfl (oc rfl (oc rfl (oc rfl oz))) (Cal.mono (c_s_l1In (IntKind.wrap .i64 (((s_l5Num p_val).1) + p_o.By)) (-999999) 999999) ?_))))))))))
    rintro v20 w19 ⟨rfl, hE21⟩
    refine sy rfl rfl (not_t hb18) (yl_not rfl rfl (sd rfl (yl_pick_f rfl rfl (not_t hb18) rfl (sA rfl (dn (CW.ret (br (tr (rr rfl (.cons rfl .nil) ?_)))))))))
    rw [show (s_l5Gives p_o p_val p_there) = (!(s_l1In (IntKind.wrap .i64 (((s_l5Num p_val).1) + p_o.By)) (-999999) 999999)) by simp only [s_l5Gives, hb16, hb17, hb18, cL]]
    exact ⟨rfl, (Ex.trans (Ex.trans (Ex.trans (Ex.refl w) hE11) hE14) hE21)⟩
   ·refine sz rfl rfl (not_f hb18) (sz rfl rfl (not_f hb18) (sz rfl rfl (not_f hb18) (sz rfl rfl (not_f hb18) (sz rfl rfl (not_f hb18) (sz rfl rfl (not_f hb18) (sd rfl (yl_pick_t rfl rfl (not_f hb18) rfl (sA rfl (SeqR.done ?_)))))))))
    refine tn (CW.ret (br (tr (rr rfl (.cons rfl .nil) ?_))))
    rw [show (s_l5Gives p_o p_val p_there) = (true) by simp only [s_l5Gives, hb16, hb17, hb18, cL]]
    exact ⟨rfl, (Ex.trans (Ex.trans (Ex.refl w) hE11) hE14)⟩
  ·refine CW.cond_t rfl (not_f hb17) (cR (sA rfl (dn (CW.ret (tr (br ?_))))))
   refine tr (rr rfl (.cons rfl .nil) ?_)
   rw [show (s_l5Gives p_o p_val p_there) = (false) by simp only [s_l5Gives, hb16, hb17, cL]]
   exact ⟨rfl, (Ex.trans (Ex.trans (Ex.refl w) hE11) hE14)⟩
 ·refine CW.cond_f rfl hb16 (cR (sd rfl (yl_eql rfl rfl rfl (sA rfl (dn (bcD (q := p_o.Kind = 5) (fun hb32 hb32p => ?_) (fun hb32 hb32p => ?_)))))))
  ·refine CW.cond_t rfl hb32 (cR (sM rfl (sd rfl (yl_not rfl rfl (sM rfl (bcase (p_there) (fun hb33 => ?_) (fun hb33 => ?_)))))))
   ·refine sy rfl rfl (not_t hb33) (yM rfl rfl (sy rfl rfl (not_t hb33) (yl_not rfl rfl (sd rfl (yl_pick_f rfl rfl (not_t hb33) rfl (sM rfl (bcase ((s_l5Num p_val).2) (fun hb34 => ?_) (fun hb34 => ?_))))))))
    ·refine sy rfl rfl (not_t hb34) (yM rfl rfl (sy rfl rfl (not_t hb34) (yl_fieldAddr fd122_3 rfl rfl (sy rfl rfl (not_t hb34) (yl_load1 ty3 rfl rfl ((q15.cell 3).trans rfl) (sy rfl rfl (not_t hb34) (yl_lss rfl rfl rfl (sd rfl (yl_pick_f rfl rfl (not_t hb34) rfl (sA rfl (dn (CW.ret ?_))))))))))))
     refine br (tr (rr rfl (.cons rfl .nil) ?_))
     rw [show (s_l5Gives p_o p_val p_there) = (decide (((s_l5Num p_val).1) < p_o.By)) by simp only [s_l5Gives, hb16, hb32, hb33, hb34, cL]]
     exact ⟨rfl, (Ex.trans (Ex.trans (Ex.refl w) hE11) hE14)⟩
    ·refine sz rfl rfl (not_f hb34) (sz rfl rfl (not_f hb34) (sz rfl rfl (not_f hb34) (sz rfl rfl (not_f hb34) (sd rfl (yl_pick_t rfl rfl (not_f hb34) rfl (sA rfl (dn (CW.ret ?_))))))))
     refine br (tr (rr rfl (.cons rfl .nil) ?_))
     rw [show (s_l5Gives p_o p_val p_there) = (true) by simp only [s_l5Gives, hb16, hb32, hb33, hb34, cL]]
     exact ⟨rfl, (Ex.trans (Ex.trans (Ex.refl w) hE11) hE14)⟩
   ·refine sz rfl rfl (not_f hb33) (sz rfl rfl (not_f hb33) (sd rfl (yl_pick_t rfl rfl (not_f hb33) rfl (sM rfl (sz rfl rfl rfl (sz rfl rfl rfl (sz rfl rfl rfl (sz rfl rfl rfl (sd rfl (yl_pick_t rfl rfl rfl rfl ?_))))))))))
    refine sA rfl (dn (CW.ret (br (tr (rr rfl (.cons rfl .nil) ?_)))))
    rw [show (s_l5Gives p_o p_val p_there) = (true) by simp only [s_l5Gives, hb16, hb32, hb33, cL]]
    exact ⟨rfl, (Ex.trans (Ex.trans (Ex.refl w) hE11) hE14)⟩
  ·refine CW.cond_f rfl hb32 (cR (sd rfl (yl_eql rfl rfl rfl (sA rfl (dn (bcD (q := p_o.Kind = 6) (fun hb44 hb44p => ?_) (fun hb44 hb44p => ?_)))))))
   ·refine CW.cond_t rfl hb44 (cR (sM rfl (sA rfl (dn (CW.ret (br ?_))))))
    refine tr (rr rfl (.cons rfl .nil) ?_)
    rw [show (s_l5Gives p_o p_val p_there) = (p_there) by simp only [s_l5Gives, hb16, hb32, hb44, cL]]
    exact ⟨rfl, (Ex.trans (Ex.trans (Ex.refl w) hE11) hE14)⟩
   ·refine CW.cond_f rfl hb44 (cR (sd rfl (yl_eql rfl rfl rfl (sA rfl (dn (bcD (q := p_o.Kind = 7) (fun hb48 hb48p => ?_) (fun hb48 hb48p => ?_)))))))
    ·refine CW.cond_t rfl hb48 (cR (sM rfl (sd rfl (yl_not rfl rfl (sM rfl (bcase (p_there) (fun hb49 => ?_) (fun hb49 => ?_)))))))
     ·refine sy rfl rfl (not_t hb49) (yM rfl rfl (sy rfl rfl (not_t hb49) (yl_fieldAddr fd122_2 rfl rfl (sy rfl rfl (not_t hb49) (yl_load1 ty9 rfl rfl ((q15.cell 2).trans rfl) (sy rfl rfl (not_t hb49) (yl_sneq (a := p_val) (b := p_o.Val) rfl rfl rfl (sd rfl (yl_pick_f rfl rfl (not_t hb49) rfl (sA rfl (dn (CW.ret ?_))))))))))))
      refine br (tr (rr rfl (.cons rfl .nil) ?_))
      rw [show (s_l5Gives p_o p_val p_there) = (!(p_val == p_o.Val)) by simp only [s_l5Gives, hb16, hb32, hb44, hb48, hb49, cL]]
      exact ⟨rfl, (Ex.trans (Ex.trans (Ex.refl w) hE11) hE14)⟩
     ·refine sz rfl rfl (not_f hb49) (sz rfl rfl (not_f hb49) (sz rfl rfl (not_f hb49) (sz rfl rfl (not_f hb49) (sd rfl (yl_pick_t rfl rfl (not_f hb49) rfl (sA rfl (dn (CW.ret ?_))))))))
      refine br (tr (rr rfl (.cons rfl .nil) ?_))
      rw [show (s_l5Gives p_o p_val p_there) = (true) by simp only [s_l5Gives, hb16, hb32, hb44, hb48, hb49, cL]]
      exact ⟨rfl, (Ex.trans (Ex.trans (Ex.refl w) hE11) hE14)⟩
    ·refine CW.cond_f rfl hb48 (CW.skip (bn (tn (cR (sA rfl (dn ?_))))))
     refine CW.ret (rr rfl (.cons rfl .nil) ?_)
     rw [show (s_l5Gives p_o p_val p_there) = (false) by simp only [s_l5Gives, hb16, hb32, hb44, hb48, cL]]
     exact ⟨rfl, (Ex.trans (Ex.trans (Ex.refl w) hE11) hE14)⟩
theorem c_s_l1Num {w : World} (p_n : Int) (pre0 : (0 ≤ p_n ∧ p_n ≤ 9)) : Cal Tryz.prog 232 #[.int .i64 (p_n)] w fun v w' => v = .string (bs ((s_l1Num p_n))) ∧ okS (s_l1Num p_n) ∧ Ex w w' := by
 refine Cal.of func232 rfl ntmps232 rfl (cR (sA rfl (dn (CW.seq (cR ?_)))))
 refine sM rfl (sd rfl (yl_lss rfl rfl rfl (dn (CW.cond_t rfl (decide_eq_true oM) (cR (sM rfl (sd rfl (yl_add rfl rfl rfl ?_))))))))
 refine sd rfl (yl_conv un3 un5 rfl rfl (sd rfl (yl_buildSlice (cs := [.int .u8 (IntKind.wrap .u8 (IntKind.wrap .i64 (48 + p_n)))]) un127 ty5 (by decide) rfl (oc rfl oz) (by kernel_rfl) ?_)))
 intro b1 w2 hs3 hz4 hB5 hE6
 have hO7 : OwnL w2 b1 (b1 + 1) 5 1 (RF e_U8) (some ⟨b1, 0, none⟩) 1 1 ([IntKind.wrap .u8 (IntKind.wrap .i64 (48 + p_n))] : List Int) := OwnL.of_box (S := fun _ => False) hB5 (Nat.le_refl _) (Nat.lt_succ_self _) (EncL.cons (c := [.int .u8 (IntKind.wrap .u8 (IntKind.wrap .i64 (48 + p_n)))]) rfl rfl EncL.nil) (nb rfl) (fun h => h) (fun _ h => False.elim h)
 refine sd rfl (yl_toS un127 un5 un9 rfl rfl (OwnL.rd gU hO7) (sA rfl (dn (CW.ret (tr (rr rfl (.cons rfl .nil) ?_))))))
 rw [show (s_l1Num p_n) = (toS ([IntKind.wrap .u8 (IntKind.wrap .i64 (48 + p_n))] : List Int)) by simp only [s_l1Num, cL]]
 exact ⟨rfl, (okS_toS (nb rfl)), (Ex.trans (Ex.refl w) hE6)⟩
theorem c_s_l5Text {w : World} (p_n : Int) (pre0 : ((-9 : Int) ≤ p_n ∧ p_n ≤ 9)) : Cal Tryz.prog 202 #[.int .i64 (p_n)] w fun v w' => v = .string (bs ((s_l5Text p_n))) ∧ Ex w w' := by
 refine Cal.of func202 rfl ntmps202 rfl (cR (sA rfl (dn (CW.seq (cR ?_)))))
 refine sM rfl (sd rfl (yl_lss rfl rfl rfl (dn (bcD (q := p_n < 0) (fun hb1 hb1p => ?_) (fun hb1 hb1p => ?_)))))
 ·refine CW.cond_t rfl hb1 (cR (sM rfl (sd rfl (yl_neg rfl rfl (sd rfl (yC en232 rfl (oc rfl oz) (Cal.mono (c_s_l1Num (IntKind.wrap .i64 (0 - p_n)) Bo) ?_)))))))
  rintro v4 w2 ⟨rfl, ho3, hE5⟩
  have hE5z := Ex.size hE5
  have hrf6 := rf_l1Num (IntKind.wrap .i64 (0 - p_n))
  have hol7 : (s_l1Num (IntKind.wrap .i64 (0 - p_n))).length ≤ 1073741824 := ho3
  refine sd rfl (yl_sadd (a := ([45] : Str)) (b := (s_l1Num (IntKind.wrap .i64 (0 - p_n)))) rfl rfl rfl Bl (sA rfl (dn (CW.ret (tr (rr rfl (.cons rfl .nil) ?_))))))
  rw [show (s_l5Text p_n) = (([45] : Str) ++ (s_l1Num (IntKind.wrap .i64 (0 - p_n)))) by simp only [s_l5Text, hb1, cL]]
  exact ⟨rfl, (Ex.trans (Ex.refl w) hE5)⟩
 ·refine CW.cond_f rfl hb1 (CW.skip (tn (cR (sM rfl (sd rfl (yC en232 rfl (oc rfl oz) (Cal.mono (c_s_l1Num p_n Bo) ?_)))))))
  rintro v12 w10 ⟨rfl, ho11, hE13⟩
  have hE13z := Ex.size hE13
  have hrf14 := rf_l1Num p_n
  refine sA rfl (dn (CW.ret (rr rfl (.cons rfl .nil) ?_)))
  rw [show (s_l5Text p_n) = ((s_l1Num p_n)) by simp only [s_l5Text, hb1, cL]]
  exact ⟨rfl, (Ex.trans (Ex.refl w) hE13)⟩
end Go.Proofs.YtoimdjojffkefaaGreatDoor
