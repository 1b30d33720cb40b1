/- Ask Store: what each call returns, part 1. -/
import Derived.Test.YtgehpfmdnkmiaaaGreatDoorAskStoreL
import Derived.Test.YtgehpfmdnkmiaaaGreatDoorAskStoreF
import Derived.Test.YtgehpfmdnkmiaaaGreatDoorAskStoreQ
import Derived.Test.YtgehpfmdnkmiaaaGreatDoorAskStoreS
import Derived.Test.YtgehpfmdnkmiaaaGreatDoorAskStoreM
set_option maxRecDepth 100000
set_option maxHeartbeats 2000000
open Go.Proofs.Tryz Go.Proofs.YtgehpfmdnkmiaaaGreatDoor.Tryz
set_option linter.unusedVariables false
set_option linter.unusedSimpArgs false
namespace Go.Proofs.YtgehpfmdnkmiaaaGreatDoor
open Go.RowKit Go.X
theorem c_l_szStringS {A1 : Option Addr} {c1 : Nat} {w : World} (p_a : List Str) (p_left : Int) (h1 : RdS w (Iv 0 w.heap.size) (RF e_Str) 1 A1 p_a.length c1 p_a) : Cal Tryz.prog 21 #[.slice A1 p_a.length c1, .int .i64 (p_left)] w fun v w' => v = .int .i64 ((l_szStringS p_a p_left)) ∧ Ex w w' := by
 refine Cal.of func21 rfl ntmps21 rfl (cR (sA rfl (dn (cR (sM rfl ?_)))))
 refine sM rfl (sd rfl (yL un22 rfl rfl (sd rfl (yl_sub rfl rfl rfl (sA rfl (dn (CW.seq (cR ?_))))))))
 refine sM rfl (sd rfl (yl_lss rfl rfl rfl (dn (bcase (decide ((IntKind.wrap .i64 (p_left - (p_a.length : Int))) < 0)) (fun hb2 => ?_) (fun hb2 => ?_)))))
 ·have hb2p := dec_t hb2
  refine CW.cond_t rfl hb2 (cR (sA rfl (dn (CW.ret (tr (rr rfl (.cons rfl .nil) ?_))))))
  have hM3 : (l_szStringS p_a p_left) = (-1) := by simp only [l_szStringS, hb2, cL]
  rw [hM3]
  exact ⟨rfl, (Ex.refl w)⟩
 ·have hb2p := dec_f hb2
  refine CW.cond_f rfl hb2 (CW.skip (tn (CW.seq (cR (sA rfl (dn ?_))))))
  refine CW.block (CW.loop (fun m6 L7 w8 => ∃ (k4 : Nat) (x5 : Int), m6 = p_a.length - k4 ∧ k4 ≤ p_a.length ∧ w.heap.size ≤ w8.heap.size ∧ lkp L7 0 = some (.slice A1 p_a.length c1) ∧ lkp L7 1 = some (.int .i64 (x5)) ∧ lkp L7 5 = some (.int .i64 ((k4 : Int))) ∧ RdS w8 (Iv 0 w.heap.size) (RF e_Str) 1 A1 p_a.length c1 p_a ∧ Ex w w8 ∧ loopM (B_l_szStringS_0 p_a p_left) (p_a.length - k4) k4 (x5) = loopM (B_l_szStringS_0 p_a p_left) (p_a.length - 0) 0 (IntKind.wrap .i64 (p_left - (p_a.length : Int)))) (p_a.length - 0) ?_ ?_)
  ·exact ⟨0, IntKind.wrap .i64 (p_left - (p_a.length : Int)), rfl, oM, Nat.le_refl _, rfl, rfl, rfl, h1, (Ex.refl w), rfl⟩
  ·rintro m9 L10 w11 ⟨k4, x5, rfl, hk12, hsz14, hl15, hl16, hl17, hf18, hf19, hI13⟩
   refine CW.sub (Sub.cons hl15 (Sub.cons hl16 (Sub.cons hl17 (Sub.nil _)))) ?_
   have hf19z := Ex.size hf19
   have hbg20 := RdS.big hf18
   rcases Nat.lt_or_ge k4 p_a.length with hlt21 | hlt21
   ·refine CW.seq (cR (sM rfl (sM rfl (sd rfl (yL un22 rfl rfl (sd rfl (yl_lss rfl rfl rfl (dn ?_))))))))
    refine CW.cond_t rfl (lt_t hlt21) (CW.skip (tn (CW.seq (CW.block (cR (sM rfl (sM rfl ?_)))))))
    refine sM rfl ?_
    obtain ⟨eb22, eo22, _, eA22, _, ebl22, _, eR22, eC22⟩ := RdS.aD hf18 d_Str (i := k4)
    obtain rfl := eR22
    have eC22 : Cells w11 eb22 (eo22 + k4 * 1) [.string (bs ((p_a.getD k4 d_Str)))] := eC22
    refine sd rfl (yl_ixN un22 ty9 rfl rfl rfl eA22 (sd rfl (yl_load1 ty9 rfl rfl (eC22 0 _ rfl) (sd rfl (yl_slen un9 (a := (p_a.getD k4 d_Str)) rfl rfl (sd rfl (yl_sub rfl rfl rfl (sA rfl (dn (cR ?_))))))))))
    refine sM rfl (sd rfl (yl_lss rfl rfl rfl (dn (bcase (decide ((IntKind.wrap .i64 (x5 - ((p_a.getD k4 d_Str).length : Int))) < 0)) (fun hb23 => ?_) (fun hb23 => ?_)))))
    ·have hb23p := dec_t hb23
     refine CW.cond_t rfl hb23 (cR (sA rfl (dn (CW.ret (br (tr ?_))))))
     refine tr ?_
     have hB25 : B_l_szStringS_0 p_a p_left k4 (x5) = .ret (-1) := by simp only [B_l_szStringS_0, hb2, hb23, cL]
     have hL24 : loopM (B_l_szStringS_0 p_a p_left) (p_a.length - 0) 0 (IntKind.wrap .i64 (p_left - (p_a.length : Int))) = .ret (-1) := hI13.symm.trans (loopM.ret hlt21 hB25)
     refine br (tr (rr rfl (.cons rfl .nil) ?_))
     have hM26 : (l_szStringS p_a p_left) = (-1) := by simp only [l_szStringS, hb2, hb23, hL24, cL]
     rw [hM26]
     exact ⟨rfl, hf19⟩
    ·have hb23p := dec_f hb23
     refine CW.cond_f rfl hb23 (CW.skip (bn (tn (CW.region (sM rfl (sd rfl (yl_inc rfl rfl rfl oM (sA rfl (SeqR.done ?_)))))))))
     refine tn ?_
     have hB27 : B_l_szStringS_0 p_a p_left k4 (x5) = .cont (IntKind.wrap .i64 (x5 - ((p_a.getD k4 d_Str).length : Int))) := by simp only [B_l_szStringS_0, hb2, hb23, cL]
     exact ⟨p_a.length - (k4 + 1), oM, k4 + 1, IntKind.wrap .i64 (x5 - ((p_a.getD k4 d_Str).length : Int)), rfl, hlt21, oM, rfl, rfl, rfl, hf18, hf19, (loopM.cont hlt21 hB27).symm.trans hI13⟩
   ·refine CW.seq (cR (sM rfl (sM rfl (sd rfl (yL un22 rfl rfl (sd rfl (yl_lss rfl rfl rfl (dn ?_))))))))
    refine CW.cond_f rfl (lt_f hlt21) (CW.exit (tx (tx ?_)))
    have hL28 : loopM (B_l_szStringS_0 p_a p_left) (p_a.length - 0) 0 (IntKind.wrap .i64 (p_left - (p_a.length : Int))) = .done (x5) := hI13.symm.trans (loopM.stop hlt21)
    refine bx (tn (cR (sM rfl (sA rfl (dn (CW.ret ?_))))))
    refine rr rfl (.cons rfl .nil) ?_
    have hM29 : (l_szStringS p_a p_left) = (x5) := by simp only [l_szStringS, hb2, hL28, cL]
    rw [hM29]
    exact ⟨rfl, hf19⟩
theorem c_l_szIdx {w : World} (p_a : DIdx) (p_left : Int) : Cal Tryz.prog 45 #[.agg #[.string (bs (p_a.Name)), .int .i64 (p_a.Col), .int .i64 (p_a.Stage)], .int .i64 (p_left)] w fun v w' => v = .int .i64 ((l_szIdx p_a p_left)) ∧ Ex w w' := by
 refine Cal.of func45 rfl ntmps45 rfl (cR (sd rfl (yl_box rfl rfl rfl ?_)))
 intro b1 w2 hs3 hz4 hB5 hE6
 refine sA rfl (dn (cR (sM rfl (sd rfl (yl_fieldAddr fd84_0 rfl rfl (sd rfl (yl_load1 ty9 rfl rfl ((hB5.cell 0).trans rfl) (sd rfl (yl_slen un9 (a := p_a.Name) rfl rfl ?_)))))))))
 refine sd rfl (yl_sub rfl rfl rfl (sA rfl (dn (CW.seq (cR (sM rfl (sd rfl (yl_lss rfl rfl rfl ?_))))))))
 refine dn (bcase (decide ((IntKind.wrap .i64 (p_left - (p_a.Name.length : Int))) < 0)) (fun hb7 => ?_) (fun hb7 => ?_))
 ·have hb7p := dec_t hb7
  refine CW.cond_t rfl hb7 (cR (sA rfl (dn (CW.ret (tr (rr rfl (.cons rfl .nil) ?_))))))
  have hM8 : (l_szIdx p_a p_left) = (-1) := by simp only [l_szIdx, hb7, cL]
  rw [hM8]
  exact ⟨rfl, (Ex.trans (Ex.refl w) hE6)⟩
 ·have hb7p := dec_f hb7
  refine CW.cond_f rfl hb7 (CW.skip (tn (cR (sM rfl (sA rfl (dn ?_))))))
  refine CW.ret (rr rfl (.cons rfl .nil) ?_)
  have hM10 : (l_szIdx p_a p_left) = (IntKind.wrap .i64 (p_left - (p_a.Name.length : Int))) := by simp only [l_szIdx, hb7, cL]
  rw [hM10]
  exact ⟨rfl, (Ex.trans (Ex.refl w) hE6)⟩
theorem c_l_szIdxS {A1 : Option Addr} {c1 : Nat} {w : World} (p_a : List DIdx) (p_left : Int) (h1 : RdS w (Iv 0 w.heap.size) (RF e_Idx) 3 A1 p_a.length c1 p_a) : Cal Tryz.prog 22 #[.slice A1 p_a.length c1, .int .i64 (p_left)] w fun v w' => v = .int .i64 ((l_szIdxS p_a p_left)) ∧ Ex w w' := by
 refine Cal.of func22 rfl ntmps22 rfl (cR (sA rfl (dn (cR (sM rfl ?_)))))
 refine sM rfl (sd rfl (yL un23 rfl rfl (sd rfl (yl_sub rfl rfl rfl (sA rfl (dn (CW.seq (cR ?_))))))))
 refine sM rfl (sd rfl (yl_lss rfl rfl rfl (dn (bcase (decide ((IntKind.wrap .i64 (p_left - (p_a.length : Int))) < 0)) (fun hb2 => ?_) (fun hb2 => ?_)))))
 ·have hb2p := dec_t hb2
  refine CW.cond_t rfl hb2 (cR (sA rfl (dn (CW.ret (tr (rr rfl (.cons rfl .nil) ?_))))))
  have hM3 : (l_szIdxS p_a p_left) = (-1) := by simp only [l_szIdxS, hb2, cL]
  rw [hM3]
  exact ⟨rfl, (Ex.refl w)⟩
 ·have hb2p := dec_f hb2
  refine CW.cond_f rfl hb2 (CW.skip (tn (CW.seq (cR (sA rfl (dn ?_))))))
  refine CW.block (CW.loop (fun m6 L7 w8 => ∃ (k4 : Nat) (x5 : Int), m6 = p_a.length - k4 ∧ k4 ≤ p_a.length ∧ w.heap.size ≤ w8.heap.size ∧ lkp L7 0 = some (.slice A1 p_a.length c1) ∧ lkp L7 1 = some (.int .i64 (x5)) ∧ lkp L7 5 = some (.int .i64 ((k4 : Int))) ∧ RdS w8 (Iv 0 w.heap.size) (RF e_Idx) 3 A1 p_a.length c1 p_a ∧ Ex w w8 ∧ loopM (B_l_szIdxS_0 p_a p_left) (p_a.length - k4) k4 (x5) = loopM (B_l_szIdxS_0 p_a p_left) (p_a.length - 0) 0 (IntKind.wrap .i64 (p_left - (p_a.length : Int)))) (p_a.length - 0) ?_ ?_)
  ·exact ⟨0, IntKind.wrap .i64 (p_left - (p_a.length : Int)), rfl, oM, Nat.le_refl _, rfl, rfl, rfl, h1, (Ex.refl w), rfl⟩
  ·rintro m9 L10 w11 ⟨k4, x5, rfl, hk12, hsz14, hl15, hl16, hl17, hf18, hf19, hI13⟩
   refine CW.sub (Sub.cons hl15 (Sub.cons hl16 (Sub.cons hl17 (Sub.nil _)))) ?_
   have hf19z := Ex.size hf19
   have hbg20 := RdS.big hf18
   rcases Nat.lt_or_ge k4 p_a.length with hlt21 | hlt21
   ·refine CW.seq (cR (sM rfl (sM rfl (sd rfl (yL un23 rfl rfl (sd rfl (yl_lss rfl rfl rfl (dn ?_))))))))
    refine CW.cond_t rfl (lt_t hlt21) (CW.skip (tn (CW.seq (CW.block (cR (sM rfl (sM rfl ?_)))))))
    obtain ⟨eb22, eo22, _, eA22, _, ebl22, _, eR22, eC22⟩ := RdS.aD hf18 d_Idx (i := k4)
    obtain rfl := eR22
    have eC22 : Cells w11 eb22 (eo22 + k4 * 3) [.string (bs ((p_a.getD k4 d_Idx).Name)), .int .i64 ((p_a.getD k4 d_Idx).Col), .int .i64 ((p_a.getD k4 d_Idx).Stage)] := eC22
    refine sd rfl (yl_ixN un23 ty84 rfl rfl rfl eA22 (sd rfl (yl_loadN ty84 rfl rfl eC22 rfl (sM rfl (sd rfl (yC en45 rfl (oc rfl (oc rfl oz)) (Cal.mono (c_l_szIdx (p_a.getD k4 d_Idx) x5) ?_)))))))
    rintro v24 w23 ⟨rfl, hE25⟩
    have hE25z := Ex.size hE25
    refine sA rfl (dn (cR (sM rfl (sd rfl (yl_lss rfl rfl rfl (dn ?_))))))
    refine bcase (decide ((l_szIdx (p_a.getD k4 d_Idx) x5) < 0)) (fun hb26 => ?_) (fun hb26 => ?_)
    ·have hb26p := dec_t hb26
     refine CW.cond_t rfl hb26 (cR (sA rfl (dn (CW.ret (br (tr ?_))))))
     refine tr ?_
     have hB28 : B_l_szIdxS_0 p_a p_left k4 (x5) = .ret (-1) := by simp only [B_l_szIdxS_0, hb2, hb26, cL]
     have hL27 : loopM (B_l_szIdxS_0 p_a p_left) (p_a.length - 0) 0 (IntKind.wrap .i64 (p_left - (p_a.length : Int))) = .ret (-1) := hI13.symm.trans (loopM.ret hlt21 hB28)
     refine br (tr (rr rfl (.cons rfl .nil) ?_))
     have hM29 : (l_szIdxS p_a p_left) = (-1) := by simp only [l_szIdxS, hb2, hb26, hL27, cL]
     rw [hM29]
     exact ⟨rfl, (Ex.trans hf19 hE25)⟩
    ·have hb26p := dec_f hb26
     refine CW.cond_f rfl hb26 (CW.skip (bn (tn (CW.region (sM rfl (sd rfl (yl_inc rfl rfl rfl oM (sA rfl (SeqR.done ?_)))))))))
     refine tn ?_
     have hB31 : B_l_szIdxS_0 p_a p_left k4 (x5) = .cont ((l_szIdx (p_a.getD k4 d_Idx) x5)) := by simp only [B_l_szIdxS_0, hb2, hb26, cL]
     exact ⟨p_a.length - (k4 + 1), oM, k4 + 1, (l_szIdx (p_a.getD k4 d_Idx) x5), rfl, hlt21, oM, rfl, rfl, rfl, (RdS.ex gI hf18 hE25), (Ex.trans hf19 hE25), (loopM.cont hlt21 hB31).symm.trans hI13⟩
   ·refine CW.seq (cR (sM rfl (sM rfl (sd rfl (yL un23 rfl rfl (sd rfl (yl_lss rfl rfl rfl (dn ?_))))))))
    refine CW.cond_f rfl (lt_f hlt21) (CW.exit (tx (tx ?_)))
    have hL34 : loopM (B_l_szIdxS_0 p_a p_left) (p_a.length - 0) 0 (IntKind.wrap .i64 (p_left - (p_a.length : Int))) = .done (x5) := hI13.symm.trans (loopM.stop hlt21)
    refine bx (tn (cR (sM rfl (sA rfl (dn (CW.ret ?_))))))
    refine rr rfl (.cons rfl .nil) ?_
    have hM35 : (l_szIdxS p_a p_left) = (x5) := by simp only [l_szIdxS, hb2, hL34, cL]
    rw [hM35]
    exact ⟨rfl, hf19⟩
theorem c_l_szTable {A1 : Option Addr} {c1 : Nat} {A2 : Option Addr} {c2 : Nat} {w : World} (p_a : DTable) (p_left : Int) (h1 : RdS w (Iv 0 w.heap.size) (RF e_Str) 1 A1 p_a.Cols.length c1 p_a.Cols) (h2 : RdS w (Iv 0 w.heap.size) (RF e_Idx) 3 A2 p_a.Idxs.length c2 p_a.Idxs) : Cal Tryz.prog 4 #[.agg #[.string (bs (p_a.Name)), .slice A1 p_a.Cols.length c1, .slice A2 p_a.Idxs.length c2], .int .i64 (p_left)] w fun v w' => v = .int .i64 ((l_szTable p_a p_left)) ∧ Ex w w' := by
 refine Cal.of func4 rfl ntmps4 rfl (cR (sd rfl (yl_box rfl rfl rfl ?_)))
 intro b3 w4 hs5 hz6 hB7 hE8
 refine sA rfl (dn (cR (sM rfl (sd rfl (yl_fieldAddr fd25_0 rfl rfl (sd rfl (yl_load1 ty9 rfl rfl ((hB7.cell 0).trans rfl) (sd rfl (yl_slen un9 (a := p_a.Name) rfl rfl ?_)))))))))
 refine sd rfl (yl_sub rfl rfl rfl (sA rfl (dn (CW.seq (cR (sM rfl (sd rfl (yl_lss rfl rfl rfl ?_))))))))
 refine dn (bcase (decide ((IntKind.wrap .i64 (p_left - (p_a.Name.length : Int))) < 0)) (fun hb9 => ?_) (fun hb9 => ?_))
 ·have hb9p := dec_t hb9
  refine CW.cond_t rfl hb9 (cR (sA rfl (dn (CW.ret (tr (rr rfl (.cons rfl .nil) ?_))))))
  have hM10 : (l_szTable p_a p_left) = (-1) := by simp only [l_szTable, hb9, cL]
  rw [hM10]
  exact ⟨rfl, (Ex.trans (Ex.refl w) hE8)⟩
 ·have hb9p := dec_f hb9
  refine CW.cond_f rfl hb9 (CW.skip (tn (cR (sd rfl (yl_fieldAddr fd25_1 rfl rfl (sd rfl (yl_load1 ty22 rfl rfl ((hB7.cell 1).trans rfl) (sM rfl (sd rfl (yC en21 rfl (oc rfl (oc rfl oz)) (Cal.mono (c_l_szStringS p_a.Cols (IntKind.wrap .i64 (p_left - (p_a.Name.length : Int))) (RdS.up (RdS.ex gS h1 hE8) gS)) ?_)))))))))))
  rintro v14 w13 ⟨rfl, hE15⟩
  refine sA rfl (dn (CW.seq (cR (sM rfl (sd rfl (yl_lss rfl rfl rfl (SeqR.done ?_)))))))
  refine tn (bcase (decide ((l_szStringS p_a.Cols (IntKind.wrap .i64 (p_left - (p_a.Name.length : Int)))) < 0)) (fun hb16 => ?_) (fun hb16 => ?_))
  ·have hb16p := dec_t hb16
   refine CW.cond_t rfl hb16 (cR (sA rfl (dn (CW.ret (tr (rr rfl (.cons rfl .nil) ?_))))))
   have hM17 : (l_szTable p_a p_left) = (-1) := by simp only [l_szTable, hb9, hb16, cL]
   rw [hM17]
   exact ⟨rfl, (Ex.trans (Ex.trans (Ex.refl w) hE8) hE15)⟩
  ·have hb16p := dec_f hb16
   refine CW.cond_f rfl hb16 (CW.skip (tn (cR (sd rfl (yl_fieldAddr fd25_2 rfl rfl (sd rfl (yl_load1 ty23 rfl rfl (((Box.ex hB7 hE15).cell 2).trans rfl) (sM rfl (sd rfl (yC en22 rfl (oc rfl (oc rfl oz)) (Cal.mono (c_l_szIdxS p_a.Idxs (l_szStringS p_a.Cols (IntKind.wrap .i64 (p_left - (p_a.Name.length : Int)))) (RdS.up (RdS.ex gI (RdS.ex gI h2 hE8) hE15) gI)) ?_)))))))))))
   rintro v24 w23 ⟨rfl, hE25⟩
   refine sA rfl (dn (CW.seq (cR (sM rfl (sd rfl (yl_lss rfl rfl rfl (SeqR.done ?_)))))))
   refine tn (bcase (decide ((l_szIdxS p_a.Idxs (l_szStringS p_a.Cols (IntKind.wrap .i64 (p_left - (p_a.Name.length : Int))))) < 0)) (fun hb26 => ?_) (fun hb26 => ?_))
   ·have hb26p := dec_t hb26
    refine CW.cond_t rfl hb26 (cR (sA rfl (dn (CW.ret (tr (rr rfl (.cons rfl .nil) ?_))))))
    have hM27 : (l_szTable p_a p_left) = (-1) := by simp only [l_szTable, hb9, hb16, hb26, cL]
    rw [hM27]
    exact ⟨rfl, (Ex.trans (Ex.trans (Ex.trans (Ex.refl w) hE8) hE15) hE25)⟩
   ·have hb26p := dec_f hb26
    refine CW.cond_f rfl hb26 (CW.skip (tn (cR (sM rfl (sA rfl (dn ?_))))))
    refine CW.ret (rr rfl (.cons rfl .nil) ?_)
    have hM31 : (l_szTable p_a p_left) = ((l_szIdxS p_a.Idxs (l_szStringS p_a.Cols (IntKind.wrap .i64 (p_left - (p_a.Name.length : Int)))))) := by simp only [l_szTable, hb9, hb16, hb26, cL]
    rw [hM31]
    exact ⟨rfl, (Ex.trans (Ex.trans (Ex.trans (Ex.refl w) hE8) hE15) hE25)⟩
theorem c_l_szWrite {w : World} (p_a : DWrite) (p_left : Int) : Cal Tryz.prog 23 #[.agg #[.string (bs (p_a.Key)), .string (bs (p_a.Val)), .bool (p_a.Gone)], .int .i64 (p_left)] w fun v w' => v = .int .i64 ((l_szWrite p_a p_left)) ∧ Ex w w' := by
 refine Cal.of func23 rfl ntmps23 rfl (cR (sd rfl (yl_box rfl rfl rfl ?_)))
 intro b1 w2 hs3 hz4 hB5 hE6
 refine sA rfl (dn (cR (sM rfl (sd rfl (yl_fieldAddr fd64_0 rfl rfl (sd rfl (yl_load1 ty9 rfl rfl ((hB5.cell 0).trans rfl) (sd rfl (yl_slen un9 (a := p_a.Key) rfl rfl ?_)))))))))
 refine sd rfl (yl_sub rfl rfl rfl (sA rfl (dn (CW.seq (cR (sM rfl (sd rfl (yl_lss rfl rfl rfl ?_))))))))
 refine dn (bcase (decide ((IntKind.wrap .i64 (p_left - (p_a.Key.length : Int))) < 0)) (fun hb7 => ?_) (fun hb7 => ?_))
 ·have hb7p := dec_t hb7
  refine CW.cond_t rfl hb7 (cR (sA rfl (dn (CW.ret (tr (rr rfl (.cons rfl .nil) ?_))))))
  have hM8 : (l_szWrite p_a p_left) = (-1) := by simp only [l_szWrite, hb7, cL]
  rw [hM8]
  exact ⟨rfl, (Ex.trans (Ex.refl w) hE6)⟩
 ·have hb7p := dec_f hb7
  refine CW.cond_f rfl hb7 (CW.skip (tn (cR (sM rfl (sd rfl (yl_fieldAddr fd64_1 rfl rfl (sd rfl (yl_load1 ty9 rfl rfl ((hB5.cell 1).trans rfl) (sd rfl (yl_slen un9 (a := p_a.Val) rfl rfl ?_))))))))))
  refine sd rfl (yl_sub rfl rfl rfl (sA rfl (dn (CW.seq (cR (sM rfl (sd rfl (yl_lss rfl rfl rfl ?_))))))))
  refine dn (bcase (decide ((IntKind.wrap .i64 ((IntKind.wrap .i64 (p_left - (p_a.Key.length : Int))) - (p_a.Val.length : Int))) < 0)) (fun hb10 => ?_) (fun hb10 => ?_))
  ·have hb10p := dec_t hb10
   refine CW.cond_t rfl hb10 (cR (sA rfl (dn (CW.ret (tr (rr rfl (.cons rfl .nil) ?_))))))
   have hM11 : (l_szWrite p_a p_left) = (-1) := by simp only [l_szWrite, hb7, hb10, cL]
   rw [hM11]
   exact ⟨rfl, (Ex.trans (Ex.refl w) hE6)⟩
  ·have hb10p := dec_f hb10
   refine CW.cond_f rfl hb10 (CW.skip (tn (cR (sM rfl (sA rfl (dn ?_))))))
   refine CW.ret (rr rfl (.cons rfl .nil) ?_)
   have hM13 : (l_szWrite p_a p_left) = (IntKind.wrap .i64 ((IntKind.wrap .i64 (p_left - (p_a.Key.length : Int))) - (p_a.Val.length : Int))) := by simp only [l_szWrite, hb7, hb10, cL]
   rw [hM13]
   exact ⟨rfl, (Ex.trans (Ex.refl w) hE6)⟩
theorem c_l_szWriteS {A1 : Option Addr} {c1 : Nat} {w : World} (p_a : List DWrite) (p_left : Int) (h1 : RdS w (Iv 0 w.heap.size) (RF e_Write) 3 A1 p_a.length c1 p_a) : Cal Tryz.prog 5 #[.slice A1 p_a.length c1, .int .i64 (p_left)] w fun v w' => v = .int .i64 ((l_szWriteS p_a p_left)) ∧ Ex w w' := by
 refine Cal.of func5 rfl ntmps5 rfl (cR (sA rfl (dn (cR (sM rfl ?_)))))
 refine sM rfl (sd rfl (yL un26 rfl rfl (sd rfl (yl_sub rfl rfl rfl (sA rfl (dn (CW.seq (cR ?_))))))))
 refine sM rfl (sd rfl (yl_lss rfl rfl rfl (dn (bcase (decide ((IntKind.wrap .i64 (p_left - (p_a.length : Int))) < 0)) (fun hb2 => ?_) (fun hb2 => ?_)))))
 ·have hb2p := dec_t hb2
  refine CW.cond_t rfl hb2 (cR (sA rfl (dn (CW.ret (tr (rr rfl (.cons rfl .nil) ?_))))))
  have hM3 : (l_szWriteS p_a p_left) = (-1) := by simp only [l_szWriteS, hb2, cL]
  rw [hM3]
  exact ⟨rfl, (Ex.refl w)⟩
 ·have hb2p := dec_f hb2
  refine CW.cond_f rfl hb2 (CW.skip (tn (CW.seq (cR (sA rfl (dn ?_))))))
  refine CW.block (CW.loop (fun m6 L7 w8 => ∃ (k4 : Nat) (x5 : Int), m6 = p_a.length - k4 ∧ k4 ≤ p_a.length ∧ w.heap.size ≤ w8.heap.size ∧ lkp L7 0 = some (.slice A1 p_a.length c1) ∧ lkp L7 1 = some (.int .i64 (x5)) ∧ lkp L7 5 = some (.int .i64 ((k4 : Int))) ∧ RdS w8 (Iv 0 w.heap.size) (RF e_Write) 3 A1 p_a.length c1 p_a ∧ Ex w w8 ∧ loopM (B_l_szWriteS_0 p_a p_left) (p_a.length - k4) k4 (x5) = loopM (B_l_szWriteS_0 p_a p_left) (p_a.length - 0) 0 (IntKind.wrap .i64 (p_left - (p_a.length : Int)))) (p_a.length - 0) ?_ ?_)
  ·exact ⟨0, IntKind.wrap .i64 (p_left - (p_a.length : Int)), rfl, oM, Nat.le_refl _, rfl, rfl, rfl, h1, (Ex.refl w), rfl⟩
  ·rintro m9 L10 w11 ⟨k4, x5, rfl, hk12, hsz14, hl15, hl16, hl17, hf18, hf19, hI13⟩
   refine CW.sub (Sub.cons hl15 (Sub.cons hl16 (Sub.cons hl17 (Sub.nil _)))) ?_
   have hf19z := Ex.size hf19
   have hbg20 := RdS.big hf18
   rcases Nat.lt_or_ge k4 p_a.length with hlt21 | hlt21
   ·refine CW.seq (cR (sM rfl (sM rfl (sd rfl (yL un26 rfl rfl (sd rfl (yl_lss rfl rfl rfl (dn ?_))))))))
    refine CW.cond_t rfl (lt_t hlt21) (CW.skip (tn (CW.seq (CW.block (cR (sM rfl (sM rfl ?_)))))))
    obtain ⟨eb22, eo22, _, eA22, _, ebl22, _, eR22, eC22⟩ := RdS.aD hf18 d_Write (i := k4)
    obtain rfl := eR22
    have eC22 : Cells w11 eb22 (eo22 + k4 * 3) [.string (bs ((p_a.getD k4 d_Write).Key)), .string (bs ((p_a.getD k4 d_Write).Val)), .bool ((p_a.getD k4 d_Write).Gone)] := eC22
    refine sd rfl (yl_ixN un26 ty64 rfl rfl rfl eA22 (sd rfl (yl_loadN ty64 rfl rfl eC22 rfl (sM rfl (sd rfl (yC en23 rfl (oc rfl (oc rfl oz)) (Cal.mono (c_l_szWrite (p_a.getD k4 d_Write) x5) ?_)))))))
    rintro v24 w23 ⟨rfl, hE25⟩
    have hE25z := Ex.size hE25
    refine sA rfl (dn (cR (sM rfl (sd rfl (yl_lss rfl rfl rfl (dn ?_))))))
    refine bcase (decide ((l_szWrite (p_a.getD k4 d_Write) x5) < 0)) (fun hb26 => ?_) (fun hb26 => ?_)
    ·have hb26p := dec_t hb26
     refine CW.cond_t rfl hb26 (cR (sA rfl (dn (CW.ret (br (tr ?_))))))
     refine tr ?_
     have hB28 : B_l_szWriteS_0 p_a p_left k4 (x5) = .ret (-1) := by simp only [B_l_szWriteS_0, hb2, hb26, cL]
     have hL27 : loopM (B_l_szWriteS_0 p_a p_left) (p_a.length - 0) 0 (IntKind.wrap .i64 (p_left - (p_a.length : Int))) = .ret (-1) := hI13.symm.trans (loopM.ret hlt21 hB28)
     refine br (tr (rr rfl (.cons rfl .nil) ?_))
     have hM29 : (l_szWriteS p_a p_left) = (-1) := by simp only [l_szWriteS, hb2, hb26, hL27, cL]
     rw [hM29]
     exact ⟨rfl, (Ex.trans hf19 hE25)⟩
    ·have hb26p := dec_f hb26
     refine CW.cond_f rfl hb26 (CW.skip (bn (tn (CW.region (sM rfl (sd rfl (yl_inc rfl rfl rfl oM (sA rfl (SeqR.done ?_)))))))))
     refine tn ?_
     have hB31 : B_l_szWriteS_0 p_a p_left k4 (x5) = .cont ((l_szWrite (p_a.getD k4 d_Write) x5)) := by simp only [B_l_szWriteS_0, hb2, hb26, cL]
     exact ⟨p_a.length - (k4 + 1), oM, k4 + 1, (l_szWrite (p_a.getD k4 d_Write) x5), rfl, hlt21, oM, rfl, rfl, rfl, (RdS.ex gW hf18 hE25), (Ex.trans hf19 hE25), (loopM.cont hlt21 hB31).symm.trans hI13⟩
   ·refine CW.seq (cR (sM rfl (sM rfl (sd rfl (yL un26 rfl rfl (sd rfl (yl_lss rfl rfl rfl (dn ?_))))))))
    refine CW.cond_f rfl (lt_f hlt21) (CW.exit (tx (tx ?_)))
    have hL34 : loopM (B_l_szWriteS_0 p_a p_left) (p_a.length - 0) 0 (IntKind.wrap .i64 (p_left - (p_a.length : Int))) = .done (x5) := hI13.symm.trans (loopM.stop hlt21)
    refine bx (tn (cR (sM rfl (sA rfl (dn (CW.ret ?_))))))
    refine rr rfl (.cons rfl .nil) ?_
    have hM35 : (l_szWriteS p_a p_left) = (x5) := by simp only [l_szWriteS, hb2, hL34, cL]
    rw [hM35]
    exact ⟨rfl, hf19⟩
theorem c_l_szRow {A1 : Option Addr} {c1 : Nat} {w : World} (p_a : DRow) (p_left : Int) (h1 : RdS w (Iv 0 w.heap.size) (RF e_Str) 1 A1 p_a.Vals.length c1 p_a.Vals) : Cal Tryz.prog 46 #[.agg #[.slice A1 p_a.Vals.length c1], .int .i64 (p_left)] w fun v w' => v = .int .i64 ((l_szRow p_a p_left)) ∧ Ex w w' := by
 refine Cal.of func46 rfl ntmps46 rfl (cR (sd rfl (yl_box rfl rfl rfl ?_)))
 intro b2 w3 hs4 hz5 hB6 hE7
 refine sA rfl (dn (cR (sd rfl (yl_fieldAddr fd28_0 rfl rfl (sd rfl (yl_load1 ty22 rfl rfl ((hB6.cell 0).trans rfl) (sM rfl (sd rfl (yC en21 rfl (oc rfl (oc rfl oz)) (Cal.mono (c_l_szStringS p_a.Vals p_left (RdS.up (RdS.ex gS h1 hE7) gS)) ?_))))))))))
 rintro v10 w9 ⟨rfl, hE11⟩
 refine sA rfl (dn (CW.seq (cR (sM rfl (sd rfl (yl_lss rfl rfl rfl (SeqR.done ?_)))))))
 refine tn (bcase (decide ((l_szStringS p_a.Vals p_left) < 0)) (fun hb12 => ?_) (fun hb12 => ?_))
 ·have hb12p := dec_t hb12
  refine CW.cond_t rfl hb12 (cR (sA rfl (dn (CW.ret (tr (rr rfl (.cons rfl .nil) ?_))))))
  have hM13 : (l_szRow p_a p_left) = (-1) := by simp only [l_szRow, hb12, cL]
  rw [hM13]
  exact ⟨rfl, (Ex.trans (Ex.trans (Ex.refl w) hE7) hE11)⟩
 ·have hb12p := dec_f hb12
  refine CW.cond_f rfl hb12 (CW.skip (tn (cR (sM rfl (sA rfl (dn ?_))))))
  refine CW.ret (rr rfl (.cons rfl .nil) ?_)
  have hM16 : (l_szRow p_a p_left) = ((l_szStringS p_a.Vals p_left)) := by simp only [l_szRow, hb12, cL]
  rw [hM16]
  exact ⟨rfl, (Ex.trans (Ex.trans (Ex.refl w) hE7) hE11)⟩
theorem c_l_szRowAct {A1 : Option Addr} {c1 : Nat} {A2 : Option Addr} {c2 : Nat} {w : World} (p_a : DRowAct) (p_left : Int) (h1 : RdS w (Iv 0 w.heap.size) (RF e_Str) 1 A1 p_a.Old.Vals.length c1 p_a.Old.Vals) (h2 : RdS w (Iv 0 w.heap.size) (RF e_Str) 1 A2 p_a.New.Vals.length c2 p_a.New.Vals) : Cal Tryz.prog 24 #[.agg #[.int .i64 (p_a.Kind), .slice A1 p_a.Old.Vals.length c1, .slice A2 p_a.New.Vals.length c2], .int .i64 (p_left)] w fun v w' => v = .int .i64 ((l_szRowAct p_a p_left)) ∧ Ex w w' := by
 refine Cal.of func24 rfl ntmps24 rfl (cR (sd rfl (yl_box rfl rfl rfl ?_)))
 intro b3 w4 hs5 hz6 hB7 hE8
 refine sA rfl (dn (cR (sd rfl (yl_fieldAddr fd30_1 rfl rfl (sd rfl (yl_loadN ty28 rfl rfl (hB7.cells (n := 1) rfl) rfl (sM rfl (sd rfl (yC en46 rfl (oc rfl (oc rfl oz)) (Cal.mono (c_l_szRow p_a.Old p_left (RdS.up (RdS.ex gS h1 hE8) gS)) ?_))))))))))
 rintro v11 w10 ⟨rfl, hE12⟩
 refine sA rfl (dn (CW.seq (cR (sM rfl (sd rfl (yl_lss rfl rfl rfl (SeqR.done ?_)))))))
 refine tn (bcase (decide ((l_szRow p_a.Old p_left) < 0)) (fun hb13 => ?_) (fun hb13 => ?_))
 ·have hb13p := dec_t hb13
  refine CW.cond_t rfl hb13 (cR (sA rfl (dn (CW.ret (tr (rr rfl (.cons rfl .nil) ?_))))))
  have hM14 : (l_szRowAct p_a p_left) = (-1) := by simp only [l_szRowAct, hb13, cL]
  rw [hM14]
  exact ⟨rfl, (Ex.trans (Ex.trans (Ex.refl w) hE8) hE12)⟩
 ·have hb13p := dec_f hb13
  refine CW.cond_f rfl hb13 (CW.skip (tn (cR (sd rfl (yl_fieldAddr fd30_2 rfl rfl (sd rfl (yl_loadN ty28 rfl rfl ((Box.ex hB7 hE12).cells (n := 1) rfl) rfl (sM rfl (sd rfl (yC en46 rfl (oc rfl (oc rfl oz)) (Cal.mono (c_l_szRow p_a.New (l_szRow p_a.Old p_left) (RdS.up (RdS.ex gS (RdS.ex gS h2 hE8) hE12) gS)) ?_)))))))))))
  rintro v21 w20 ⟨rfl, hE22⟩
  refine sA rfl (dn (CW.seq (cR (sM rfl (sd rfl (yl_lss rfl rfl rfl (SeqR.done ?_)))))))
  refine tn (bcase (decide ((l_szRow p_a.New (l_szRow p_a.Old p_left)) < 0)) (fun hb23 => ?_) (fun hb23 => ?_))
  ·have hb23p := dec_t hb23
   refine CW.cond_t rfl hb23 (cR (sA rfl (dn (CW.ret (tr (rr rfl (.cons rfl .nil) ?_))))))
   have hM24 : (l_szRowAct p_a p_left) = (-1) := by simp only [l_szRowAct, hb13, hb23, cL]
   rw [hM24]
   exact ⟨rfl, (Ex.trans (Ex.trans (Ex.trans (Ex.refl w) hE8) hE12) hE22)⟩
  ·have hb23p := dec_f hb23
   refine CW.cond_f rfl hb23 (CW.skip (tn (cR (sM rfl (sA rfl (dn ?_))))))
   refine CW.ret (rr rfl (.cons rfl .nil) ?_)
   have hM28 : (l_szRowAct p_a p_left) = ((l_szRow p_a.New (l_szRow p_a.Old p_left))) := by simp only [l_szRowAct, hb13, hb23, cL]
   rw [hM28]
   exact ⟨rfl, (Ex.trans (Ex.trans (Ex.trans (Ex.refl w) hE8) hE12) hE22)⟩
theorem c_l_szStmt {A1 : Option Addr} {c1 : Nat} {A2 : Option Addr} {c2 : Nat} {w : World} (p_a : DStmt) (p_left : Int) (h1 : RdS w (Iv 0 w.heap.size) (RF e_Str) 1 A1 p_a.Act.Old.Vals.length c1 p_a.Act.Old.Vals) (h2 : RdS w (Iv 0 w.heap.size) (RF e_Str) 1 A2 p_a.Act.New.Vals.length c2 p_a.Act.New.Vals) : Cal Tryz.prog 6 #[.agg #[.int .i64 (p_a.Kind), .int .i64 (p_a.Act.Kind), .slice A1 p_a.Act.Old.Vals.length c1, .slice A2 p_a.Act.New.Vals.length c2, .string (bs (p_a.Idx)), .string (bs (p_a.Low)), .string (bs (p_a.High))], .int .i64 (p_left)] w fun v w' => v = .int .i64 ((l_szStmt p_a p_left)) ∧ Ex w w' := by
 refine Cal.of func6 rfl ntmps6 rfl (cR (sd rfl (yl_box rfl rfl rfl ?_)))
 intro b3 w4 hs5 hz6 hB7 hE8
 refine sA rfl (dn (cR (sd rfl (yl_fieldAddr fd32_1 rfl rfl (sd rfl (yl_loadN ty30 rfl rfl (hB7.cells (n := 3) rfl) rfl (sM rfl (sd rfl (yC en24 rfl (oc rfl (oc rfl oz)) (Cal.mono (c_l_szRowAct p_a.Act p_left (RdS.up (RdS.ex gS h1 hE8) gS) (RdS.up (RdS.ex gS h2 hE8) gS)) ?_))))))))))
 rintro v12 w11 ⟨rfl, hE13⟩
 refine sA rfl (dn (CW.seq (cR (sM rfl (sd rfl (yl_lss rfl rfl rfl (SeqR.done ?_)))))))
 refine tn (bcase (decide ((l_szRowAct p_a.Act p_left) < 0)) (fun hb14 => ?_) (fun hb14 => ?_))
 ·have hb14p := dec_t hb14
  refine CW.cond_t rfl hb14 (cR (sA rfl (dn (CW.ret (tr (rr rfl (.cons rfl .nil) ?_))))))
  have hM15 : (l_szStmt p_a p_left) = (-1) := by simp only [l_szStmt, hb14, cL]
  rw [hM15]
  exact ⟨rfl, (Ex.trans (Ex.trans (Ex.refl w) hE8) hE13)⟩
 ·have hb14p := dec_f hb14
  refine CW.cond_f rfl hb14 (CW.skip (tn (cR (sM rfl (sd rfl (yl_fieldAddr fd32_2 rfl rfl ?_))))))
  have q18 := Box.ex hB7 hE13
  refine sd rfl (yl_load1 ty9 rfl rfl ((q18.cell 4).trans rfl) (sd rfl (yl_slen un9 (a := p_a.Idx) rfl rfl (sd rfl (yl_sub rfl rfl rfl (sA rfl (dn (CW.seq (cR ?_)))))))))
  refine sM rfl (sd rfl (yl_lss rfl rfl rfl (dn (bcase (decide ((IntKind.wrap .i64 ((l_szRowAct p_a.Act p_left) - (p_a.Idx.length : Int))) < 0)) (fun hb19 => ?_) (fun hb19 => ?_)))))
  ·have hb19p := dec_t hb19
   refine CW.cond_t rfl hb19 (cR (sA rfl (dn (CW.ret (tr (rr rfl (.cons rfl .nil) ?_))))))
   have hM20 : (l_szStmt p_a p_left) = (-1) := by simp only [l_szStmt, hb14, hb19, cL]
   rw [hM20]
   exact ⟨rfl, (Ex.trans (Ex.trans (Ex.refl w) hE8) hE13)⟩
  ·have hb19p := dec_f hb19
   refine CW.cond_f rfl hb19 (CW.skip (tn (cR (sM rfl (sd rfl (yl_fieldAddr fd32_3 rfl rfl (sd rfl (yl_load1 ty9 rfl rfl ((q18.cell 5).trans rfl) (sd rfl (yl_slen un9 (a := p_a.Low) rfl rfl ?_))))))))))
   refine sd rfl (yl_sub rfl rfl rfl (sA rfl (dn (CW.seq (cR (sM rfl (sd rfl (yl_lss rfl rfl rfl ?_))))))))
   refine dn (bcase (decide ((IntKind.wrap .i64 ((IntKind.wrap .i64 ((l_szRowAct p_a.Act p_left) - (p_a.Idx.length : Int))) - (p_a.Low.length : Int))) < 0)) (fun hb23 => ?_) (fun hb23 => ?_))
   ·have hb23p := dec_t hb23
    refine CW.cond_t rfl hb23 (cR (sA rfl (dn (CW.ret (tr (rr rfl (.cons rfl .nil) ?_))))))
    have hM24 : (l_szStmt p_a p_left) = (-1) := by simp only [l_szStmt, hb14, hb19, hb23, cL]
    rw [hM24]
    exact ⟨rfl, (Ex.trans (Ex.trans (Ex.refl w) hE8) hE13)⟩
   ·have hb23p := dec_f hb23
    refine CW.cond_f rfl hb23 (CW.skip (tn (cR (sM rfl (sd rfl (yl_fieldAddr fd32_4 rfl rfl (sd rfl (yl_load1 ty9 rfl rfl ((q18.cell 6).trans rfl) (sd rfl (yl_slen un9 (a := p_a.High) rfl rfl ?_))))))))))
    refine sd rfl (yl_sub rfl rfl rfl (sA rfl (dn (CW.seq (cR (sM rfl (sd rfl (yl_lss rfl rfl rfl ?_))))))))
    refine dn (bcase (decide ((IntKind.wrap .i64 ((IntKind.wrap .i64 ((IntKind.wrap .i64 ((l_szRowAct p_a.Act p_left) - (p_a.Idx.length : Int))) - (p_a.Low.length : Int))) - (p_a.High.length : Int))) < 0)) (fun hb27 => ?_) (fun hb27 => ?_))
    ·have hb27p := dec_t hb27
     refine CW.cond_t rfl hb27 (cR (sA rfl (dn (CW.ret (tr (rr rfl (.cons rfl .nil) ?_))))))
     have hM28 : (l_szStmt p_a p_left) = (-1) := by simp only [l_szStmt, hb14, hb19, hb23, hb27, cL]
     rw [hM28]
     exact ⟨rfl, (Ex.trans (Ex.trans (Ex.refl w) hE8) hE13)⟩
    ·have hb27p := dec_f hb27
     refine CW.cond_f rfl hb27 (CW.skip (tn (cR (sM rfl (sA rfl (dn ?_))))))
     refine CW.ret (rr rfl (.cons rfl .nil) ?_)
     have hM31 : (l_szStmt p_a p_left) = (IntKind.wrap .i64 ((IntKind.wrap .i64 ((IntKind.wrap .i64 ((l_szRowAct p_a.Act p_left) - (p_a.Idx.length : Int))) - (p_a.Low.length : Int))) - (p_a.High.length : Int))) := by simp only [l_szStmt, hb14, hb19, hb23, hb27, cL]
     rw [hM31]
     exact ⟨rfl, (Ex.trans (Ex.trans (Ex.refl w) hE8) hE13)⟩
theorem c_s_l24Letters {w : World} (p_s : Str) (p_most : Int) (o1 : okS p_s) : Cal Tryz.prog 70 #[.string (bs (p_s)), .int .i64 (p_most)] w fun v w' => v = .bool ((s_l24Letters p_s p_most)) ∧ Ex w w' := by
 have hol2 : p_s.length ≤ 1073741824 := o1
 refine Cal.of func70 rfl ntmps70 rfl (cR (sA rfl (dn (CW.seq (cR ?_)))))
 refine sA rfl (dn (CW.block (CW.loop (fun m4 L5 w6 => ∃ (k3 : Nat), m4 = p_s.length - k3 ∧ k3 ≤ p_s.length ∧ w.heap.size ≤ w6.heap.size ∧ lkp L5 0 = some (.string (bs (p_s))) ∧ lkp L5 1 = some (.int .i64 (p_most)) ∧ lkp L5 5 = some (.int .i64 ((k3 : Int))) ∧ Ex w w6 ∧ loopM (B_s_l24Letters_0 p_s p_most) (p_s.length - k3) k3 () = loopM (B_s_l24Letters_0 p_s p_most) (p_s.length - 0) 0 ()) (p_s.length - 0) ?_ ?_)))
 ·exact ⟨0, rfl, oM, Nat.le_refl _, rfl, rfl, rfl, (Ex.refl w), rfl⟩
 ·rintro m7 L8 w9 ⟨k3, rfl, hk10, hsz12, hl13, hl14, hl15, hf16, hI11⟩
  refine CW.sub (Sub.cons hl13 (Sub.cons hl14 (Sub.cons hl15 (Sub.nil _)))) ?_
  have hf16z := Ex.size hf16
  have hbg17 : p_s.length ≤ 1073741824 := o1
  rcases Nat.lt_or_ge k3 p_s.length with hlt18 | hlt18
  ·refine CW.seq (cR (sM rfl (sM rfl (sd rfl (yl_slen un9 (a := p_s) rfl rfl (sd rfl (yl_lss rfl rfl rfl (dn ?_))))))))
   refine CW.cond_t rfl (lt_t hlt18) (CW.skip (tn (CW.seq (CW.block (cR (sM rfl (sM rfl ?_)))))))
   refine sd rfl (yl_sindexN un9 (a := p_s) rfl rfl rfl Bo (sd rfl (yl_lss rfl rfl rfl (sM rfl (bcase (decide (((p_s.getD k3 0).toNat : Int) < 97)) (fun hb19 => ?_) (fun hb19 => ?_))))))
   ·have hb19p := dec_t hb19
    refine sz rfl rfl hb19 (sz rfl rfl hb19 (sz rfl rfl hb19 (sz rfl rfl hb19 (sd rfl (yl_pick_t rfl rfl hb19 rfl (dn (CW.cond_t rfl rfl (CW.seq ?_))))))))
    refine CW.region (sA rfl (dn (CW.ret (br (tr (tr ?_))))))
    have hB21 : B_s_l24Letters_0 p_s p_most k3 () = .ret false := by simp only [B_s_l24Letters_0, hb19, cL]
    have hL20 : loopM (B_s_l24Letters_0 p_s p_most) (p_s.length - 0) 0 () = .ret false := hI11.symm.trans (loopM.ret hlt18 hB21)
    refine br (tr (rr rfl (.cons rfl .nil) ?_))
    have hM22 : (s_l24Letters p_s p_most) = (false) := by simp only [s_l24Letters, hb19, hL20, cL]
    rw [hM22]
    exact ⟨rfl, hf16⟩
   ·have hb19p := dec_f hb19
    refine sy rfl rfl hb19 (yM rfl rfl (sy rfl rfl hb19 (yM rfl rfl (sy rfl rfl hb19 (yl_sindexN un9 (a := p_s) rfl rfl rfl Bo (sy rfl rfl hb19 (yl_gtr rfl rfl rfl (sd rfl (yl_pick_f rfl rfl hb19 rfl (dn (bcase (decide (122 < ((p_s.getD k3 0).toNat : Int))) (fun hb23 => ?_) (fun hb23 => ?_))))))))))))
    ·have hb23p := dec_t hb23
     refine CW.cond_t rfl hb23 (cR (sA rfl (dn (CW.ret (br (tr ?_))))))
     refine tr ?_
     have hB25 : B_s_l24Letters_0 p_s p_most k3 () = .ret false := by simp only [B_s_l24Letters_0, hb19, hb23, cL]
     have hL24 : loopM (B_s_l24Letters_0 p_s p_most) (p_s.length - 0) 0 () = .ret false := hI11.symm.trans (loopM.ret hlt18 hB25)
     refine br (tr (rr rfl (.cons rfl .nil) ?_))
     have hM26 : (s_l24Letters p_s p_most) = (false) := by simp only [s_l24Letters, hb19, hb23, hL24, cL]
     rw [hM26]
     exact ⟨rfl, hf16⟩
    ·have hb23p := dec_f hb23
     refine CW.cond_f rfl hb23 (CW.skip (bn (tn (CW.region (sM rfl (sd rfl (yl_inc rfl rfl rfl oM (sA rfl (SeqR.done ?_)))))))))
     refine tn ?_
     have hB27 : B_s_l24Letters_0 p_s p_most k3 () = .cont () := by simp only [B_s_l24Letters_0, hb19, hb23, cL]
     exact ⟨p_s.length - (k3 + 1), oM, k3 + 1, rfl, hlt18, oM, rfl, rfl, rfl, hf16, (loopM.cont hlt18 hB27).symm.trans hI11⟩
  ·refine CW.seq (cR (sM rfl (sM rfl (sd rfl (yl_slen un9 (a := p_s) rfl rfl (sd rfl (yl_lss rfl rfl rfl (dn ?_))))))))
   refine CW.cond_f rfl (lt_f hlt18) (CW.exit (tx (tx ?_)))
   have hL28 : loopM (B_s_l24Letters_0 p_s p_most) (p_s.length - 0) 0 () = .done () := hI11.symm.trans (loopM.stop hlt18)
   refine bx (tn (cR (sM rfl (sd rfl (yl_slen un9 (a := p_s) rfl rfl (sd rfl (yl_geq rfl rfl rfl (sM rfl (bcase (decide (1 ≤ (p_s.length : Int))) (fun hb29 => ?_) (fun hb29 => ?_))))))))))
   ·have hb29p := dec_t hb29
    refine sy rfl rfl hb29 (yM rfl rfl (sy rfl rfl hb29 (yl_slen un9 (a := p_s) rfl rfl (sy rfl rfl hb29 (yM rfl rfl (sy rfl rfl hb29 (yl_leq rfl rfl rfl (sd rfl (yl_pick_t rfl rfl hb29 rfl (sA rfl (dn (CW.ret ?_))))))))))))
    refine rr rfl (.cons rfl .nil) ?_
    have hM30 : (s_l24Letters p_s p_most) = (decide ((p_s.length : Int) ≤ p_most)) := by simp only [s_l24Letters, hb29, hL28, cL]
    rw [hM30]
    exact ⟨rfl, hf16⟩
   ·have hb29p := dec_f hb29
    refine sz rfl rfl hb29 (sz rfl rfl hb29 (sz rfl rfl hb29 (sz rfl rfl hb29 (sd rfl (yl_pick_f rfl rfl hb29 rfl (sA rfl (dn (CW.ret ?_))))))))
    refine rr rfl (.cons rfl .nil) ?_
    have hM31 : (s_l24Letters p_s p_most) = (false) := by simp only [s_l24Letters, hb29, hL28, cL]
    rw [hM31]
    exact ⟨rfl, hf16⟩
theorem c_s_l1In {w : World} (p_n : Int) (p_lo : Int) (p_hi : Int) : Cal Tryz.prog 72 #[.int .i64 (p_n), .int .i64 (p_lo), .int .i64 (p_hi)] w fun v w' => v = .bool ((s_l1In p_n p_lo p_hi)) ∧ Ex w w' := by
 refine Cal.of func72 rfl ntmps72 rfl (cR (sA rfl (dn (cR (sM rfl ?_)))))
 refine sM rfl (sd rfl (yl_geq rfl rfl rfl (sM rfl (bcase (decide (p_lo ≤ p_n)) (fun hb1 => ?_) (fun hb1 => ?_)))))
 ·have hb1p := dec_t hb1
  refine sy rfl rfl hb1 (yM rfl rfl (sy rfl rfl hb1 (yM rfl rfl (sy rfl rfl hb1 (yl_leq rfl rfl rfl (sd rfl (yl_pick_t rfl rfl hb1 rfl (sA rfl (dn (CW.ret (rr rfl (.cons rfl .nil) ?_)))))))))))
  have hM2 : (s_l1In p_n p_lo p_hi) = (decide (p_n ≤ p_hi)) := by simp only [s_l1In, hb1, cL]
  rw [hM2]
  exact ⟨rfl, (Ex.refl w)⟩
 ·have hb1p := dec_f hb1
  refine sz rfl rfl hb1 (sz rfl rfl hb1 (sz rfl rfl hb1 (sd rfl (yl_pick_f rfl rfl hb1 rfl (sA rfl (dn (CW.ret (rr rfl (.cons rfl .nil) ?_))))))))
  have hM3 : (s_l1In p_n p_lo p_hi) = (false) := by simp only [s_l1In, hb1, cL]
  rw [hM3]
  exact ⟨rfl, (Ex.refl w)⟩
theorem c_s_l24At {A1 : Option Addr} {c1 : Nat} {w : World} (p_l : List Str) (p_s : Str) (h1 : RdS w (Iv 0 w.heap.size) (RF e_Str) 1 A1 p_l.length c1 p_l) (o2 : (okL okS) p_l) (o3 : okS p_s) : Cal Tryz.prog 103 #[.slice A1 p_l.length c1, .string (bs (p_s))] w fun v w' => v = .int .i64 ((s_l24At p_l p_s)) ∧ Ex w w' := by
 have hol4 := o2.1
 have hol5 : p_s.length ≤ 1073741824 := o3
 refine Cal.of func103 rfl ntmps103 rfl (cR (sA rfl (dn (CW.seq (cR ?_)))))
 refine sM rfl (sd rfl (yL un22 rfl rfl (sM rfl (dn (CW.block (CW.loop (fun m7 L8 w9 => ∃ (k6 : Nat), m7 = p_l.length - k6 ∧ k6 ≤ p_l.length ∧ w.heap.size ≤ w9.heap.size ∧ lkp L8 1 = some (.string (bs (p_s))) ∧ lkp L8 7 = some (.slice A1 p_l.length c1) ∧ lkp L8 8 = some (.int .i64 ((p_l.length : Int))) ∧ lkp L8 9 = some (.int .i64 ((k6 : Int))) ∧ RdS w9 (Iv 0 w.heap.size) (RF e_Str) 1 A1 p_l.length c1 p_l ∧ Ex w w9 ∧ loopM (B_s_l24At_0 p_l p_s) (p_l.length - k6) k6 () = loopM (B_s_l24At_0 p_l p_s) (p_l.length - 0) 0 ()) (p_l.length - 0) ?_ ?_))))))
 ·exact ⟨0, rfl, oM, Nat.le_refl _, rfl, rfl, rfl, rfl, h1, (Ex.refl w), rfl⟩
 ·rintro m10 L11 w12 ⟨k6, rfl, hk13, hsz15, hl16, hl17, hl18, hl19, hf20, hf21, hI14⟩
  refine CW.sub (Sub.cons hl16 (Sub.cons hl17 (Sub.cons hl18 (Sub.cons hl19 (Sub.nil _))))) ?_
  have hf21z := Ex.size hf21
  have hbg22 := RdS.big hf20
  rcases Nat.lt_or_ge k6 p_l.length with hlt23 | hlt23
  ·refine cR (sd rfl (yl_lss rfl rfl rfl (dn (CW.seq (CW.cond_t rfl (lt_t hlt23) (CW.skip (tn ?_)))))))
   refine CW.seq (CW.block (cR (sM rfl ?_)))
   obtain ⟨eb24, eo24, _, eA24, _, ebl24, _, eR24, eC24⟩ := RdS.aD hf20 d_Str (i := k6)
   obtain rfl := eR24
   have eC24 : Cells w12 eb24 (eo24 + k6 * 1) [.string (bs ((p_l.getD k6 d_Str)))] := eC24
   refine sd rfl (yl_ixN un22 ty9 rfl rfl rfl eA24 (sd rfl (yl_load1 ty9 rfl rfl (eC24 0 _ rfl) (sA rfl (sA rfl (dn (cR (sM rfl ?_))))))))
   refine sM rfl (sd rfl (yl_seql (a := (p_l.getD k6 d_Str)) (b := p_s) rfl rfl rfl (dn (bcase ((p_l.getD k6 d_Str) == p_s) (fun hb25 => ?_) (fun hb25 => ?_)))))
   ·refine CW.cond_t rfl hb25 (cR (sM rfl (sA rfl (dn (CW.ret (br ?_))))))
    refine tr (tr ?_)
    have hB27 : B_s_l24At_0 p_l p_s k6 () = .ret (k6 : Int) := by simp only [B_s_l24At_0, hb25, cL]
    have hL26 : loopM (B_s_l24At_0 p_l p_s) (p_l.length - 0) 0 () = .ret (k6 : Int) := hI14.symm.trans (loopM.ret hlt23 hB27)
    refine br (tr (rr rfl (.cons rfl .nil) ?_))
    have hM28 : (s_l24At p_l p_s) = ((k6 : Int)) := by simp only [s_l24At, hb25, hL26, cL]
    rw [hM28]
    exact ⟨rfl, hf21⟩
   ·refine CW.cond_f rfl hb25 (CW.skip (bn (tn (CW.region (sd rfl (yl_inc rfl rfl rfl oM (sM rfl (dn ?_))))))))
    have hB29 : B_s_l24At_0 p_l p_s k6 () = .cont () := by simp only [B_s_l24At_0, hb25, cL]
    exact ⟨p_l.length - (k6 + 1), oM, k6 + 1, rfl, hlt23, oM, rfl, rfl, rfl, rfl, hf20, hf21, (loopM.cont hlt23 hB29).symm.trans hI14⟩
  ·refine cR (sd rfl (yl_lss rfl rfl rfl (dn (CW.seq (CW.cond_f rfl (lt_f hlt23) (CW.exit (tx ?_)))))))
   refine tx ?_
   have hL30 : loopM (B_s_l24At_0 p_l p_s) (p_l.length - 0) 0 () = .done () := hI14.symm.trans (loopM.stop hlt23)
   refine bx (tn (cR (sA rfl (dn (CW.ret (rr rfl (.cons rfl .nil) ?_))))))
   have hM31 : (s_l24At p_l p_s) = (-1) := by simp only [s_l24At, hL30, cL]
   rw [hM31]
   exact ⟨rfl, hf21⟩
theorem c_s_l24Cols {A1 : Option Addr} {c1 : Nat} {w : World} (p_l : List Str) (h1 : RdS w (Iv 0 w.heap.size) (RF e_Str) 1 A1 p_l.length c1 p_l) (o2 : (okL okS) p_l) : Cal Tryz.prog 71 #[.slice A1 p_l.length c1] w fun v w' => v = .bool ((s_l24Cols p_l)) ∧ Ex w w' := by
 have hol3 := o2.1
 refine Cal.of func71 rfl ntmps71 rfl (cR (sA rfl (dn (CW.seq (cR ?_)))))
 refine sM rfl (sd rfl (yL un22 rfl rfl (sM rfl (dn (CW.block (CW.loop (fun m5 L6 w7 => ∃ (k4 : Nat), m5 = p_l.length - k4 ∧ k4 ≤ p_l.length ∧ w.heap.size ≤ w7.heap.size ∧ lkp L6 0 = some (.slice A1 p_l.length c1) ∧ lkp L6 5 = some (.slice A1 p_l.length c1) ∧ lkp L6 6 = some (.int .i64 ((p_l.length : Int))) ∧ lkp L6 7 = some (.int .i64 ((k4 : Int))) ∧ RdS w7 (Iv 0 w.heap.size) (RF e_Str) 1 A1 p_l.length c1 p_l ∧ Ex w w7 ∧ loopM (B_s_l24Cols_0 p_l) (p_l.length - k4) k4 () = loopM (B_s_l24Cols_0 p_l) (p_l.length - 0) 0 ()) (p_l.length - 0) ?_ ?_))))))
 ·exact ⟨0, rfl, oM, Nat.le_refl _, rfl, rfl, rfl, rfl, h1, (Ex.refl w), rfl⟩
 ·rintro m8 L9 w10 ⟨k4, rfl, hk11, hsz13, hl14, hl15, hl16, hl17, hf18, hf19, hI12⟩
  refine CW.sub (Sub.cons hl14 (Sub.cons hl15 (Sub.cons hl16 (Sub.cons hl17 (Sub.nil _))))) ?_
  have hf19z := Ex.size hf19
  have hbg20 := RdS.big hf18
  rcases Nat.lt_or_ge k4 p_l.length with hlt21 | hlt21
  ·refine cR (sd rfl (yl_lss rfl rfl rfl (dn (CW.seq (CW.cond_t rfl (lt_t hlt21) (CW.skip (tn ?_)))))))
   refine CW.seq (CW.block (cR (sM rfl ?_)))
   obtain ⟨eb22, eo22, _, eA22, _, ebl22, _, eR22, eC22⟩ := RdS.aD hf18 d_Str (i := k4)
   obtain rfl := eR22
   have eC22 : Cells w10 eb22 (eo22 + k4 * 1) [.string (bs ((p_l.getD k4 d_Str)))] := eC22
   refine sd rfl (yl_ixN un22 ty9 rfl rfl rfl eA22 (sd rfl (yl_load1 ty9 rfl rfl (eC22 0 _ rfl) (sA rfl (sA rfl (dn (cR (sM rfl ?_))))))))
   refine sd rfl (yC en70 rfl (oc rfl (oc rfl oz)) (Cal.mono (c_s_l24Letters (p_l.getD k4 d_Str) 3 (okL.getD o2 ok_d_Str _)) ?_))
   rintro v24 w23 ⟨rfl, hE25⟩
   have hE25z := Ex.size hE25
   refine sd rfl (yl_not rfl rfl (sM rfl (bcase (s_l24Letters (p_l.getD k4 d_Str) 3) (fun hb26 => ?_) (fun hb26 => ?_))))
   ·refine sy rfl rfl (not_t hb26) (yM rfl rfl (sy rfl rfl (not_t hb26) (yM rfl rfl ?_)))
    have q27 := RdS.ex gS hf18 hE25
    obtain ⟨A28, c29, he32, h31⟩ := RdS.sl (RdS.drop (RdS.take q27 (k := k4) oM) (k := 0) oM)
    have hrc33 := (q27).2.1
    refine sy rfl rfl (not_t hb26) (yl_sliceR (kl := .i64) (l := 0) (h := k4) un22 ty9 rfl rfl (.inl ⟨rfl, rfl⟩) (.inr ⟨_, rfl, rfl⟩) oM oM he32 (sy rfl rfl (not_t hb26) (yM rfl rfl (sy rfl rfl (not_t hb26) (yC en103 rfl (oc rfl (oc rfl oz)) (Cal.mono (c_s_l24At (p_l.take k4) (p_l.getD k4 d_Str) (RdS.up h31 gS) (okL.take o2 _) (okL.getD o2 ok_d_Str _)) ?_))))))
    rintro v35 w34 ⟨rfl, hE36⟩
    have hE36z := Ex.size hE36
    refine sy rfl rfl (not_t hb26) (yl_geq rfl rfl rfl (sd rfl (yl_pick_f rfl rfl (not_t hb26) rfl (dn (bcase (decide (0 ≤ (s_l24At (p_l.take k4) (p_l.getD k4 d_Str)))) (fun hb37 => ?_) (fun hb37 => ?_))))))
    ·have hb37p := dec_t hb37
     refine CW.cond_t rfl hb37 (cR (sA rfl (dn (CW.ret (br (tr ?_))))))
     refine tr ?_
     have hB39 : B_s_l24Cols_0 p_l k4 () = .ret false := by simp only [B_s_l24Cols_0, hb26, hb37, cL]
     have hL38 : loopM (B_s_l24Cols_0 p_l) (p_l.length - 0) 0 () = .ret false := hI12.symm.trans (loopM.ret hlt21 hB39)
     refine br (tr (rr rfl (.cons rfl .nil) ?_))
     have hM40 : (s_l24Cols p_l) = (false) := by simp only [s_l24Cols, hb26, hb37, hL38, cL]
     rw [hM40]
     exact ⟨rfl, (Ex.trans (Ex.trans hf19 hE25) hE36)⟩
    ·have hb37p := dec_f hb37
     refine CW.cond_f rfl hb37 (CW.skip (bn (tn (CW.region (sd rfl (yl_inc rfl rfl rfl oM (sM rfl (dn ?_))))))))
     have hB43 : B_s_l24Cols_0 p_l k4 () = .cont () := by simp only [B_s_l24Cols_0, hb26, hb37, cL]
     exact ⟨p_l.length - (k4 + 1), oM, k4 + 1, rfl, hlt21, oM, rfl, rfl, rfl, rfl, (RdS.ex gS q27 hE36), (Ex.trans (Ex.trans hf19 hE25) hE36), (loopM.cont hlt21 hB43).symm.trans hI12⟩
   ·refine sz rfl rfl (not_f hb26) (sz rfl rfl (not_f hb26) (sz rfl rfl (not_f hb26) (sz rfl rfl (not_f hb26) (sz rfl rfl (not_f hb26) (sz rfl rfl (not_f hb26) (sd rfl (yl_pick_t rfl rfl (not_f hb26) rfl (dn ?_))))))))
    refine CW.cond_t rfl rfl (cR (sA rfl (dn (CW.ret (br (tr ?_))))))
    refine tr ?_
    have hB48 : B_s_l24Cols_0 p_l k4 () = .ret false := by simp only [B_s_l24Cols_0, hb26, cL]
    have hL47 : loopM (B_s_l24Cols_0 p_l) (p_l.length - 0) 0 () = .ret false := hI12.symm.trans (loopM.ret hlt21 hB48)
    refine br (tr (rr rfl (.cons rfl .nil) ?_))
    have hM49 : (s_l24Cols p_l) = (false) := by simp only [s_l24Cols, hb26, hL47, cL]
    rw [hM49]
    exact ⟨rfl, (Ex.trans hf19 hE25)⟩
  ·refine cR (sd rfl (yl_lss rfl rfl rfl (dn (CW.seq (CW.cond_f rfl (lt_f hlt21) (CW.exit (tx ?_)))))))
   refine tx ?_
   have hL51 : loopM (B_s_l24Cols_0 p_l) (p_l.length - 0) 0 () = .done () := hI12.symm.trans (loopM.stop hlt21)
   refine bx (tn (cR (sM rfl (sd rfl (yL un22 rfl rfl (sd rfl (yC en72 rfl (oc rfl (oc rfl (oc rfl oz))) (Cal.mono (c_s_l1In (p_l.length : Int) 2 4) ?_))))))))
   rintro v53 w52 ⟨rfl, hE54⟩
   have hE54z := Ex.size hE54
   refine sA rfl (dn (CW.ret (rr rfl (.cons rfl .nil) ?_)))
   have hM55 : (s_l24Cols p_l) = ((s_l1In (p_l.length : Int) 2 4)) := by simp only [s_l24Cols, hL51, cL]
   rw [hM55]
   exact ⟨rfl, (Ex.trans hf19 hE54)⟩
theorem c_s_GoodTable {A1 : Option Addr} {c1 : Nat} {A2 : Option Addr} {c2 : Nat} {w : World} (p_0 : DTable) (h1 : RdS w (Iv 0 w.heap.size) (RF e_Str) 1 A1 p_0.Cols.length c1 p_0.Cols) (h2 : RdS w (Iv 0 w.heap.size) (RF e_Idx) 3 A2 p_0.Idxs.length c2 p_0.Idxs) (o3 : ok_Table p_0) : Cal Tryz.prog 47 #[.agg #[.string (bs (p_0.Name)), .slice A1 p_0.Cols.length c1, .slice A2 p_0.Idxs.length c2]] w fun v w' => v = .bool ((s_GoodTable p_0)) ∧ Ex w w' := by
 have hol4 : p_0.Name.length ≤ 1073741824 := o3.1
 have hol5 := o3.2.1.1
 have hol6 := o3.2.2.1
 refine Cal.of func47 rfl ntmps47 rfl (cR (sd rfl (yl_box rfl rfl rfl ?_)))
 intro b7 w8 hs9 hz10 hB11 hE12
 refine sA rfl (dn (CW.seq (cR (sd rfl (yl_fieldAddr fd41_0 rfl rfl (sd rfl (yl_load1 ty9 rfl rfl ((hB11.cell 0).trans rfl) (sd rfl (yC en70 rfl (oc rfl (oc rfl oz)) (Cal.mono (c_s_l24Letters p_0.Name 1 o3.1) ?_))))))))))
 rintro v14 w13 ⟨rfl, hE15⟩
 have hE15z := Ex.size hE15
 refine sd rfl (yl_not rfl rfl (sM rfl (bcase (s_l24Letters p_0.Name 1) (fun hb16 => ?_) (fun hb16 => ?_))))
 ·refine sy rfl rfl (not_t hb16) (yl_fieldAddr fd41_1 rfl rfl ?_)
  have q17 := Box.ex hB11 hE15
  refine sy rfl rfl (not_t hb16) (yl_load1 ty22 rfl rfl ((q17.cell 1).trans rfl) ?_)
  have q19 := RdS.ex gS (RdS.ex gS h1 hE12) hE15
  refine sy rfl rfl (not_t hb16) (yC en71 rfl (oc rfl oz) (Cal.mono (c_s_l24Cols p_0.Cols (RdS.up q19 gS) o3.2.1) ?_))
  rintro v21 w20 ⟨rfl, hE22⟩
  have hE22z := Ex.size hE22
  refine sy rfl rfl (not_t hb16) (yl_not rfl rfl (sd rfl (yl_pick_f rfl rfl (not_t hb16) rfl (sM rfl (bcase (s_l24Cols p_0.Cols) (fun hb23 => ?_) (fun hb23 => ?_))))))
  ·refine sy rfl rfl (not_t hb23) (yl_fieldAddr fd41_2 rfl rfl ?_)
   have q24 := Box.ex q17 hE22
   refine sy rfl rfl (not_t hb23) (yl_load1 ty39 rfl rfl ((q24.cell 2).trans rfl) (sy rfl rfl (not_t hb23) (yL un39 rfl rfl (sy rfl rfl (not_t hb23) (yl_gtr rfl rfl rfl (sd rfl (yl_pick_f rfl rfl (not_t hb23) rfl (dn (bcase (decide (3 < (p_0.Idxs.length : Int))) (fun hb25 => ?_) (fun hb25 => ?_))))))))))
   ·have hb25p := dec_t hb25
    refine CW.cond_t rfl hb25 (cR (sA rfl (dn (CW.ret (tr (rr rfl (.cons rfl .nil) ?_))))))
    have hM26 : (s_GoodTable p_0) = (false) := by simp only [s_GoodTable, hb16, hb23, hb25, cL]
    rw [hM26]
    exact ⟨rfl, (Ex.trans (Ex.trans (Ex.trans (Ex.refl w) hE12) hE15) hE22)⟩
   ·have hb25p := dec_f hb25
    refine CW.cond_f rfl hb25 (CW.skip (tn (CW.seq (cR (sd rfl (yl_fieldAddr fd41_2 rfl rfl (sd rfl (yl_load1 ty39 rfl rfl ((q24.cell 2).trans rfl) (sd rfl (yL un39 rfl rfl ?_))))))))))
    refine sM rfl (dn (CW.block (CW.loop (fun m68 L69 w70 => ∃ (k30 : Nat), m68 = p_0.Idxs.length - k30 ∧ k30 ≤ p_0.Idxs.length ∧ w20.heap.size ≤ w70.heap.size ∧ lkp L69 1 = some (.pointer (some ⟨b7, 0, none⟩)) ∧ lkp L69 22 = some (.slice A2 p_0.Idxs.length c2) ∧ lkp L69 23 = some (.int .i64 ((p_0.Idxs.length : Int))) ∧ lkp L69 24 = some (.int .i64 ((k30 : Int))) ∧ Box w70 b7 41 [.string (bs (p_0.Name)), .slice A1 p_0.Cols.length c1, .slice A2 p_0.Idxs.length c2] ∧ RdS w70 (Iv 0 w.heap.size) (RF e_Str) 1 A1 p_0.Cols.length c1 p_0.Cols ∧ RdS w70 (Iv 0 w.heap.size) (RF e_Idx) 3 A2 p_0.Idxs.length c2 p_0.Idxs ∧ Ex w w70 ∧ loopM (B_s_GoodTable_0 p_0) (p_0.Idxs.length - k30) k30 () = loopM (B_s_GoodTable_0 p_0) (p_0.Idxs.length - 0) 0 ()) (p_0.Idxs.length - 0) ?_ ?_)))
    ·exact ⟨0, rfl, oM, Nat.le_refl _, rfl, rfl, rfl, rfl, q24, (RdS.ex gS q19 hE22), (RdS.ex gI (RdS.ex gI (RdS.ex gI h2 hE12) hE15) hE22), (Ex.trans (Ex.trans (Ex.trans (Ex.refl w) hE12) hE15) hE22), rfl⟩
    ·rintro m78 L79 w80 ⟨k30, rfl, hk81, hsz83, hl84, hl85, hl86, hl87, hf88, hf89, hf90, hf91, hI82⟩
     refine CW.sub (Sub.cons hl84 (Sub.cons hl85 (Sub.cons hl86 (Sub.cons hl87 (Sub.nil _))))) ?_
     have hf88z := Box.lt hf88
     have hf91z := Ex.size hf91
     have hbg92 := RdS.big hf90
     rcases Nat.lt_or_ge k30 p_0.Idxs.length with hlt93 | hlt93
     ·refine cR (sd rfl (yl_lss rfl rfl rfl (dn (CW.seq (CW.cond_t rfl (lt_t hlt93) (CW.skip (tn ?_)))))))
      refine CW.seq (CW.block (cR (sM rfl ?_)))
      obtain ⟨eb94, eo94, _, eA94, _, ebl94, _, eR94, eC94⟩ := RdS.aD hf90 d_Idx (i := k30)
      obtain rfl := eR94
      have eC94 : Cells w80 eb94 (eo94 + k30 * 3) [.string (bs ((p_0.Idxs.getD k30 d_Idx).Name)), .int .i64 ((p_0.Idxs.getD k30 d_Idx).Col), .int .i64 ((p_0.Idxs.getD k30 d_Idx).Stage)] := eC94
      refine sd rfl (yl_ixN un39 ty88 rfl rfl rfl eA94 (sd rfl (yl_loadN ty88 rfl rfl eC94 rfl (sd rfl (yB ty88 (cs := [.string (bs (([] : Str))), .int .i64 (0), .int .i64 (0)]) rfl rfl ?_)))))
      intro b95 w96 hs97 hz98 hB99 hE100
      refine sA rfl (SeqR.u rfl rfl (yl_store (vs := [.string (bs ((p_0.Idxs.getD k30 d_Idx).Name)), .int .i64 ((p_0.Idxs.getD k30 d_Idx).Col), .int .i64 ((p_0.Idxs.getD k30 d_Idx).Stage)]) ty88 rfl rfl rfl rfl rfl rfl hB99 (nb rfl) ?_))
      intro w101 hB102 hO103
      have hB102 : Box w101 b95 88 [.string (bs ((p_0.Idxs.getD k30 d_Idx).Name)), .int .i64 ((p_0.Idxs.getD k30 d_Idx).Col), .int .i64 ((p_0.Idxs.getD k30 d_Idx).Stage)] := hB102
      have hO103z := hO103.size
      refine dn (CW.seq (bcase (s_l24Letters ((p_0.Idxs.getD k30 d_Idx).Name) 1) (fun hb105 => ?_) (fun hb105 => ?_)))
      ·refine bcase (s_l1In ((p_0.Idxs.getD k30 d_Idx).Col) 1 (IntKind.wrap .i64 ((p_0.Cols.length : Int) - 1))) (fun hb110 => ?_) (fun hb110 => ?_)
       ·have hb110p := f_l1In hb110
        refine bcase (s_l1In ((p_0.Idxs.getD k30 d_Idx).Stage) 0 3) (fun hb116 => ?_) (fun hb116 => ?_)
        ·have hb116p := f_l1In hb116
         refine bcase (decide (0 < (k30 : Int))) (fun hb122 => ?_) (fun hb122 => ?_)
         ·have hb122p := dec_t hb122
          have q125 := Box.only (Box.ex hf88 hE100) hO103 oM
          have q129 := RdS.only gI (RdS.ex gI hf90 hE100) hO103 (by simp only [Iv]; omega)
          obtain ⟨eb130, eo130, _, eA130, _, ebl130, _, eR130, eC130⟩ := RdS.atD q129 d_Idx (i := (IntKind.wrap .i64 ((k30 : Int) - 1)).toNat) Bo
          obtain rfl := eR130
          have eC130 : Cells w101 eb130 (eo130 + ((IntKind.wrap .i64 ((k30 : Int) - 1)).toNat) * 3) [.string (bs ((p_0.Idxs.getD ((IntKind.wrap .i64 ((k30 : Int) - 1)).toNat) d_Idx).Name)), .int .i64 ((p_0.Idxs.getD ((IntKind.wrap .i64 ((k30 : Int) - 1)).toNat) d_Idx).Col), .int .i64 ((p_0.Idxs.getD ((IntKind.wrap .i64 ((k30 : Int) - 1)).toNat) d_Idx).Stage)] := eC130
          refine drI 36 [.pointer (some ⟨b95, 0 + 0, none⟩), .string (bs ((p_0.Idxs.getD k30 d_Idx).Name)), .bool ((s_l24Letters ((p_0.Idxs.getD k30 d_Idx).Name) 1)), .bool (!(s_l24Letters ((p_0.Idxs.getD k30 d_Idx).Name) 1)), .bool (!(s_l24Letters ((p_0.Idxs.getD k30 d_Idx).Name) 1)), .pointer (some ⟨b95, 0 + 1, none⟩), .int .i64 ((p_0.Idxs.getD k30 d_Idx).Col), .pointer (some ⟨b7, 0 + 1, none⟩), .slice A1 p_0.Cols.length c1, .int .i64 ((p_0.Cols.length : Int)), .int .i64 (IntKind.wrap .i64 ((p_0.Cols.length : Int) - 1)), .bool ((s_l1In ((p_0.Idxs.getD k30 d_Idx).Col) 1 (IntKind.wrap .i64 ((p_0.Cols.length : Int) - 1)))), .bool (!(s_l1In ((p_0.Idxs.getD k30 d_Idx).Col) 1 (IntKind.wrap .i64 ((p_0.Cols.length : Int) - 1)))), .bool (!(s_l1In ((p_0.Idxs.getD k30 d_Idx).Col) 1 (IntKind.wrap .i64 ((p_0.Cols.length : Int) - 1)))), .bool (!(s_l1In ((p_0.Idxs.getD k30 d_Idx).Col) 1 (IntKind.wrap .i64 ((p_0.Cols.length : Int) - 1)))), .pointer (some ⟨b95, 0 + 2, none⟩), .int .i64 ((p_0.Idxs.getD k30 d_Idx).Stage), .bool ((s_l1In ((p_0.Idxs.getD k30 d_Idx).Stage) 0 3)), .bool (!(s_l1In ((p_0.Idxs.getD k30 d_Idx).Stage) 0 3)), .bool (!(s_l1In ((p_0.Idxs.getD k30 d_Idx).Stage) 0 3)), .bool (!(s_l1In ((p_0.Idxs.getD k30 d_Idx).Stage) 0 3)), .int .i64 ((k30 : Int)), .bool (decide (0 < (k30 : Int))), .bool (decide (0 < (k30 : Int))), .pointer (some ⟨b7, 0 + 2, none⟩), .slice A2 p_0.Idxs.length c2, .int .i64 ((k30 : Int)), .int .i64 (IntKind.wrap .i64 ((k30 : Int) - 1)), .pointer (some ⟨eb130, eo130 + ((IntKind.wrap .i64 ((k30 : Int) - 1)).toNat) * 3, none⟩), .pointer (some ⟨eb130, eo130 + ((IntKind.wrap .i64 ((k30 : Int) - 1)).toNat) * 3 + 0, none⟩), .string (bs ((p_0.Idxs.getD ((IntKind.wrap .i64 ((k30 : Int) - 1)).toNat) d_Idx).Name)), .pointer (some ⟨b95, 0 + 0, none⟩), .string (bs ((p_0.Idxs.getD k30 d_Idx).Name)), .bool (!(sLt ((p_0.Idxs.getD ((IntKind.wrap .i64 ((k30 : Int) - 1)).toNat) d_Idx).Name) ((p_0.Idxs.getD k30 d_Idx).Name))), .bool (!(sLt ((p_0.Idxs.getD ((IntKind.wrap .i64 ((k30 : Int) - 1)).toNat) d_Idx).Name) ((p_0.Idxs.getD k30 d_Idx).Name))), .bool (!(sLt ((p_0.Idxs.getD ((IntKind.wrap .i64 ((k30 : Int) - 1)).toNat) d_Idx).Name) ((p_0.Idxs.getD k30 d_Idx).Name)))] Tryz.follows rfl ⟨?_, ?_, ?_, ?_, ?_, ?_, ?_, ?_, ?_, ?_, ?_, ?_, ?_, ?_, ?_, ?_, ?_, ?_, ?_, ?_, ?_, ?_, ?_, ?_, ?_, ?_, ?_, ?_, ?_, ?_, ?_, ?_, ?_, ?_, ?_, ?_, trivial⟩ ?_
          ·exact oI rfl fun h => yl_fieldAddr fd88_0 rfl (h.old 4 _ rfl rfl) kI
          ·exact oI rfl fun h => yl_load1 ty9 rfl (h.dt 0 29 rfl rfl rfl) (((Box.ex hB102 h.ex).cell 0).trans rfl) kI
          ·intro L142 w143 hi144
           exact OpR.op' rfl (yC en70 rfl (oc (hi144.dt 1 30 rfl rfl rfl) (oc rfl oz)) (Cal.mono (c_s_l24Letters ((p_0.Idxs.getD k30 d_Idx).Name) 1 (okL.getD o3.2.2 ok_d_Idx _)) fun _ _ h => h))
          ·exact oI rfl fun h => yl_not rfl (h.dt 2 31 rfl rfl rfl) kI
          ·exact oI rfl fun h => yM rfl (h.dt 3 32 rfl rfl rfl) kI
          ·exact oW rfl rfl rfl rfl (not_t hb105) fun h => yl_fieldAddr fd88_1 rfl (h.old 4 _ rfl rfl) kI
          ·exact oW rfl rfl rfl rfl (not_t hb105) fun h => yl_load1 ty3 rfl (h.dt 5 34 rfl rfl rfl) (((Box.ex hB102 h.ex).cell 1).trans rfl) kI
          ·exact oW rfl rfl rfl rfl (not_t hb105) fun h => yl_fieldAddr fd41_1 rfl (h.old 1 _ rfl rfl) kI
          ·exact oW rfl rfl rfl rfl (not_t hb105) fun h => yl_load1 ty22 rfl (h.dt 7 36 rfl rfl rfl) (((Box.ex q125 h.ex).cell 1).trans rfl) kI
          ·exact oW rfl rfl rfl rfl (not_t hb105) fun h => yL un22 rfl (h.dt 8 37 rfl rfl rfl) kI
          ·exact oW rfl rfl rfl rfl (not_t hb105) fun h => yl_sub rfl (h.dt 9 38 rfl rfl rfl) rfl kI
          ·intro L198 w199 hi200
           exact OpR.want rfl rfl (hi200.dt 4 33 rfl rfl rfl) (not_t hb105) (yC en72 rfl (oc (hi200.dt 6 35 rfl rfl rfl) (oc rfl (oc (hi200.dt 10 39 rfl rfl rfl) oz))) (Cal.mono (c_s_l1In ((p_0.Idxs.getD k30 d_Idx).Col) 1 (IntKind.wrap .i64 ((p_0.Cols.length : Int) - 1))) fun _ _ h => h))
          ·exact oW rfl rfl rfl rfl (not_t hb105) fun h => yl_not rfl (h.dt 11 40 rfl rfl rfl) kI
          ·exact oI rfl fun h => yl_pick_f rfl (h.dt 4 33 rfl rfl rfl) (not_t hb105) (h.dt 12 41 rfl rfl rfl) kI
          ·exact oI rfl fun h => yM rfl (h.dt 13 42 rfl rfl rfl) kI
          ·exact oW rfl rfl rfl rfl (not_t hb110) fun h => yl_fieldAddr fd88_2 rfl (h.old 4 _ rfl rfl) kI
          ·exact oW rfl rfl rfl rfl (not_t hb110) fun h => yl_load1 ty3 rfl (h.dt 15 44 rfl rfl rfl) (((Box.ex hB102 h.ex).cell 2).trans rfl) kI
          ·intro L238 w239 hi240
           exact OpR.want rfl rfl (hi240.dt 14 43 rfl rfl rfl) (not_t hb110) (yC en72 rfl (oc (hi240.dt 16 45 rfl rfl rfl) (oc rfl (oc rfl oz))) (Cal.mono (c_s_l1In ((p_0.Idxs.getD k30 d_Idx).Stage) 0 3) fun _ _ h => h))
          ·exact oW rfl rfl rfl rfl (not_t hb110) fun h => yl_not rfl (h.dt 17 46 rfl rfl rfl) kI
          ·exact oI rfl fun h => yl_pick_f rfl (h.dt 14 43 rfl rfl rfl) (not_t hb110) (h.dt 18 47 rfl rfl rfl) kI
          ·exact oI rfl fun h => yM rfl (h.dt 19 48 rfl rfl rfl) kI
          ·exact oW rfl rfl rfl rfl (not_t hb116) fun h => yM rfl (h.old 3 _ rfl rfl) kI
          ·exact oW rfl rfl rfl rfl (not_t hb116) fun h => yl_gtr rfl (h.dt 21 50 rfl rfl rfl) rfl kI
          ·exact oW rfl rfl rfl rfl (not_t hb116) fun h => yM rfl (h.dt 22 51 rfl rfl rfl) kI
          ·exact oW rfl rfl rfl rfl hb122 fun h => yl_fieldAddr fd41_2 rfl (h.old 1 _ rfl rfl) kI
          ·exact oW rfl rfl rfl rfl hb122 fun h => yl_load1 ty39 rfl (h.dt 24 53 rfl rfl rfl) (((Box.ex q125 h.ex).cell 2).trans rfl) kI
          ·exact oW rfl rfl rfl rfl hb122 fun h => yM rfl (h.old 3 _ rfl rfl) kI
          ·exact oW rfl rfl rfl rfl hb122 fun h => yl_sub rfl (h.dt 26 55 rfl rfl rfl) rfl kI
          ·intro L307 w308 hi309
           have hE310 := hi309.ex
           have hE310z := Ex.size hE310
           exact OpR.want rfl rfl (hi309.dt 23 52 rfl rfl rfl) hb122 (Yl.sameI (yl_indexAddr un39 ty88 rfl (hi309.dt 25 54 rfl rfl rfl) (hi309.dt 27 56 rfl rfl rfl) eA130 Bo Bo kI))
          ·exact oW rfl rfl rfl rfl hb122 fun h => yl_fieldAddr fd88_0 rfl (h.dt 28 57 rfl rfl rfl) kI
          ·exact oW rfl rfl rfl rfl hb122 fun h => yl_load1 ty9 rfl (h.dt 29 58 rfl rfl rfl) ((Cells.ex eC130 h.ex) 0 _ rfl) kI
          ·exact oW rfl rfl rfl rfl hb122 fun h => yl_fieldAddr fd88_0 rfl (h.old 4 _ rfl rfl) kI
          ·exact oW rfl rfl rfl rfl hb122 fun h => yl_load1 ty9 rfl (h.dt 31 60 rfl rfl rfl) (((Box.ex hB102 h.ex).cell 0).trans rfl) kI
          ·exact oW rfl rfl rfl rfl hb122 fun h => yl_sgeq (a := ((p_0.Idxs.getD ((IntKind.wrap .i64 ((k30 : Int) - 1)).toNat) d_Idx).Name)) (b := ((p_0.Idxs.getD k30 d_Idx).Name)) rfl (h.dt 30 59 rfl rfl rfl) (h.dt 32 61 rfl rfl rfl) kI
          ·exact oW rfl rfl rfl rfl (not_t hb116) fun h => yl_pick_t rfl (h.dt 23 52 rfl rfl rfl) hb122 (h.dt 33 62 rfl rfl rfl) kI
          ·exact oI rfl fun h => yl_pick_f rfl (h.dt 20 49 rfl rfl rfl) (not_t hb116) (h.dt 34 63 rfl rfl rfl) kI
          ·intro fl363 fh364 L360 w361 hp362
           have hE365 := hp362.ex
           have hE365z := Ex.size hE365
           refine dn (CW.sub (sC 1 (hp362.old 1 _ rfl rfl) (sC 22 (hp362.old 22 _ rfl rfl) (sC 23 (hp362.old 23 _ rfl rfl) (sC 24 (hp362.old 24 _ rfl rfl) (sC 34 (hp362.nt 5 34 rfl rfl rfl) (sC 35 (hp362.nt 6 35 rfl rfl rfl) (sC 36 (hp362.nt 7 36 rfl rfl rfl) (sC 37 (hp362.nt 8 37 rfl rfl rfl) (sC 38 (hp362.nt 9 38 rfl rfl rfl) (sC 39 (hp362.nt 10 39 rfl rfl rfl) (sC 40 (hp362.nt 11 40 rfl rfl rfl) (sC 41 (hp362.nt 12 41 rfl rfl rfl) (sC 44 (hp362.nt 15 44 rfl rfl rfl) (sC 45 (hp362.nt 16 45 rfl rfl rfl) (sC 46 (hp362.nt 17 46 rfl rfl rfl) (sC 47 (hp362.nt 18 47 rfl rfl rfl) (sC 50 (hp362.nt 21 50 rfl rfl rfl) (sC 51 (hp362.nt 22 51 rfl rfl rfl) (sC 52 (hp362.nt 23 52 rfl rfl rfl) (sC 53 (hp362.nt 24 53 rfl rfl rfl) (sC 54 (hp362.nt 25 54 rfl rfl rfl) (sC 55 (hp362.nt 26 55 rfl rfl rfl) (sC 56 (hp362.nt 27 56 rfl rfl rfl) (sC 57 (hp362.nt 28 57 rfl rfl rfl) (sC 58 (hp362.nt 29 58 rfl rfl rfl) (sC 59 (hp362.nt 30 59 rfl rfl rfl) (sC 60 (hp362.nt 31 60 rfl rfl rfl) (sC 61 (hp362.nt 32 61 rfl rfl rfl) (sC 62 (hp362.nt 33 62 rfl rfl rfl) (sC 63 (hp362.nt 34 63 rfl rfl rfl) (sC 64 (hp362.nt 35 64 rfl rfl rfl) (Sub.nil _)))))))))))))))))))))))))))))))) ?_)
           refine bcase (sLt ((p_0.Idxs.getD ((IntKind.wrap .i64 ((k30 : Int) - 1)).toNat) d_Idx).Name) ((p_0.Idxs.getD k30 d_Idx).Name)) (fun hb397 => ?_) (fun hb397 => ?_)
           ·refine CW.cond_f rfl (not_t hb397) (CW.skip (bn (tn (CW.region (sd rfl (yl_inc rfl rfl rfl oM (sM rfl (dn ?_))))))))
            have hB398 : B_s_GoodTable_0 p_0 k30 () = .cont () := by simp only [B_s_GoodTable_0, hb16, hb23, hb25, hb105, hb110, hb116, hb122, hb397, cL]
            exact ⟨p_0.Idxs.length - (k30 + 1), oM, k30 + 1, rfl, hlt93, oM, rfl, rfl, rfl, rfl, (Box.ex q125 hE365), (RdS.ex gS (RdS.only gS (RdS.ex gS hf89 hE100) hO103 (by simp only [Iv]; omega)) hE365), (RdS.ex gI q129 hE365), (Ex.trans (Below.only (Ex.trans hf91 hE100) hO103 oM) hE365), (loopM.cont hlt93 hB398).symm.trans hI82⟩
           ·refine CW.cond_t rfl (not_f hb397) (cR (sA rfl (dn (CW.ret (br (tr ?_))))))
            refine tr ?_
            have hB408 : B_s_GoodTable_0 p_0 k30 () = .ret false := by simp only [B_s_GoodTable_0, hb16, hb23, hb25, hb105, hb110, hb116, hb122, hb397, cL]
            have hL407 : loopM (B_s_GoodTable_0 p_0) (p_0.Idxs.length - 0) 0 () = .ret false := hI82.symm.trans (loopM.ret hlt93 hB408)
            refine br (tr (rr rfl (.cons rfl .nil) ?_))
            have hM409 : (s_GoodTable p_0) = (false) := by simp only [s_GoodTable, hb16, hb23, hb25, hb105, hb110, hb116, hb122, hb397, hL407, cL]
            rw [hM409]
            exact ⟨rfl, (Ex.trans (Below.only (Ex.trans hf91 hE100) hO103 oM) hE365)⟩
         ·have hb122p := dec_f hb122
          have q415 := Box.only (Box.ex hf88 hE100) hO103 oM
          refine drI 36 [.pointer (some ⟨b95, 0 + 0, none⟩), .string (bs ((p_0.Idxs.getD k30 d_Idx).Name)), .bool ((s_l24Letters ((p_0.Idxs.getD k30 d_Idx).Name) 1)), .bool (!(s_l24Letters ((p_0.Idxs.getD k30 d_Idx).Name) 1)), .bool (!(s_l24Letters ((p_0.Idxs.getD k30 d_Idx).Name) 1)), .pointer (some ⟨b95, 0 + 1, none⟩), .int .i64 ((p_0.Idxs.getD k30 d_Idx).Col), .pointer (some ⟨b7, 0 + 1, none⟩), .slice A1 p_0.Cols.length c1, .int .i64 ((p_0.Cols.length : Int)), .int .i64 (IntKind.wrap .i64 ((p_0.Cols.length : Int) - 1)), .bool ((s_l1In ((p_0.Idxs.getD k30 d_Idx).Col) 1 (IntKind.wrap .i64 ((p_0.Cols.length : Int) - 1)))), .bool (!(s_l1In ((p_0.Idxs.getD k30 d_Idx).Col) 1 (IntKind.wrap .i64 ((p_0.Cols.length : Int) - 1)))), .bool (!(s_l1In ((p_0.Idxs.getD k30 d_Idx).Col) 1 (IntKind.wrap .i64 ((p_0.Cols.length : Int) - 1)))), .bool (!(s_l1In ((p_0.Idxs.getD k30 d_Idx).Col) 1 (IntKind.wrap .i64 ((p_0.Cols.length : Int) - 1)))), .pointer (some ⟨b95, 0 + 2, none⟩), .int .i64 ((p_0.Idxs.getD k30 d_Idx).Stage), .bool ((s_l1In ((p_0.Idxs.getD k30 d_Idx).Stage) 0 3)), .bool (!(s_l1In ((p_0.Idxs.getD k30 d_Idx).Stage) 0 3)), .bool (!(s_l1In ((p_0.Idxs.getD k30 d_Idx).Stage) 0 3)), .bool (!(s_l1In ((p_0.Idxs.getD k30 d_Idx).Stage) 0 3)), .int .i64 ((k30 : Int)), .bool (decide (0 < (k30 : Int))), .bool (decide (0 < (k30 : Int))), undef, undef, undef, undef, undef, undef, undef, undef, undef, undef, .bool (false), .bool (false)] Tryz.follows rfl ⟨?_, ?_, ?_, ?_, ?_, ?_, ?_, ?_, ?_, ?_, ?_, ?_, ?_, ?_, ?_, ?_, ?_, ?_, ?_, ?_, ?_, ?_, ?_, ?_, ?_, ?_, ?_, ?_, ?_, ?_, ?_, ?_, ?_, ?_, ?_, ?_, trivial⟩ ?_
          ·exact oI rfl fun h => yl_fieldAddr fd88_0 rfl (h.old 4 _ rfl rfl) kI
          ·exact oI rfl fun h => yl_load1 ty9 rfl (h.dt 0 29 rfl rfl rfl) (((Box.ex hB102 h.ex).cell 0).trans rfl) kI
          ·intro L429 w430 hi431
           exact OpR.op' rfl (yC en70 rfl (oc (hi431.dt 1 30 rfl rfl rfl) (oc rfl oz)) (Cal.mono (c_s_l24Letters ((p_0.Idxs.getD k30 d_Idx).Name) 1 (okL.getD o3.2.2 ok_d_Idx _)) fun _ _ h => h))
          ·exact oI rfl fun h => yl_not rfl (h.dt 2 31 rfl rfl rfl) kI
          ·exact oI rfl fun h => yM rfl (h.dt 3 32 rfl rfl rfl) kI
          ·exact oW rfl rfl rfl rfl (not_t hb105) fun h => yl_fieldAddr fd88_1 rfl (h.old 4 _ rfl rfl) kI
          ·exact oW rfl rfl rfl rfl (not_t hb105) fun h => yl_load1 ty3 rfl (h.dt 5 34 rfl rfl rfl) (((Box.ex hB102 h.ex).cell 1).trans rfl) kI
          ·exact oW rfl rfl rfl rfl (not_t hb105) fun h => yl_fieldAddr fd41_1 rfl (h.old 1 _ rfl rfl) kI
          ·exact oW rfl rfl rfl rfl (not_t hb105) fun h => yl_load1 ty22 rfl (h.dt 7 36 rfl rfl rfl) (((Box.ex q415 h.ex).cell 1).trans rfl) kI
          ·exact oW rfl rfl rfl rfl (not_t hb105) fun h => yL un22 rfl (h.dt 8 37 rfl rfl rfl) kI
          ·exact oW rfl rfl rfl rfl (not_t hb105) fun h => yl_sub rfl (h.dt 9 38 rfl rfl rfl) rfl kI
          ·intro L485 w486 hi487
           exact OpR.want rfl rfl (hi487.dt 4 33 rfl rfl rfl) (not_t hb105) (yC en72 rfl (oc (hi487.dt 6 35 rfl rfl rfl) (oc rfl (oc (hi487.dt 10 39 rfl rfl rfl) oz))) (Cal.mono (c_s_l1In ((p_0.Idxs.getD k30 d_Idx).Col) 1 (IntKind.wrap .i64 ((p_0.Cols.length : Int) - 1))) fun _ _ h => h))
          ·exact oW rfl rfl rfl rfl (not_t hb105) fun h => yl_not rfl (h.dt 11 40 rfl rfl rfl) kI
          ·exact oI rfl fun h => yl_pick_f rfl (h.dt 4 33 rfl rfl rfl) (not_t hb105) (h.dt 12 41 rfl rfl rfl) kI
          ·exact oI rfl fun h => yM rfl (h.dt 13 42 rfl rfl rfl) kI
          ·exact oW rfl rfl rfl rfl (not_t hb110) fun h => yl_fieldAddr fd88_2 rfl (h.old 4 _ rfl rfl) kI
          ·exact oW rfl rfl rfl rfl (not_t hb110) fun h => yl_load1 ty3 rfl (h.dt 15 44 rfl rfl rfl) (((Box.ex hB102 h.ex).cell 2).trans rfl) kI
          ·intro L525 w526 hi527
           exact OpR.want rfl rfl (hi527.dt 14 43 rfl rfl rfl) (not_t hb110) (yC en72 rfl (oc (hi527.dt 16 45 rfl rfl rfl) (oc rfl (oc rfl oz))) (Cal.mono (c_s_l1In ((p_0.Idxs.getD k30 d_Idx).Stage) 0 3) fun _ _ h => h))
          ·exact oW rfl rfl rfl rfl (not_t hb110) fun h => yl_not rfl (h.dt 17 46 rfl rfl rfl) kI
          ·exact oI rfl fun h => yl_pick_f rfl (h.dt 14 43 rfl rfl rfl) (not_t hb110) (h.dt 18 47 rfl rfl rfl) kI
          ·exact oI rfl fun h => yM rfl (h.dt 19 48 rfl rfl rfl) kI
          ·exact oW rfl rfl rfl rfl (not_t hb116) fun h => yM rfl (h.old 3 _ rfl rfl) kI
          ·exact oW rfl rfl rfl rfl (not_t hb116) fun h => yl_gtr rfl (h.dt 21 50 rfl rfl rfl) rfl kI
          ·exact oW rfl rfl rfl rfl (not_t hb116) fun h => yM rfl (h.dt 22 51 rfl rfl rfl) kI
          ·exact oS rfl rfl rfl rfl rfl hb122
          ·exact oS rfl rfl rfl rfl rfl hb122
          ·exact oS rfl rfl rfl rfl rfl hb122
          ·exact oS rfl rfl rfl rfl rfl hb122
          ·exact oS rfl rfl rfl rfl rfl hb122
          ·exact oS rfl rfl rfl rfl rfl hb122
          ·exact oS rfl rfl rfl rfl rfl hb122
          ·exact oS rfl rfl rfl rfl rfl hb122
          ·exact oS rfl rfl rfl rfl rfl hb122
          ·exact oS rfl rfl rfl rfl rfl hb122
          ·exact oW rfl rfl rfl rfl (not_t hb116) fun h => yl_pick_f rfl (h.dt 23 52 rfl rfl rfl) hb122 rfl kI
          ·exact oI rfl fun h => yl_pick_f rfl (h.dt 20 49 rfl rfl rfl) (not_t hb116) (h.dt 34 63 rfl rfl rfl) kI
          ·intro fl635 fh636 L632 w633 hp634
           have hE637 := hp634.ex
           have hE637z := Ex.size hE637
           refine dn (CW.sub (sC 1 (hp634.old 1 _ rfl rfl) (sC 22 (hp634.old 22 _ rfl rfl) (sC 23 (hp634.old 23 _ rfl rfl) (sC 24 (hp634.old 24 _ rfl rfl) (sC 34 (hp634.nt 5 34 rfl rfl rfl) (sC 35 (hp634.nt 6 35 rfl rfl rfl) (sC 36 (hp634.nt 7 36 rfl rfl rfl) (sC 37 (hp634.nt 8 37 rfl rfl rfl) (sC 38 (hp634.nt 9 38 rfl rfl rfl) (sC 39 (hp634.nt 10 39 rfl rfl rfl) (sC 40 (hp634.nt 11 40 rfl rfl rfl) (sC 41 (hp634.nt 12 41 rfl rfl rfl) (sC 44 (hp634.nt 15 44 rfl rfl rfl) (sC 45 (hp634.nt 16 45 rfl rfl rfl) (sC 46 (hp634.nt 17 46 rfl rfl rfl) (sC 47 (hp634.nt 18 47 rfl rfl rfl) (sC 50 (hp634.nt 21 50 rfl rfl rfl) (sC 51 (hp634.nt 22 51 rfl rfl rfl) (sC 52 (hp634.nt 23 52 rfl rfl rfl) (sC 53 (hp634.nt 24 53 rfl rfl rfl) (sC 54 (hp634.nt 25 54 rfl rfl rfl) (sC 55 (hp634.nt 26 55 rfl rfl rfl) (sC 56 (hp634.nt 27 56 rfl rfl rfl) (sC 57 (hp634.nt 28 57 rfl rfl rfl) (sC 58 (hp634.nt 29 58 rfl rfl rfl) (sC 59 (hp634.nt 30 59 rfl rfl rfl) (sC 60 (hp634.nt 31 60 rfl rfl rfl) (sC 61 (hp634.nt 32 61 rfl rfl rfl) (sC 62 (hp634.nt 33 62 rfl rfl rfl) (sC 63 (hp634.nt 34 63 rfl rfl rfl) (sC 64 (hp634.nt 35 64 rfl rfl rfl) (Sub.nil _)))))))))))))))))))))))))))))))) ?_)
           refine CW.cond_f rfl rfl (CW.skip (bn (tn (CW.region (sd rfl (yl_inc rfl rfl rfl oM (sM rfl (dn ?_))))))))
           have hB669 : B_s_GoodTable_0 p_0 k30 () = .cont () := by simp only [B_s_GoodTable_0, hb16, hb23, hb25, hb105, hb110, hb116, hb122, cL]
           exact ⟨p_0.Idxs.length - (k30 + 1), oM, k30 + 1, rfl, hlt93, oM, rfl, rfl, rfl, rfl, (Box.ex q415 hE637), (RdS.ex gS (RdS.only gS (RdS.ex gS hf89 hE100) hO103 (by simp only [Iv]; omega)) hE637), (RdS.ex gI (RdS.only gI (RdS.ex gI hf90 hE100) hO103 (by simp only [Iv]; omega)) hE637), (Ex.trans (Below.only (Ex.trans hf91 hE100) hO103 oM) hE637), (loopM.cont hlt93 hB669).symm.trans hI82⟩
        ·refine drI 36 [.pointer (some ⟨b95, 0 + 0, none⟩), .string (bs ((p_0.Idxs.getD k30 d_Idx).Name)), .bool ((s_l24Letters ((p_0.Idxs.getD k30 d_Idx).Name) 1)), .bool (!(s_l24Letters ((p_0.Idxs.getD k30 d_Idx).Name) 1)), .bool (!(s_l24Letters ((p_0.Idxs.getD k30 d_Idx).Name) 1)), .pointer (some ⟨b95, 0 + 1, none⟩), .int .i64 ((p_0.Idxs.getD k30 d_Idx).Col), .pointer (some ⟨b7, 0 + 1, none⟩), .slice A1 p_0.Cols.length c1, .int .i64 ((p_0.Cols.length : Int)), .int .i64 (IntKind.wrap .i64 ((p_0.Cols.length : Int) - 1)), .bool ((s_l1In ((p_0.Idxs.getD k30 d_Idx).Col) 1 (IntKind.wrap .i64 ((p_0.Cols.length : Int) - 1)))), .bool (!(s_l1In ((p_0.Idxs.getD k30 d_Idx).Col) 1 (IntKind.wrap .i64 ((p_0.Cols.length : Int) - 1)))), .bool (!(s_l1In ((p_0.Idxs.getD k30 d_Idx).Col) 1 (IntKind.wrap .i64 ((p_0.Cols.length : Int) - 1)))), .bool (!(s_l1In ((p_0.Idxs.getD k30 d_Idx).Col) 1 (IntKind.wrap .i64 ((p_0.Cols.length : Int) - 1)))), .pointer (some ⟨b95, 0 + 2, none⟩), .int .i64 ((p_0.Idxs.getD k30 d_Idx).Stage), .bool ((s_l1In ((p_0.Idxs.getD k30 d_Idx).Stage) 0 3)), .bool (!(s_l1In ((p_0.Idxs.getD k30 d_Idx).Stage) 0 3)), .bool (!(s_l1In ((p_0.Idxs.getD k30 d_Idx).Stage) 0 3)), .bool (!(s_l1In ((p_0.Idxs.getD k30 d_Idx).Stage) 0 3)), undef, undef, undef, undef, undef, undef, undef, undef, undef, undef, undef, undef, undef, undef, .bool (true)] Tryz.follows rfl ⟨?_, ?_, ?_, ?_, ?_, ?_, ?_, ?_, ?_, ?_, ?_, ?_, ?_, ?_, ?_, ?_, ?_, ?_, ?_, ?_, ?_, ?_, ?_, ?_, ?_, ?_, ?_, ?_, ?_, ?_, ?_, ?_, ?_, ?_, ?_, ?_, trivial⟩ ?_
         ·exact oI rfl fun h => yl_fieldAddr fd88_0 rfl (h.old 4 _ rfl rfl) kI
         ·exact oI rfl fun h => yl_load1 ty9 rfl (h.dt 0 29 rfl rfl rfl) (((Box.ex hB102 h.ex).cell 0).trans rfl) kI
         ·intro L696 w697 hi698
          exact OpR.op' rfl (yC en70 rfl (oc (hi698.dt 1 30 rfl rfl rfl) (oc rfl oz)) (Cal.mono (c_s_l24Letters ((p_0.Idxs.getD k30 d_Idx).Name) 1 (okL.getD o3.2.2 ok_d_Idx _)) fun _ _ h => h))
         ·exact oI rfl fun h => yl_not rfl (h.dt 2 31 rfl rfl rfl) kI
         ·exact oI rfl fun h => yM rfl (h.dt 3 32 rfl rfl rfl) kI
         ·exact oW rfl rfl rfl rfl (not_t hb105) fun h => yl_fieldAddr fd88_1 rfl (h.old 4 _ rfl rfl) kI
         ·exact oW rfl rfl rfl rfl (not_t hb105) fun h => yl_load1 ty3 rfl (h.dt 5 34 rfl rfl rfl) (((Box.ex hB102 h.ex).cell 1).trans rfl) kI
         ·exact oW rfl rfl rfl rfl (not_t hb105) fun h => yl_fieldAddr fd41_1 rfl (h.old 1 _ rfl rfl) kI
         ·intro L733 w734 hi735
          have hE736 := hi735.ex
          have hE736z := Ex.size hE736
          exact OpR.want rfl rfl (hi735.dt 4 33 rfl rfl rfl) (not_t hb105) (Yl.sameI (yl_load1 ty22 rfl (hi735.dt 7 36 rfl rfl rfl) (((Box.ex (Box.only (Box.ex hf88 hE100) hO103 oM) hE736).cell 1).trans rfl) kI))
         ·exact oW rfl rfl rfl rfl (not_t hb105) fun h => yL un22 rfl (h.dt 8 37 rfl rfl rfl) kI
         ·exact oW rfl rfl rfl rfl (not_t hb105) fun h => yl_sub rfl (h.dt 9 38 rfl rfl rfl) rfl kI
         ·intro L752 w753 hi754
          exact OpR.want rfl rfl (hi754.dt 4 33 rfl rfl rfl) (not_t hb105) (yC en72 rfl (oc (hi754.dt 6 35 rfl rfl rfl) (oc rfl (oc (hi754.dt 10 39 rfl rfl rfl) oz))) (Cal.mono (c_s_l1In ((p_0.Idxs.getD k30 d_Idx).Col) 1 (IntKind.wrap .i64 ((p_0.Cols.length : Int) - 1))) fun _ _ h => h))
         ·exact oW rfl rfl rfl rfl (not_t hb105) fun h => yl_not rfl (h.dt 11 40 rfl rfl rfl) kI
         ·exact oI rfl fun h => yl_pick_f rfl (h.dt 4 33 rfl rfl rfl) (not_t hb105) (h.dt 12 41 rfl rfl rfl) kI
         ·exact oI rfl fun h => yM rfl (h.dt 13 42 rfl rfl rfl) kI
         ·exact oW rfl rfl rfl rfl (not_t hb110) fun h => yl_fieldAddr fd88_2 rfl (h.old 4 _ rfl rfl) kI
         ·exact oW rfl rfl rfl rfl (not_t hb110) fun h => yl_load1 ty3 rfl (h.dt 15 44 rfl rfl rfl) (((Box.ex hB102 h.ex).cell 2).trans rfl) kI
         ·intro L792 w793 hi794
          exact OpR.want rfl rfl (hi794.dt 14 43 rfl rfl rfl) (not_t hb110) (yC en72 rfl (oc (hi794.dt 16 45 rfl rfl rfl) (oc rfl (oc rfl oz))) (Cal.mono (c_s_l1In ((p_0.Idxs.getD k30 d_Idx).Stage) 0 3) fun _ _ h => h))
         ·exact oW rfl rfl rfl rfl (not_t hb110) fun h => yl_not rfl (h.dt 17 46 rfl rfl rfl) kI
         ·exact oI rfl fun h => yl_pick_f rfl (h.dt 14 43 rfl rfl rfl) (not_t hb110) (h.dt 18 47 rfl rfl rfl) kI
         ·exact oI rfl fun h => yM rfl (h.dt 19 48 rfl rfl rfl) kI
         ·exact oS rfl rfl rfl rfl rfl (not_f hb116)
         ·exact oS rfl rfl rfl rfl rfl (not_f hb116)
         ·exact oS rfl rfl rfl rfl rfl (not_f hb116)
         ·exact oU rfl rfl rfl rfl rfl
         ·exact oU rfl rfl rfl rfl rfl
         ·exact oU rfl rfl rfl rfl rfl
         ·exact oU rfl rfl rfl rfl rfl
         ·exact oU rfl rfl rfl rfl rfl
         ·exact oU rfl rfl rfl rfl rfl
         ·exact oU rfl rfl rfl rfl rfl
         ·exact oU rfl rfl rfl rfl rfl
         ·exact oU rfl rfl rfl rfl rfl
         ·exact oU rfl rfl rfl rfl rfl
         ·exact oS rfl rfl rfl rfl rfl (not_f hb116)
         ·exact oI rfl fun h => yl_pick_t rfl (h.dt 20 49 rfl rfl rfl) (not_f hb116) rfl kI
         ·intro fl897 fh898 L894 w895 hp896
          have hE899 := hp896.ex
          have hE899z := Ex.size hE899
          refine dn (CW.sub (sC 1 (hp896.old 1 _ rfl rfl) (sC 22 (hp896.old 22 _ rfl rfl) (sC 23 (hp896.old 23 _ rfl rfl) (sC 24 (hp896.old 24 _ rfl rfl) (sC 34 (hp896.nt 5 34 rfl rfl rfl) (sC 35 (hp896.nt 6 35 rfl rfl rfl) (sC 36 (hp896.nt 7 36 rfl rfl rfl) (sC 37 (hp896.nt 8 37 rfl rfl rfl) (sC 38 (hp896.nt 9 38 rfl rfl rfl) (sC 39 (hp896.nt 10 39 rfl rfl rfl) (sC 40 (hp896.nt 11 40 rfl rfl rfl) (sC 41 (hp896.nt 12 41 rfl rfl rfl) (sC 44 (hp896.nt 15 44 rfl rfl rfl) (sC 45 (hp896.nt 16 45 rfl rfl rfl) (sC 46 (hp896.nt 17 46 rfl rfl rfl) (sC 47 (hp896.nt 18 47 rfl rfl rfl) (sC 50 (hp896.nt 21 50 rfl rfl rfl) (sC 51 (hp896.nt 22 51 rfl rfl rfl) (sC 52 (hp896.nt 23 52 rfl rfl rfl) (sC 53 (hp896.nt 24 53 rfl rfl rfl) (sC 54 (hp896.nt 25 54 rfl rfl rfl) (sC 55 (hp896.nt 26 55 rfl rfl rfl) (sC 56 (hp896.nt 27 56 rfl rfl rfl) (sC 57 (hp896.nt 28 57 rfl rfl rfl) (sC 58 (hp896.nt 29 58 rfl rfl rfl) (sC 59 (hp896.nt 30 59 rfl rfl rfl) (sC 60 (hp896.nt 31 60 rfl rfl rfl) (sC 61 (hp896.nt 32 61 rfl rfl rfl) (sC 62 (hp896.nt 33 62 rfl rfl rfl) (sC 63 (hp896.nt 34 63 rfl rfl rfl) (sC 64 (hp896.nt 35 64 rfl rfl rfl) (Sub.nil _)))))))))))))))))))))))))))))))) ?_)
          refine CW.cond_t rfl rfl (cR (sA rfl (dn (CW.ret (br (tr ?_))))))
          refine tr ?_
          have hB932 : B_s_GoodTable_0 p_0 k30 () = .ret false := by simp only [B_s_GoodTable_0, hb16, hb23, hb25, hb105, hb110, hb116, cL]
          have hL931 : loopM (B_s_GoodTable_0 p_0) (p_0.Idxs.length - 0) 0 () = .ret false := hI82.symm.trans (loopM.ret hlt93 hB932)
          refine br (tr (rr rfl (.cons rfl .nil) ?_))
          have hM933 : (s_GoodTable p_0) = (false) := by simp only [s_GoodTable, hb16, hb23, hb25, hb105, hb110, hb116, hL931, cL]
          rw [hM933]
          exact ⟨rfl, (Ex.trans (Below.only (Ex.trans hf91 hE100) hO103 oM) hE899)⟩
       ·refine drI 36 [.pointer (some ⟨b95, 0 + 0, none⟩), .string (bs ((p_0.Idxs.getD k30 d_Idx).Name)), .bool ((s_l24Letters ((p_0.Idxs.getD k30 d_Idx).Name) 1)), .bool (!(s_l24Letters ((p_0.Idxs.getD k30 d_Idx).Name) 1)), .bool (!(s_l24Letters ((p_0.Idxs.getD k30 d_Idx).Name) 1)), .pointer (some ⟨b95, 0 + 1, none⟩), .int .i64 ((p_0.Idxs.getD k30 d_Idx).Col), .pointer (some ⟨b7, 0 + 1, none⟩), .slice A1 p_0.Cols.length c1, .int .i64 ((p_0.Cols.length : Int)), .int .i64 (IntKind.wrap .i64 ((p_0.Cols.length : Int) - 1)), .bool ((s_l1In ((p_0.Idxs.getD k30 d_Idx).Col) 1 (IntKind.wrap .i64 ((p_0.Cols.length : Int) - 1)))), .bool (!(s_l1In ((p_0.Idxs.getD k30 d_Idx).Col) 1 (IntKind.wrap .i64 ((p_0.Cols.length : Int) - 1)))), .bool (!(s_l1In ((p_0.Idxs.getD k30 d_Idx).Col) 1 (IntKind.wrap .i64 ((p_0.Cols.length : Int) - 1)))), .bool (!(s_l1In ((p_0.Idxs.getD k30 d_Idx).Col) 1 (IntKind.wrap .i64 ((p_0.Cols.length : Int) - 1)))), undef, undef, undef, undef, .bool (true), .bool (true), undef, undef, undef, undef, undef, undef, undef, undef, undef, undef, undef, undef, undef, undef, .bool (true)] Tryz.follows rfl ⟨?_, ?_, ?_, ?_, ?_, ?_, ?_, ?_, ?_, ?_, ?_, ?_, ?_, ?_, ?_, ?_, ?_, ?_, ?_, ?_, ?_, ?_, ?_, ?_, ?_, ?_, ?_, ?_, ?_, ?_, ?_, ?_, ?_, ?_, ?_, ?_, trivial⟩ ?_
        ·exact oI rfl fun h => yl_fieldAddr fd88_0 rfl (h.old 4 _ rfl rfl) kI
        ·exact oI rfl fun h => yl_load1 ty9 rfl (h.dt 0 29 rfl rfl rfl) (((Box.ex hB102 h.ex).cell 0).trans rfl) kI
        ·intro L952 w953 hi954
         exact OpR.op' rfl (yC en70 rfl (oc (hi954.dt 1 30 rfl rfl rfl) (oc rfl oz)) (Cal.mono (c_s_l24Letters ((p_0.Idxs.getD k30 d_Idx).Name) 1 (okL.getD o3.2.2 ok_d_Idx _)) fun _ _ h => h))
        ·exact oI rfl fun h => yl_not rfl (h.dt 2 31 rfl rfl rfl) kI
        ·exact oI rfl fun h => yM rfl (h.dt 3 32 rfl rfl rfl) kI
        ·exact oW rfl rfl rfl rfl (not_t hb105) fun h => yl_fieldAddr fd88_1 rfl (h.old 4 _ rfl rfl) kI
        ·exact oW rfl rfl rfl rfl (not_t hb105) fun h => yl_load1 ty3 rfl (h.dt 5 34 rfl rfl rfl) (((Box.ex hB102 h.ex).cell 1).trans rfl) kI
        ·exact oW rfl rfl rfl rfl (not_t hb105) fun h => yl_fieldAddr fd41_1 rfl (h.old 1 _ rfl rfl) kI
        ·intro L989 w990 hi991
         have hE992 := hi991.ex
         have hE992z := Ex.size hE992
         exact OpR.want rfl rfl (hi991.dt 4 33 rfl rfl rfl) (not_t hb105) (Yl.sameI (yl_load1 ty22 rfl (hi991.dt 7 36 rfl rfl rfl) (((Box.ex (Box.only (Box.ex hf88 hE100) hO103 oM) hE992).cell 1).trans rfl) kI))
        ·exact oW rfl rfl rfl rfl (not_t hb105) fun h => yL un22 rfl (h.dt 8 37 rfl rfl rfl) kI
        ·exact oW rfl rfl rfl rfl (not_t hb105) fun h => yl_sub rfl (h.dt 9 38 rfl rfl rfl) rfl kI
        ·intro L1008 w1009 hi1010
         exact OpR.want rfl rfl (hi1010.dt 4 33 rfl rfl rfl) (not_t hb105) (yC en72 rfl (oc (hi1010.dt 6 35 rfl rfl rfl) (oc rfl (oc (hi1010.dt 10 39 rfl rfl rfl) oz))) (Cal.mono (c_s_l1In ((p_0.Idxs.getD k30 d_Idx).Col) 1 (IntKind.wrap .i64 ((p_0.Cols.length : Int) - 1))) fun _ _ h => h))
        ·exact oW rfl rfl rfl rfl (not_t hb105) fun h => yl_not rfl (h.dt 11 40 rfl rfl rfl) kI
        ·exact oI rfl fun h => yl_pick_f rfl (h.dt 4 33 rfl rfl rfl) (not_t hb105) (h.dt 12 41 rfl rfl rfl) kI
        ·exact oI rfl fun h => yM rfl (h.dt 13 42 rfl rfl rfl) kI
        ·exact oS rfl rfl rfl rfl rfl (not_f hb110)
        ·exact oS rfl rfl rfl rfl rfl (not_f hb110)
        ·exact oS rfl rfl rfl rfl rfl (not_f hb110)
        ·exact oS rfl rfl rfl rfl rfl (not_f hb110)
        ·exact oI rfl fun h => yl_pick_t rfl (h.dt 14 43 rfl rfl rfl) (not_f hb110) rfl kI
        ·exact oI rfl fun h => yM rfl (h.dt 19 48 rfl rfl rfl) kI
        ·exact oS rfl rfl rfl rfl rfl rfl
        ·exact oS rfl rfl rfl rfl rfl rfl
        ·exact oS rfl rfl rfl rfl rfl rfl
        ·exact oU rfl rfl rfl rfl rfl
        ·exact oU rfl rfl rfl rfl rfl
        ·exact oU rfl rfl rfl rfl rfl
        ·exact oU rfl rfl rfl rfl rfl
        ·exact oU rfl rfl rfl rfl rfl
        ·exact oU rfl rfl rfl rfl rfl
        ·exact oU rfl rfl rfl rfl rfl
        ·exact oU rfl rfl rfl rfl rfl
        ·exact oU rfl rfl rfl rfl rfl
        ·exact oU rfl rfl rfl rfl rfl
        ·exact oS rfl rfl rfl rfl rfl rfl
        ·exact oI rfl fun h => yl_pick_t rfl (h.dt 20 49 rfl rfl rfl) rfl rfl kI
        ·intro fl1145 fh1146 L1142 w1143 hp1144
         have hE1147 := hp1144.ex
         have hE1147z := Ex.size hE1147
         refine dn (CW.sub (sC 1 (hp1144.old 1 _ rfl rfl) (sC 22 (hp1144.old 22 _ rfl rfl) (sC 23 (hp1144.old 23 _ rfl rfl) (sC 24 (hp1144.old 24 _ rfl rfl) (sC 34 (hp1144.nt 5 34 rfl rfl rfl) (sC 35 (hp1144.nt 6 35 rfl rfl rfl) (sC 36 (hp1144.nt 7 36 rfl rfl rfl) (sC 37 (hp1144.nt 8 37 rfl rfl rfl) (sC 38 (hp1144.nt 9 38 rfl rfl rfl) (sC 39 (hp1144.nt 10 39 rfl rfl rfl) (sC 40 (hp1144.nt 11 40 rfl rfl rfl) (sC 41 (hp1144.nt 12 41 rfl rfl rfl) (sC 44 (hp1144.nt 15 44 rfl rfl rfl) (sC 45 (hp1144.nt 16 45 rfl rfl rfl) (sC 46 (hp1144.nt 17 46 rfl rfl rfl) (sC 47 (hp1144.nt 18 47 rfl rfl rfl) (sC 50 (hp1144.nt 21 50 rfl rfl rfl) (sC 51 (hp1144.nt 22 51 rfl rfl rfl) (sC 52 (hp1144.nt 23 52 rfl rfl rfl) (sC 53 (hp1144.nt 24 53 rfl rfl rfl) (sC 54 (hp1144.nt 25 54 rfl rfl rfl) (sC 55 (hp1144.nt 26 55 rfl rfl rfl) (sC 56 (hp1144.nt 27 56 rfl rfl rfl) (sC 57 (hp1144.nt 28 57 rfl rfl rfl) (sC 58 (hp1144.nt 29 58 rfl rfl rfl) (sC 59 (hp1144.nt 30 59 rfl rfl rfl) (sC 60 (hp1144.nt 31 60 rfl rfl rfl) (sC 61 (hp1144.nt 32 61 rfl rfl rfl) (sC 62 (hp1144.nt 33 62 rfl rfl rfl) (sC 63 (hp1144.nt 34 63 rfl rfl rfl) (sC 64 (hp1144.nt 35 64 rfl rfl rfl) (Sub.nil _)))))))))))))))))))))))))))))))) ?_)
         refine CW.cond_t rfl rfl (cR (sA rfl (dn (CW.ret (br (tr ?_))))))
         refine tr ?_
         have hB1180 : B_s_GoodTable_0 p_0 k30 () = .ret false := by simp only [B_s_GoodTable_0, hb16, hb23, hb25, hb105, hb110, cL]
         have hL1179 : loopM (B_s_GoodTable_0 p_0) (p_0.Idxs.length - 0) 0 () = .ret false := hI82.symm.trans (loopM.ret hlt93 hB1180)
         refine br (tr (rr rfl (.cons rfl .nil) ?_))
         have hM1181 : (s_GoodTable p_0) = (false) := by simp only [s_GoodTable, hb16, hb23, hb25, hb105, hb110, hL1179, cL]
         rw [hM1181]
         exact ⟨rfl, (Ex.trans (Below.only (Ex.trans hf91 hE100) hO103 oM) hE1147)⟩
      ·refine drI 36 [.pointer (some ⟨b95, 0 + 0, none⟩), .string (bs ((p_0.Idxs.getD k30 d_Idx).Name)), .bool ((s_l24Letters ((p_0.Idxs.getD k30 d_Idx).Name) 1)), .bool (!(s_l24Letters ((p_0.Idxs.getD k30 d_Idx).Name) 1)), .bool (!(s_l24Letters ((p_0.Idxs.getD k30 d_Idx).Name) 1)), undef, undef, undef, undef, undef, undef, undef, undef, .bool (true), .bool (true), undef, undef, undef, undef, .bool (true), .bool (true), undef, undef, undef, undef, undef, undef, undef, undef, undef, undef, undef, undef, undef, undef, .bool (true)] Tryz.follows rfl ⟨?_, ?_, ?_, ?_, ?_, ?_, ?_, ?_, ?_, ?_, ?_, ?_, ?_, ?_, ?_, ?_, ?_, ?_, ?_, ?_, ?_, ?_, ?_, ?_, ?_, ?_, ?_, ?_, ?_, ?_, ?_, ?_, ?_, ?_, ?_, ?_, trivial⟩ ?_
       ·exact oI rfl fun h => yl_fieldAddr fd88_0 rfl (h.old 4 _ rfl rfl) kI
       ·exact oI rfl fun h => yl_load1 ty9 rfl (h.dt 0 29 rfl rfl rfl) (((Box.ex hB102 h.ex).cell 0).trans rfl) kI
       ·intro L1197 w1198 hi1199
        exact OpR.op' rfl (yC en70 rfl (oc (hi1199.dt 1 30 rfl rfl rfl) (oc rfl oz)) (Cal.mono (c_s_l24Letters ((p_0.Idxs.getD k30 d_Idx).Name) 1 (okL.getD o3.2.2 ok_d_Idx _)) fun _ _ h => h))
       ·exact oI rfl fun h => yl_not rfl (h.dt 2 31 rfl rfl rfl) kI
       ·exact oI rfl fun h => yM rfl (h.dt 3 32 rfl rfl rfl) kI
       ·exact oS rfl rfl rfl rfl rfl (not_f hb105)
       ·exact oS rfl rfl rfl rfl rfl (not_f hb105)
       ·exact oS rfl rfl rfl rfl rfl (not_f hb105)
       ·exact oS rfl rfl rfl rfl rfl (not_f hb105)
       ·exact oS rfl rfl rfl rfl rfl (not_f hb105)
       ·exact oS rfl rfl rfl rfl rfl (not_f hb105)
       ·exact oS rfl rfl rfl rfl rfl (not_f hb105)
       ·exact oS rfl rfl rfl rfl rfl (not_f hb105)
       ·exact oI rfl fun h => yl_pick_t rfl (h.dt 4 33 rfl rfl rfl) (not_f hb105) rfl kI
       ·exact oI rfl fun h => yM rfl (h.dt 13 42 rfl rfl rfl) kI
       ·exact oS rfl rfl rfl rfl rfl rfl
       ·exact oS rfl rfl rfl rfl rfl rfl
       ·exact oS rfl rfl rfl rfl rfl rfl
       ·exact oS rfl rfl rfl rfl rfl rfl
       ·exact oI rfl fun h => yl_pick_t rfl (h.dt 14 43 rfl rfl rfl) rfl rfl kI
       ·exact oI rfl fun h => yM rfl (h.dt 19 48 rfl rfl rfl) kI
       ·exact oS rfl rfl rfl rfl rfl rfl
       ·exact oS rfl rfl rfl rfl rfl rfl
       ·exact oS rfl rfl rfl rfl rfl rfl
       ·exact oU rfl rfl rfl rfl rfl
       ·exact oU rfl rfl rfl rfl rfl
       ·exact oU rfl rfl rfl rfl rfl
       ·exact oU rfl rfl rfl rfl rfl
       ·exact oU rfl rfl rfl rfl rfl
       ·exact oU rfl rfl rfl rfl rfl
       ·exact oU rfl rfl rfl rfl rfl
       ·exact oU rfl rfl rfl rfl rfl
       ·exact oU rfl rfl rfl rfl rfl
       ·exact oU rfl rfl rfl rfl rfl
       ·exact oS rfl rfl rfl rfl rfl rfl
       ·exact oI rfl fun h => yl_pick_t rfl (h.dt 20 49 rfl rfl rfl) rfl rfl kI
       ·intro fl1376 fh1377 L1373 w1374 hp1375
        have hE1378 := hp1375.ex
        have hE1378z := Ex.size hE1378
        refine dn (CW.sub (sC 1 (hp1375.old 1 _ rfl rfl) (sC 22 (hp1375.old 22 _ rfl rfl) (sC 23 (hp1375.old 23 _ rfl rfl) (sC 24 (hp1375.old 24 _ rfl rfl) (sC 34 (hp1375.nt 5 34 rfl rfl rfl) (sC 35 (hp1375.nt 6 35 rfl rfl rfl) (sC 36 (hp1375.nt 7 36 rfl rfl rfl) (sC 37 (hp1375.nt 8 37 rfl rfl rfl) (sC 38 (hp1375.nt 9 38 rfl rfl rfl) (sC 39 (hp1375.nt 10 39 rfl rfl rfl) (sC 40 (hp1375.nt 11 40 rfl rfl rfl) (sC 41 (hp1375.nt 12 41 rfl rfl rfl) (sC 44 (hp1375.nt 15 44 rfl rfl rfl) (sC 45 (hp1375.nt 16 45 rfl rfl rfl) (sC 46 (hp1375.nt 17 46 rfl rfl rfl) (sC 47 (hp1375.nt 18 47 rfl rfl rfl) (sC 50 (hp1375.nt 21 50 rfl rfl rfl) (sC 51 (hp1375.nt 22 51 rfl rfl rfl) (sC 52 (hp1375.nt 23 52 rfl rfl rfl) (sC 53 (hp1375.nt 24 53 rfl rfl rfl) (sC 54 (hp1375.nt 25 54 rfl rfl rfl) (sC 55 (hp1375.nt 26 55 rfl rfl rfl) (sC 56 (hp1375.nt 27 56 rfl rfl rfl) (sC 57 (hp1375.nt 28 57 rfl rfl rfl) (sC 58 (hp1375.nt 29 58 rfl rfl rfl) (sC 59 (hp1375.nt 30 59 rfl rfl rfl) (sC 60 (hp1375.nt 31 60 rfl rfl rfl) (sC 61 (hp1375.nt 32 61 rfl rfl rfl) (sC 62 (hp1375.nt 33 62 rfl rfl rfl) (sC 63 (hp1375.nt 34 63 rfl rfl rfl) (sC 64 (hp1375.nt 35 64 rfl rfl rfl) (Sub.nil _)))))))))))))))))))))))))))))))) ?_)
        refine CW.cond_t rfl rfl (cR (sA rfl (dn (CW.ret (br (tr ?_))))))
        refine tr ?_
        have hB1411 : B_s_GoodTable_0 p_0 k30 () = .ret false := by simp only [B_s_GoodTable_0, hb16, hb23, hb25, hb105, cL]
        have hL1410 : loopM (B_s_GoodTable_0 p_0) (p_0.Idxs.length - 0) 0 () = .ret false := hI82.symm.trans (loopM.ret hlt93 hB1411)
        refine br (tr (rr rfl (.cons rfl .nil) ?_))
        have hM1412 : (s_GoodTable p_0) = (false) := by simp only [s_GoodTable, hb16, hb23, hb25, hb105, hL1410, cL]
        rw [hM1412]
        exact ⟨rfl, (Ex.trans (Below.only (Ex.trans hf91 hE100) hO103 oM) hE1378)⟩
     ·refine cR (sd rfl (yl_lss rfl rfl rfl (dn (CW.seq (CW.cond_f rfl (lt_f hlt93) (CW.exit (tx ?_)))))))
      refine tx ?_
      have hL1416 : loopM (B_s_GoodTable_0 p_0) (p_0.Idxs.length - 0) 0 () = .done () := hI82.symm.trans (loopM.stop hlt93)
      refine bx (tn (cR (sA rfl (dn (CW.ret (rr rfl (.cons rfl .nil) ?_))))))
      have hM1417 : (s_GoodTable p_0) = (true) := by simp only [s_GoodTable, hb16, hb23, hb25, hL1416, cL]
      rw [hM1417]
      exact ⟨rfl, hf91⟩
  ·refine sz rfl rfl (not_f hb23) (sz rfl rfl (not_f hb23) (sz rfl rfl (not_f hb23) (sz rfl rfl (not_f hb23) (sd rfl (yl_pick_t rfl rfl (not_f hb23) rfl (dn (CW.cond_t rfl rfl (CW.seq ?_))))))))
   refine CW.region (sA rfl (dn (CW.ret (tr (rr rfl (.cons rfl .nil) ?_)))))
   have hM1418 : (s_GoodTable p_0) = (false) := by simp only [s_GoodTable, hb16, hb23, cL]
   rw [hM1418]
   exact ⟨rfl, (Ex.trans (Ex.trans (Ex.trans (Ex.refl w) hE12) hE15) hE22)⟩
 ·refine sz rfl rfl (not_f hb16) (sz rfl rfl (not_f hb16) (sz rfl rfl (not_f hb16) (sz rfl rfl (not_f hb16) (sd rfl (yl_pick_t rfl rfl (not_f hb16) rfl (sM rfl (sz rfl rfl rfl (sz rfl rfl rfl (sz rfl rfl rfl ?_)))))))))
  refine sz rfl rfl rfl (sd rfl (yl_pick_t rfl rfl rfl rfl (dn (CW.cond_t rfl rfl (cR (sA rfl (SeqR.done ?_)))))))
  refine tn (CW.ret (tr (rr rfl (.cons rfl .nil) ?_)))
  have hM1422 : (s_GoodTable p_0) = (false) := by simp only [s_GoodTable, hb16, cL]
  rw [hM1422]
  exact ⟨rfl, (Ex.trans (Ex.trans (Ex.refl w) hE12) hE15)⟩
theorem c_s_l24Idx {A1 : Option Addr} {c1 : Nat} {A2 : Option Addr} {c2 : Nat} {w : World} (p_t : DTable) (pn : Str) (h1 : RdS w (Iv 0 w.heap.size) (RF e_Str) 1 A1 p_t.Cols.length c1 p_t.Cols) (h2 : RdS w (Iv 0 w.heap.size) (RF e_Idx) 3 A2 p_t.Idxs.length c2 p_t.Idxs) (o3 : ok_Table p_t) (o4 : okS pn) : Cal Tryz.prog 51 #[.agg #[.string (bs (p_t.Name)), .slice A1 p_t.Cols.length c1, .slice A2 p_t.Idxs.length c2], .string (bs (pn))] w fun v w' => v = .int .i64 ((s_l24Idx p_t pn)) ∧ Ex w w' := by
 have hol5 : p_t.Name.length ≤ 1073741824 := o3.1
 have hol6 := o3.2.1.1
 have hol7 := o3.2.2.1
 have hol8 : pn.length ≤ 1073741824 := o4
 refine Cal.of func51 rfl ntmps51 rfl (cR (sd rfl (yl_box rfl rfl rfl ?_)))
 intro b9 w10 hs11 hz12 hB13 hE14
 refine sA rfl (dn (CW.seq (cR (sd rfl (yl_fieldAddr fd41_2 rfl rfl (sd rfl (yl_load1 ty39 rfl rfl ((hB13.cell 2).trans rfl) (sd rfl (yL un39 rfl rfl ?_)))))))))
 refine sM rfl (dn (CW.block (CW.loop (fun m27 L28 w29 => ∃ (k15 : Nat), m27 = p_t.Idxs.length - k15 ∧ k15 ≤ p_t.Idxs.length ∧ w10.heap.size ≤ w29.heap.size ∧ lkp L28 1 = some (.string (bs (pn))) ∧ lkp L28 8 = some (.slice A2 p_t.Idxs.length c2) ∧ lkp L28 9 = some (.int .i64 ((p_t.Idxs.length : Int))) ∧ lkp L28 10 = some (.int .i64 ((k15 : Int))) ∧ RdS w29 (Iv 0 w.heap.size) (RF e_Idx) 3 A2 p_t.Idxs.length c2 p_t.Idxs ∧ Ex w w29 ∧ loopM (B_s_l24Idx_0 p_t pn) (p_t.Idxs.length - k15) k15 () = loopM (B_s_l24Idx_0 p_t pn) (p_t.Idxs.length - 0) 0 ()) (p_t.Idxs.length - 0) ?_ ?_)))
 ·exact ⟨0, rfl, oM, Nat.le_refl _, rfl, rfl, rfl, rfl, (RdS.ex gI h2 hE14), (Ex.trans (Ex.refl w) hE14), rfl⟩
 ·rintro m32 L33 w34 ⟨k15, rfl, hk35, hsz37, hl38, hl39, hl40, hl41, hf42, hf43, hI36⟩
  refine CW.sub (Sub.cons hl38 (Sub.cons hl39 (Sub.cons hl40 (Sub.cons hl41 (Sub.nil _))))) ?_
  have hf43z := Ex.size hf43
  have hbg44 := RdS.big hf42
  rcases Nat.lt_or_ge k15 p_t.Idxs.length with hlt45 | hlt45
  ·refine cR (sd rfl (yl_lss rfl rfl rfl (dn (CW.seq (CW.cond_t rfl (lt_t hlt45) (CW.skip (tn ?_)))))))
   refine CW.seq (CW.block (cR (sM rfl ?_)))
   obtain ⟨eb46, eo46, _, eA46, _, ebl46, _, eR46, eC46⟩ := RdS.aD hf42 d_Idx (i := k15)
   obtain rfl := eR46
   have eC46 : Cells w34 eb46 (eo46 + k15 * 3) [.string (bs ((p_t.Idxs.getD k15 d_Idx).Name)), .int .i64 ((p_t.Idxs.getD k15 d_Idx).Col), .int .i64 ((p_t.Idxs.getD k15 d_Idx).Stage)] := eC46
   refine sd rfl (yl_ixN un39 ty88 rfl rfl rfl eA46 (sd rfl (yl_loadN ty88 rfl rfl eC46 rfl (sd rfl (yB ty88 (cs := [.string (bs (([] : Str))), .int .i64 (0), .int .i64 (0)]) rfl rfl ?_)))))
   intro b47 w48 hs49 hz50 hB51 hE52
   refine sA rfl (SeqR.u rfl rfl (yl_store (vs := [.string (bs ((p_t.Idxs.getD k15 d_Idx).Name)), .int .i64 ((p_t.Idxs.getD k15 d_Idx).Col), .int .i64 ((p_t.Idxs.getD k15 d_Idx).Stage)]) ty88 rfl rfl rfl rfl rfl rfl hB51 (nb rfl) ?_))
   intro w53 hB54 hO55
   have hB54 : Box w53 b47 88 [.string (bs ((p_t.Idxs.getD k15 d_Idx).Name)), .int .i64 ((p_t.Idxs.getD k15 d_Idx).Col), .int .i64 ((p_t.Idxs.getD k15 d_Idx).Stage)] := hB54
   have hO55z := hO55.size
   refine dn (cR (sd rfl (yl_fieldAddr fd88_0 rfl rfl (sd rfl (yl_load1 ty9 rfl rfl ((hB54.cell 0).trans rfl) (sM rfl (sd rfl (yl_seql (a := ((p_t.Idxs.getD k15 d_Idx).Name)) (b := pn) rfl rfl rfl (SeqR.done ?_)))))))))
   refine tn (bcase (((p_t.Idxs.getD k15 d_Idx).Name) == pn) (fun hb56 => ?_) (fun hb56 => ?_))
   ·refine CW.cond_t rfl hb56 (cR (sM rfl (sA rfl (dn (CW.ret (br ?_))))))
    refine tr (tr ?_)
    have hB58 : B_s_l24Idx_0 p_t pn k15 () = .ret (k15 : Int) := by simp only [B_s_l24Idx_0, hb56, cL]
    have hL57 : loopM (B_s_l24Idx_0 p_t pn) (p_t.Idxs.length - 0) 0 () = .ret (k15 : Int) := hI36.symm.trans (loopM.ret hlt45 hB58)
    refine br (tr (rr rfl (.cons rfl .nil) ?_))
    have hM59 : (s_l24Idx p_t pn) = ((k15 : Int)) := by simp only [s_l24Idx, hb56, hL57, cL]
    rw [hM59]
    exact ⟨rfl, (Below.only (Ex.trans hf43 hE52) hO55 oM)⟩
   ·refine CW.cond_f rfl hb56 (CW.skip (bn (tn (CW.region (sd rfl (yl_inc rfl rfl rfl oM (sM rfl (dn ?_))))))))
    have hB62 : B_s_l24Idx_0 p_t pn k15 () = .cont () := by simp only [B_s_l24Idx_0, hb56, cL]
    exact ⟨p_t.Idxs.length - (k15 + 1), oM, k15 + 1, rfl, hlt45, oM, rfl, rfl, rfl, rfl, (RdS.only gI (RdS.ex gI hf42 hE52) hO55 (by simp only [Iv]; omega)), (Below.only (Ex.trans hf43 hE52) hO55 oM), (loopM.cont hlt45 hB62).symm.trans hI36⟩
  ·refine cR (sd rfl (yl_lss rfl rfl rfl (dn (CW.seq (CW.cond_f rfl (lt_f hlt45) (CW.exit (tx ?_)))))))
   refine tx ?_
   have hL67 : loopM (B_s_l24Idx_0 p_t pn) (p_t.Idxs.length - 0) 0 () = .done () := hI36.symm.trans (loopM.stop hlt45)
   refine bx (tn (cR (sA rfl (dn (CW.ret (rr rfl (.cons rfl .nil) ?_))))))
   have hM68 : (s_l24Idx p_t pn) = (-1) := by simp only [s_l24Idx, hL67, cL]
   rw [hM68]
   exact ⟨rfl, hf43⟩
theorem c_s_l3Bytes {w : World} (p_s : Str) (p_more : Str) (o1 : okS p_s) (o2 : okS p_more) : Cal Tryz.prog 105 #[.string (bs (p_s)), .string (bs (p_more))] w fun v w' => v = .bool ((s_l3Bytes p_s p_more)) ∧ Ex w w' := by
 have hol3 : p_s.length ≤ 1073741824 := o1
 have hol4 : p_more.length ≤ 1073741824 := o2
 refine Cal.of func105 rfl ntmps105 rfl (cR (sA rfl (dn (CW.seq (cR ?_)))))
 refine sA rfl (dn (CW.block (CW.loop (fun m6 L7 w8 => ∃ (k5 : Nat), m6 = p_s.length - k5 ∧ k5 ≤ p_s.length ∧ w.heap.size ≤ w8.heap.size ∧ lkp L7 0 = some (.string (bs (p_s))) ∧ lkp L7 1 = some (.string (bs (p_more))) ∧ lkp L7 5 = some (.int .i64 ((k5 : Int))) ∧ Ex w w8 ∧ loopM (B_s_l3Bytes_0 p_s p_more) (p_s.length - k5) k5 () = loopM (B_s_l3Bytes_0 p_s p_more) (p_s.length - 0) 0 ()) (p_s.length - 0) ?_ ?_)))
 ·exact ⟨0, rfl, oM, Nat.le_refl _, rfl, rfl, rfl, (Ex.refl w), rfl⟩
 ·rintro m9 L10 w11 ⟨k5, rfl, hk12, hsz14, hl15, hl16, hl17, hf18, hI13⟩
  refine CW.sub (Sub.cons hl15 (Sub.cons hl16 (Sub.cons hl17 (Sub.nil _)))) ?_
  have hf18z := Ex.size hf18
  have hbg19 : p_s.length ≤ 1073741824 := o1
  rcases Nat.lt_or_ge k5 p_s.length with hlt20 | hlt20
  ·refine CW.seq (cR (sM rfl (sM rfl (sd rfl (yl_slen un9 (a := p_s) rfl rfl (sd rfl (yl_lss rfl rfl rfl (dn ?_))))))))
   refine CW.cond_t rfl (lt_t hlt20) (CW.skip (tn (CW.seq (CW.block (cR (sM rfl (sM rfl ?_)))))))
   refine sd rfl (yl_sindexN un9 (a := p_s) rfl rfl rfl Bo (sd rfl (yl_geq rfl rfl rfl (sM rfl (bcase (decide (97 ≤ ((p_s.getD k5 0).toNat : Int))) (fun hb21 => ?_) (fun hb21 => ?_))))))
   ·have hb21p := dec_t hb21
    refine sy rfl rfl hb21 (yM rfl rfl (sy rfl rfl hb21 (yM rfl rfl (sy rfl rfl hb21 (yl_sindexN un9 (a := p_s) rfl rfl rfl Bo (sy rfl rfl hb21 (yl_leq rfl rfl rfl (sd rfl (yl_pick_t rfl rfl hb21 rfl (sM rfl (bcase (decide (((p_s.getD k5 0).toNat : Int) ≤ 122)) (fun hb22 => ?_) (fun hb22 => ?_))))))))))))
    ·have hb22p := dec_t hb22
     refine sz rfl rfl hb22 (sz rfl rfl hb22 (sz rfl rfl hb22 (sz rfl rfl hb22 (sz rfl rfl hb22 (sq rfl rfl (sq rfl rfl (sq rfl rfl (sq rfl rfl ?_))))))))
     refine sz rfl rfl hb22 (sd rfl (yl_pick_t rfl rfl hb22 rfl (sA rfl (dn (CW.seq (cR (sA rfl ?_)))))))
     refine dn (CW.block (CW.loop (fun m25 L26 w27 => ∃ (k23 : Nat) (x24 : Bool), m25 = p_more.length - k23 ∧ k23 ≤ p_more.length ∧ w11.heap.size ≤ w27.heap.size ∧ lkp L26 0 = some (.string (bs (p_s))) ∧ lkp L26 1 = some (.string (bs (p_more))) ∧ lkp L26 5 = some (.int .i64 ((k5 : Int))) ∧ lkp L26 6 = some (.bool (x24)) ∧ lkp L26 7 = some (.int .i64 ((k23 : Int))) ∧ lkp L26 19 = some (.string (bs (p_s))) ∧ lkp L26 20 = some (.int .i64 ((k5 : Int))) ∧ lkp L26 21 = some (.int .u8 (((p_s.getD k5 0).toNat : Int))) ∧ lkp L26 22 = some (.bool (decide (((p_s.getD k5 0).toNat : Int) ≤ 122))) ∧ lkp L26 25 = some (undef) ∧ lkp L26 26 = some (undef) ∧ lkp L26 27 = some (undef) ∧ lkp L26 28 = some (undef) ∧ lkp L26 29 = some (undef) ∧ lkp L26 30 = some (undef) ∧ lkp L26 31 = some (undef) ∧ lkp L26 32 = some (undef) ∧ lkp L26 33 = some (undef) ∧ lkp L26 34 = some (undef) ∧ Ex w w27 ∧ loopM (B_s_l3Bytes_1 p_s p_more k5) (p_more.length - k23) k23 (x24) = loopM (B_s_l3Bytes_1 p_s p_more k5) (p_more.length - 0) 0 (true)) (p_more.length - 0) ?_ ?_))
     ·exact ⟨0, true, rfl, oM, Nat.le_refl _, rfl, rfl, rfl, rfl, rfl, rfl, rfl, rfl, rfl, rfl, rfl, rfl, rfl, rfl, rfl, rfl, rfl, rfl, rfl, hf18, rfl⟩
     ·rintro m28 L29 w30 ⟨k23, x24, rfl, hk31, hsz33, hl34, hl35, hl36, hl37, hl38, hl39, hl40, hl41, hl42, hl43, hl44, hl45, hl46, hl47, hl48, hl49, hl50, hl51, hl52, hf53, hI32⟩
      refine CW.sub (Sub.cons hl34 (Sub.cons hl35 (Sub.cons hl36 (Sub.cons hl37 (Sub.cons hl38 (Sub.cons hl39 (Sub.cons hl40 (Sub.cons hl41 (Sub.cons hl42 (Sub.cons hl43 (Sub.cons hl44 (Sub.cons hl45 (Sub.cons hl46 (Sub.cons hl47 (Sub.cons hl48 (Sub.cons hl49 (Sub.cons hl50 (Sub.cons hl51 (Sub.cons hl52 (Sub.nil _)))))))))))))))))))) ?_
      have hf53z := Ex.size hf53
      have hbg54 : p_more.length ≤ 1073741824 := o2
      rcases Nat.lt_or_ge k23 p_more.length with hlt55 | hlt55
      ·refine CW.seq (cR (sM rfl (sM rfl (sd rfl (yl_slen un9 (a := p_more) rfl rfl (sd rfl (yl_lss rfl rfl rfl (dn ?_))))))))
       refine CW.cond_t rfl (lt_t hlt55) (CW.skip (tn (CW.seq (CW.block (bcase (x24) (fun hb56 => ?_) (fun hb56 => ?_))))))
       ·refine drI 11 [.bool (x24), .bool (x24), undef, undef, undef, undef, undef, undef, undef, .bool (true), .bool (true)] Tryz.follows rfl ⟨?_, ?_, ?_, ?_, ?_, ?_, ?_, ?_, ?_, ?_, ?_, trivial⟩ ?_
        ·exact oI rfl fun h => yM rfl (h.old 6 _ rfl rfl) kI
        ·exact oI rfl fun h => yM rfl (h.dt 0 42 rfl rfl rfl) kI
        ·exact oS rfl rfl rfl rfl rfl hb56
        ·exact oS rfl rfl rfl rfl rfl hb56
        ·exact oS rfl rfl rfl rfl rfl hb56
        ·exact oS rfl rfl rfl rfl rfl hb56
        ·exact oS rfl rfl rfl rfl rfl hb56
        ·exact oS rfl rfl rfl rfl rfl hb56
        ·exact oS rfl rfl rfl rfl rfl hb56
        ·exact oI rfl fun h => yl_pick_t rfl (h.dt 1 43 rfl rfl rfl) hb56 rfl kI
        ·exact oI rfl fun h => yA rfl (h.dt 9 51 rfl rfl rfl) kI
        ·intro fl116 fh117 L113 w114 hp115
         have hE118 := hp115.ex
         have hE118z := Ex.size hE118
         refine SeqR.done (bn (tn (CW.sub (sC 0 (hp115.old 0 _ rfl rfl) (sC 1 (hp115.old 1 _ rfl rfl) (sC 5 (hp115.old 5 _ rfl rfl) (sC 6 (hp115.nt 10 6 rfl rfl rfl) (sC 7 (hp115.old 7 _ rfl rfl) (sC 19 (hp115.old 19 _ rfl rfl) (sC 20 (hp115.old 20 _ rfl rfl) (sC 21 (hp115.old 21 _ rfl rfl) (sC 22 (hp115.old 22 _ rfl rfl) (sC 25 (hp115.old 25 _ rfl rfl) (sC 26 (hp115.old 26 _ rfl rfl) (sC 27 (hp115.old 27 _ rfl rfl) (sC 28 (hp115.old 28 _ rfl rfl) (sC 29 (hp115.old 29 _ rfl rfl) (sC 30 (hp115.old 30 _ rfl rfl) (sC 31 (hp115.old 31 _ rfl rfl) (sC 32 (hp115.old 32 _ rfl rfl) (sC 33 (hp115.old 33 _ rfl rfl) (sC 34 (hp115.old 34 _ rfl rfl) (sC 44 (hp115.nt 2 44 rfl rfl rfl) (sC 45 (hp115.nt 3 45 rfl rfl rfl) (sC 46 (hp115.nt 4 46 rfl rfl rfl) (sC 47 (hp115.nt 5 47 rfl rfl rfl) (sC 48 (hp115.nt 6 48 rfl rfl rfl) (sC 49 (hp115.nt 7 49 rfl rfl rfl) (sC 50 (hp115.nt 8 50 rfl rfl rfl) (Sub.nil _))))))))))))))))))))))))))) (CW.region (sM rfl (sd rfl (yl_inc rfl rfl rfl oM (sA rfl (SeqR.done ?_)))))))))
         refine tn ?_
         have hB145 : B_s_l3Bytes_1 p_s p_more k5 k23 (x24) = .cont (true) := by simp only [B_s_l3Bytes_1, hb21, hb22, hb56, cL]
         exact ⟨p_more.length - (k23 + 1), oM, k23 + 1, true, rfl, hlt55, oM, rfl, rfl, rfl, rfl, rfl, rfl, rfl, rfl, rfl, rfl, rfl, rfl, rfl, rfl, rfl, rfl, rfl, rfl, rfl, (Ex.trans hf53 hE118), (loopM.cont hlt55 hB145).symm.trans hI32⟩
       ·refine drI 11 [.bool (x24), .bool (x24), .string (bs (p_s)), .int .i64 ((k5 : Int)), .int .u8 (((p_s.getD k5 0).toNat : Int)), .string (bs (p_more)), .int .i64 ((k23 : Int)), .int .u8 (((p_more.getD k23 0).toNat : Int)), .bool (decide (((p_s.getD k5 0).toNat : Int) = ((p_more.getD k23 0).toNat : Int))), .bool (decide (((p_s.getD k5 0).toNat : Int) = ((p_more.getD k23 0).toNat : Int))), .bool (decide (((p_s.getD k5 0).toNat : Int) = ((p_more.getD k23 0).toNat : Int)))] Tryz.follows rfl ⟨?_, ?_, ?_, ?_, ?_, ?_, ?_, ?_, ?_, ?_, ?_, trivial⟩ ?_
        ·exact oI rfl fun h => yM rfl (h.old 6 _ rfl rfl) kI
        ·exact oI rfl fun h => yM rfl (h.dt 0 42 rfl rfl rfl) kI
        ·exact oW rfl rfl rfl rfl hb56 fun h => yM rfl (h.old 0 _ rfl rfl) kI
        ·exact oW rfl rfl rfl rfl hb56 fun h => yM rfl (h.old 5 _ rfl rfl) kI
        ·intro L169 w170 hi171
         have hE172 := hi171.ex
         have hE172z := Ex.size hE172
         exact OpR.want rfl rfl (hi171.dt 1 43 rfl rfl rfl) hb56 (Yl.sameI (yl_sindexN un9 (a := p_s) rfl (hi171.dt 2 44 rfl rfl rfl) (hi171.dt 3 45 rfl rfl rfl) Bo kI))
        ·exact oW rfl rfl rfl rfl hb56 fun h => yM rfl (h.old 1 _ rfl rfl) kI
        ·exact oW rfl rfl rfl rfl hb56 fun h => yM rfl (h.old 7 _ rfl rfl) kI
        ·intro L188 w189 hi190
         have hE191 := hi190.ex
         have hE191z := Ex.size hE191
         exact OpR.want rfl rfl (hi190.dt 1 43 rfl rfl rfl) hb56 (Yl.sameI (yl_sindexN un9 (a := p_more) rfl (hi190.dt 5 47 rfl rfl rfl) (hi190.dt 6 48 rfl rfl rfl) Bo kI))
        ·exact oW rfl rfl rfl rfl hb56 fun h => yl_eql rfl (h.dt 4 46 rfl rfl rfl) (h.dt 7 49 rfl rfl rfl) kI
        ·exact oI rfl fun h => yl_pick_f rfl (h.dt 1 43 rfl rfl rfl) hb56 (h.dt 8 50 rfl rfl rfl) kI
        ·exact oI rfl fun h => yA rfl (h.dt 9 51 rfl rfl rfl) kI
        ·intro fl216 fh217 L213 w214 hp215
         have hE218 := hp215.ex
         have hE218z := Ex.size hE218
         refine SeqR.done (bn (tn (CW.sub (sC 0 (hp215.old 0 _ rfl rfl) (sC 1 (hp215.old 1 _ rfl rfl) (sC 5 (hp215.old 5 _ rfl rfl) (sC 6 (hp215.nt 10 6 rfl rfl rfl) (sC 7 (hp215.old 7 _ rfl rfl) (sC 19 (hp215.old 19 _ rfl rfl) (sC 20 (hp215.old 20 _ rfl rfl) (sC 21 (hp215.old 21 _ rfl rfl) (sC 22 (hp215.old 22 _ rfl rfl) (sC 25 (hp215.old 25 _ rfl rfl) (sC 26 (hp215.old 26 _ rfl rfl) (sC 27 (hp215.old 27 _ rfl rfl) (sC 28 (hp215.old 28 _ rfl rfl) (sC 29 (hp215.old 29 _ rfl rfl) (sC 30 (hp215.old 30 _ rfl rfl) (sC 31 (hp215.old 31 _ rfl rfl) (sC 32 (hp215.old 32 _ rfl rfl) (sC 33 (hp215.old 33 _ rfl rfl) (sC 34 (hp215.old 34 _ rfl rfl) (sC 44 (hp215.nt 2 44 rfl rfl rfl) (sC 45 (hp215.nt 3 45 rfl rfl rfl) (sC 46 (hp215.nt 4 46 rfl rfl rfl) (sC 47 (hp215.nt 5 47 rfl rfl rfl) (sC 48 (hp215.nt 6 48 rfl rfl rfl) (sC 49 (hp215.nt 7 49 rfl rfl rfl) (sC 50 (hp215.nt 8 50 rfl rfl rfl) (Sub.nil _))))))))))))))))))))))))))) (CW.region (sM rfl (sd rfl (yl_inc rfl rfl rfl oM (sA rfl (SeqR.done ?_)))))))))
         refine tn ?_
         have hB245 : B_s_l3Bytes_1 p_s p_more k5 k23 (x24) = .cont (decide (((p_s.getD k5 0).toNat : Int) = ((p_more.getD k23 0).toNat : Int))) := by simp only [B_s_l3Bytes_1, hb21, hb22, hb56, cL]
         exact ⟨p_more.length - (k23 + 1), oM, k23 + 1, decide (((p_s.getD k5 0).toNat : Int) = ((p_more.getD k23 0).toNat : Int)), rfl, hlt55, oM, rfl, rfl, rfl, rfl, rfl, rfl, rfl, rfl, rfl, rfl, rfl, rfl, rfl, rfl, rfl, rfl, rfl, rfl, rfl, (Ex.trans hf53 hE218), (loopM.cont hlt55 hB245).symm.trans hI32⟩
      ·refine CW.seq (cR (sM rfl (sM rfl (sd rfl (yl_slen un9 (a := p_more) rfl rfl (sd rfl (yl_lss rfl rfl rfl (dn ?_))))))))
       refine CW.cond_f rfl (lt_f hlt55) (CW.exit (tx (tx ?_)))
       have hL247 : loopM (B_s_l3Bytes_1 p_s p_more k5) (p_more.length - 0) 0 (true) = .done (x24) := hI32.symm.trans (loopM.stop hlt55)
       refine bx (tn (cR (sM rfl (sd rfl (yl_not rfl rfl (dn (bcase (x24) (fun hb248 => ?_) (fun hb248 => ?_))))))))
       ·refine CW.cond_f rfl (not_t hb248) (CW.skip (bn (tn (CW.region (sM rfl (sd rfl (yl_inc rfl rfl rfl oM (sA rfl (SeqR.done ?_)))))))))
        refine tn ?_
        have hB249 : B_s_l3Bytes_0 p_s p_more k5 () = .cont () := by simp only [B_s_l3Bytes_0, hb21, hb22, hb248, hL247, cL]
        exact ⟨p_s.length - (k5 + 1), oM, k5 + 1, rfl, hlt20, oM, rfl, rfl, rfl, hf53, (loopM.cont hlt20 hB249).symm.trans hI13⟩
       ·refine CW.cond_t rfl (not_f hb248) (cR (sA rfl (dn (CW.ret (br (tr ?_))))))
        refine tr ?_
        have hB251 : B_s_l3Bytes_0 p_s p_more k5 () = .ret false := by simp only [B_s_l3Bytes_0, hb21, hb22, hb248, hL247, cL]
        have hL250 : loopM (B_s_l3Bytes_0 p_s p_more) (p_s.length - 0) 0 () = .ret false := hI13.symm.trans (loopM.ret hlt20 hB251)
        refine br (tr (rr rfl (.cons rfl .nil) ?_))
        have hM252 : (s_l3Bytes p_s p_more) = (false) := by simp only [s_l3Bytes, hb21, hb22, hb248, hL247, hL250, cL]
        rw [hM252]
        exact ⟨rfl, hf53⟩
    ·have hb22p := dec_f hb22
     refine sy rfl rfl hb22 (yM rfl rfl (sy rfl rfl hb22 (yM rfl rfl (sy rfl rfl hb22 (yl_sindexN un9 (a := p_s) rfl rfl rfl Bo (sy rfl rfl hb22 (yl_geq rfl rfl rfl (sy rfl rfl hb22 (yM rfl rfl (bcase (decide (48 ≤ ((p_s.getD k5 0).toNat : Int))) (fun hb253 => ?_) (fun hb253 => ?_)))))))))))
     ·have hb253p := dec_t hb253
      refine sy rfl rfl hb253 (yM rfl rfl (sy rfl rfl hb253 (yM rfl rfl (sy rfl rfl hb253 (yl_sindexN un9 (a := p_s) rfl rfl rfl Bo (sy rfl rfl hb253 (yl_leq rfl rfl rfl (sy rfl rfl hb22 (yl_pick_t rfl rfl hb253 rfl (sd rfl (yl_pick_f rfl rfl hb22 rfl (sA rfl (dn ?_)))))))))))))
      refine CW.seq (cR (sA rfl (dn (CW.block (CW.loop (fun m256 L257 w258 => ∃ (k254 : Nat) (x255 : Bool), m256 = p_more.length - k254 ∧ k254 ≤ p_more.length ∧ w11.heap.size ≤ w258.heap.size ∧ lkp L257 0 = some (.string (bs (p_s))) ∧ lkp L257 1 = some (.string (bs (p_more))) ∧ lkp L257 5 = some (.int .i64 ((k5 : Int))) ∧ lkp L257 6 = some (.bool (x255)) ∧ lkp L257 7 = some (.int .i64 ((k254 : Int))) ∧ lkp L257 19 = some (.string (bs (p_s))) ∧ lkp L257 20 = some (.int .i64 ((k5 : Int))) ∧ lkp L257 21 = some (.int .u8 (((p_s.getD k5 0).toNat : Int))) ∧ lkp L257 22 = some (.bool (decide (((p_s.getD k5 0).toNat : Int) ≤ 122))) ∧ lkp L257 25 = some (.string (bs (p_s))) ∧ lkp L257 26 = some (.int .i64 ((k5 : Int))) ∧ lkp L257 27 = some (.int .u8 (((p_s.getD k5 0).toNat : Int))) ∧ lkp L257 28 = some (.bool (decide (48 ≤ ((p_s.getD k5 0).toNat : Int)))) ∧ lkp L257 29 = some (.bool (decide (48 ≤ ((p_s.getD k5 0).toNat : Int)))) ∧ lkp L257 30 = some (.string (bs (p_s))) ∧ lkp L257 31 = some (.int .i64 ((k5 : Int))) ∧ lkp L257 32 = some (.int .u8 (((p_s.getD k5 0).toNat : Int))) ∧ lkp L257 33 = some (.bool (decide (((p_s.getD k5 0).toNat : Int) ≤ 57))) ∧ lkp L257 34 = some (.bool (decide (((p_s.getD k5 0).toNat : Int) ≤ 57))) ∧ Ex w w258 ∧ loopM (B_s_l3Bytes_1 p_s p_more k5) (p_more.length - k254) k254 (x255) = loopM (B_s_l3Bytes_1 p_s p_more k5) (p_more.length - 0) 0 (decide (((p_s.getD k5 0).toNat : Int) ≤ 57))) (p_more.length - 0) ?_ ?_)))))
      ·exact ⟨0, decide (((p_s.getD k5 0).toNat : Int) ≤ 57), rfl, oM, Nat.le_refl _, rfl, rfl, rfl, rfl, rfl, rfl, rfl, rfl, rfl, rfl, rfl, rfl, rfl, rfl, rfl, rfl, rfl, rfl, rfl, hf18, rfl⟩
      ·rintro m259 L260 w261 ⟨k254, x255, rfl, hk262, hsz264, hl265, hl266, hl267, hl268, hl269, hl270, hl271, hl272, hl273, hl274, hl275, hl276, hl277, hl278, hl279, hl280, hl281, hl282, hl283, hf284, hI263⟩
       refine CW.sub (Sub.cons hl265 (Sub.cons hl266 (Sub.cons hl267 (Sub.cons hl268 (Sub.cons hl269 (Sub.cons hl270 (Sub.cons hl271 (Sub.cons hl272 (Sub.cons hl273 (Sub.cons hl274 (Sub.cons hl275 (Sub.cons hl276 (Sub.cons hl277 (Sub.cons hl278 (Sub.cons hl279 (Sub.cons hl280 (Sub.cons hl281 (Sub.cons hl282 (Sub.cons hl283 (Sub.nil _)))))))))))))))))))) ?_
       have hf284z := Ex.size hf284
       have hbg285 : p_more.length ≤ 1073741824 := o2
       rcases Nat.lt_or_ge k254 p_more.length with hlt286 | hlt286
       ·refine CW.seq (cR (sM rfl (sM rfl (sd rfl (yl_slen un9 (a := p_more) rfl rfl (sd rfl (yl_lss rfl rfl rfl (dn ?_))))))))
        refine CW.cond_t rfl (lt_t hlt286) (CW.skip (tn (CW.seq (CW.block (bcase (x255) (fun hb287 => ?_) (fun hb287 => ?_))))))
        ·refine drI 11 [.bool (x255), .bool (x255), undef, undef, undef, undef, undef, undef, undef, .bool (true), .bool (true)] Tryz.follows rfl ⟨?_, ?_, ?_, ?_, ?_, ?_, ?_, ?_, ?_, ?_, ?_, trivial⟩ ?_
         ·exact oI rfl fun h => yM rfl (h.old 6 _ rfl rfl) kI
         ·exact oI rfl fun h => yM rfl (h.dt 0 42 rfl rfl rfl) kI
         ·exact oS rfl rfl rfl rfl rfl hb287
         ·exact oS rfl rfl rfl rfl rfl hb287
         ·exact oS rfl rfl rfl rfl rfl hb287
         ·exact oS rfl rfl rfl rfl rfl hb287
         ·exact oS rfl rfl rfl rfl rfl hb287
         ·exact oS rfl rfl rfl rfl rfl hb287
         ·exact oS rfl rfl rfl rfl rfl hb287
         ·exact oI rfl fun h => yl_pick_t rfl (h.dt 1 43 rfl rfl rfl) hb287 rfl kI
         ·exact oI rfl fun h => yA rfl (h.dt 9 51 rfl rfl rfl) kI
         ·intro fl347 fh348 L344 w345 hp346
          have hE349 := hp346.ex
          have hE349z := Ex.size hE349
          refine SeqR.done (bn (tn (CW.sub (sC 0 (hp346.old 0 _ rfl rfl) (sC 1 (hp346.old 1 _ rfl rfl) (sC 5 (hp346.old 5 _ rfl rfl) (sC 6 (hp346.nt 10 6 rfl rfl rfl) (sC 7 (hp346.old 7 _ rfl rfl) (sC 19 (hp346.old 19 _ rfl rfl) (sC 20 (hp346.old 20 _ rfl rfl) (sC 21 (hp346.old 21 _ rfl rfl) (sC 22 (hp346.old 22 _ rfl rfl) (sC 25 (hp346.old 25 _ rfl rfl) (sC 26 (hp346.old 26 _ rfl rfl) (sC 27 (hp346.old 27 _ rfl rfl) (sC 28 (hp346.old 28 _ rfl rfl) (sC 29 (hp346.old 29 _ rfl rfl) (sC 30 (hp346.old 30 _ rfl rfl) (sC 31 (hp346.old 31 _ rfl rfl) (sC 32 (hp346.old 32 _ rfl rfl) (sC 33 (hp346.old 33 _ rfl rfl) (sC 34 (hp346.old 34 _ rfl rfl) (sC 44 (hp346.nt 2 44 rfl rfl rfl) (sC 45 (hp346.nt 3 45 rfl rfl rfl) (sC 46 (hp346.nt 4 46 rfl rfl rfl) (sC 47 (hp346.nt 5 47 rfl rfl rfl) (sC 48 (hp346.nt 6 48 rfl rfl rfl) (sC 49 (hp346.nt 7 49 rfl rfl rfl) (sC 50 (hp346.nt 8 50 rfl rfl rfl) (Sub.nil _))))))))))))))))))))))))))) (CW.region (sM rfl (sd rfl (yl_inc rfl rfl rfl oM (sA rfl (SeqR.done ?_)))))))))
          refine tn ?_
          have hB376 : B_s_l3Bytes_1 p_s p_more k5 k254 (x255) = .cont (true) := by simp only [B_s_l3Bytes_1, hb21, hb22, hb253, hb287, cL]
          exact ⟨p_more.length - (k254 + 1), oM, k254 + 1, true, rfl, hlt286, oM, rfl, rfl, rfl, rfl, rfl, rfl, rfl, rfl, rfl, rfl, rfl, rfl, rfl, rfl, rfl, rfl, rfl, rfl, rfl, (Ex.trans hf284 hE349), (loopM.cont hlt286 hB376).symm.trans hI263⟩
        ·refine drI 11 [.bool (x255), .bool (x255), .string (bs (p_s)), .int .i64 ((k5 : Int)), .int .u8 (((p_s.getD k5 0).toNat : Int)), .string (bs (p_more)), .int .i64 ((k254 : Int)), .int .u8 (((p_more.getD k254 0).toNat : Int)), .bool (decide (((p_s.getD k5 0).toNat : Int) = ((p_more.getD k254 0).toNat : Int))), .bool (decide (((p_s.getD k5 0).toNat : Int) = ((p_more.getD k254 0).toNat : Int))), .bool (decide (((p_s.getD k5 0).toNat : Int) = ((p_more.getD k254 0).toNat : Int)))] Tryz.follows rfl ⟨?_, ?_, ?_, ?_, ?_, ?_, ?_, ?_, ?_, ?_, ?_, trivial⟩ ?_
         ·exact oI rfl fun h => yM rfl (h.old 6 _ rfl rfl) kI
         ·exact oI rfl fun h => yM rfl (h.dt 0 42 rfl rfl rfl) kI
         ·exact oW rfl rfl rfl rfl hb287 fun h => yM rfl (h.old 0 _ rfl rfl) kI
         ·exact oW rfl rfl rfl rfl hb287 fun h => yM rfl (h.old 5 _ rfl rfl) kI
         ·intro L400 w401 hi402
          have hE403 := hi402.ex
          have hE403z := Ex.size hE403
          exact OpR.want rfl rfl (hi402.dt 1 43 rfl rfl rfl) hb287 (Yl.sameI (yl_sindexN un9 (a := p_s) rfl (hi402.dt 2 44 rfl rfl rfl) (hi402.dt 3 45 rfl rfl rfl) Bo kI))
         ·exact oW rfl rfl rfl rfl hb287 fun h => yM rfl (h.old 1 _ rfl rfl) kI
         ·exact oW rfl rfl rfl rfl hb287 fun h => yM rfl (h.old 7 _ rfl rfl) kI
         ·intro L419 w420 hi421
          have hE422 := hi421.ex
          have hE422z := Ex.size hE422
          exact OpR.want rfl rfl (hi421.dt 1 43 rfl rfl rfl) hb287 (Yl.sameI (yl_sindexN un9 (a := p_more) rfl (hi421.dt 5 47 rfl rfl rfl) (hi421.dt 6 48 rfl rfl rfl) Bo kI))
         ·exact oW rfl rfl rfl rfl hb287 fun h => yl_eql rfl (h.dt 4 46 rfl rfl rfl) (h.dt 7 49 rfl rfl rfl) kI
         ·exact oI rfl fun h => yl_pick_f rfl (h.dt 1 43 rfl rfl rfl) hb287 (h.dt 8 50 rfl rfl rfl) kI
         ·exact oI rfl fun h => yA rfl (h.dt 9 51 rfl rfl rfl) kI
         ·intro fl447 fh448 L444 w445 hp446
          have hE449 := hp446.ex
          have hE449z := Ex.size hE449
          refine SeqR.done (bn (tn (CW.sub (sC 0 (hp446.old 0 _ rfl rfl) (sC 1 (hp446.old 1 _ rfl rfl) (sC 5 (hp446.old 5 _ rfl rfl) (sC 6 (hp446.nt 10 6 rfl rfl rfl) (sC 7 (hp446.old 7 _ rfl rfl) (sC 19 (hp446.old 19 _ rfl rfl) (sC 20 (hp446.old 20 _ rfl rfl) (sC 21 (hp446.old 21 _ rfl rfl) (sC 22 (hp446.old 22 _ rfl rfl) (sC 25 (hp446.old 25 _ rfl rfl) (sC 26 (hp446.old 26 _ rfl rfl) (sC 27 (hp446.old 27 _ rfl rfl) (sC 28 (hp446.old 28 _ rfl rfl) (sC 29 (hp446.old 29 _ rfl rfl) (sC 30 (hp446.old 30 _ rfl rfl) (sC 31 (hp446.old 31 _ rfl rfl) (sC 32 (hp446.old 32 _ rfl rfl) (sC 33 (hp446.old 33 _ rfl rfl) (sC 34 (hp446.old 34 _ rfl rfl) (sC 44 (hp446.nt 2 44 rfl rfl rfl) (sC 45 (hp446.nt 3 45 rfl rfl rfl) (sC 46 (hp446.nt 4 46 rfl rfl rfl) (sC 47 (hp446.nt 5 47 rfl rfl rfl) (sC 48 (hp446.nt 6 48 rfl rfl rfl) (sC 49 (hp446.nt 7 49 rfl rfl rfl) (sC 50 (hp446.nt 8 50 rfl rfl rfl) (Sub.nil _))))))))))))))))))))))))))) (CW.region (sM rfl (sd rfl (yl_inc rfl rfl rfl oM (sA rfl (SeqR.done ?_)))))))))
          refine tn ?_
          have hB476 : B_s_l3Bytes_1 p_s p_more k5 k254 (x255) = .cont (decide (((p_s.getD k5 0).toNat : Int) = ((p_more.getD k254 0).toNat : Int))) := by simp only [B_s_l3Bytes_1, hb21, hb22, hb253, hb287, cL]
          exact ⟨p_more.length - (k254 + 1), oM, k254 + 1, decide (((p_s.getD k5 0).toNat : Int) = ((p_more.getD k254 0).toNat : Int)), rfl, hlt286, oM, rfl, rfl, rfl, rfl, rfl, rfl, rfl, rfl, rfl, rfl, rfl, rfl, rfl, rfl, rfl, rfl, rfl, rfl, rfl, (Ex.trans hf284 hE449), (loopM.cont hlt286 hB476).symm.trans hI263⟩
       ·refine CW.seq (cR (sM rfl (sM rfl (sd rfl (yl_slen un9 (a := p_more) rfl rfl (sd rfl (yl_lss rfl rfl rfl (dn ?_))))))))
        refine CW.cond_f rfl (lt_f hlt286) (CW.exit (tx (tx ?_)))
        have hL478 : loopM (B_s_l3Bytes_1 p_s p_more k5) (p_more.length - 0) 0 (decide (((p_s.getD k5 0).toNat : Int) ≤ 57)) = .done (x255) := hI263.symm.trans (loopM.stop hlt286)
        refine bx (tn (cR (sM rfl (sd rfl (yl_not rfl rfl (dn (bcase (x255) (fun hb479 => ?_) (fun hb479 => ?_))))))))
        ·refine CW.cond_f rfl (not_t hb479) (CW.skip (bn (tn (CW.region (sM rfl (sd rfl (yl_inc rfl rfl rfl oM (sA rfl (SeqR.done ?_)))))))))
         refine tn ?_
         have hB480 : B_s_l3Bytes_0 p_s p_more k5 () = .cont () := by simp only [B_s_l3Bytes_0, hb21, hb22, hb253, hb479, hL478, cL]
         exact ⟨p_s.length - (k5 + 1), oM, k5 + 1, rfl, hlt20, oM, rfl, rfl, rfl, hf284, (loopM.cont hlt20 hB480).symm.trans hI13⟩
        ·refine CW.cond_t rfl (not_f hb479) (cR (sA rfl (dn (CW.ret (br (tr ?_))))))
         refine tr ?_
         have hB482 : B_s_l3Bytes_0 p_s p_more k5 () = .ret false := by simp only [B_s_l3Bytes_0, hb21, hb22, hb253, hb479, hL478, cL]
         have hL481 : loopM (B_s_l3Bytes_0 p_s p_more) (p_s.length - 0) 0 () = .ret false := hI13.symm.trans (loopM.ret hlt20 hB482)
         refine br (tr (rr rfl (.cons rfl .nil) ?_))
         have hM483 : (s_l3Bytes p_s p_more) = (false) := by simp only [s_l3Bytes, hb21, hb22, hb253, hb479, hL478, hL481, cL]
         rw [hM483]
         exact ⟨rfl, hf284⟩
     ·have hb253p := dec_f hb253
      refine sz rfl rfl hb253 (sz rfl rfl hb253 (sz rfl rfl hb253 (sz rfl rfl hb253 (sy rfl rfl hb22 (yl_pick_f rfl rfl hb253 rfl (sd rfl (yl_pick_f rfl rfl hb22 rfl (sA rfl (dn ?_)))))))))
      refine CW.seq (cR (sA rfl (dn (CW.block (CW.loop (fun m486 L487 w488 => ∃ (k484 : Nat) (x485 : Bool), m486 = p_more.length - k484 ∧ k484 ≤ p_more.length ∧ w11.heap.size ≤ w488.heap.size ∧ lkp L487 0 = some (.string (bs (p_s))) ∧ lkp L487 1 = some (.string (bs (p_more))) ∧ lkp L487 5 = some (.int .i64 ((k5 : Int))) ∧ lkp L487 6 = some (.bool (x485)) ∧ lkp L487 7 = some (.int .i64 ((k484 : Int))) ∧ lkp L487 19 = some (.string (bs (p_s))) ∧ lkp L487 20 = some (.int .i64 ((k5 : Int))) ∧ lkp L487 21 = some (.int .u8 (((p_s.getD k5 0).toNat : Int))) ∧ lkp L487 22 = some (.bool (decide (((p_s.getD k5 0).toNat : Int) ≤ 122))) ∧ lkp L487 25 = some (.string (bs (p_s))) ∧ lkp L487 26 = some (.int .i64 ((k5 : Int))) ∧ lkp L487 27 = some (.int .u8 (((p_s.getD k5 0).toNat : Int))) ∧ lkp L487 28 = some (.bool (decide (48 ≤ ((p_s.getD k5 0).toNat : Int)))) ∧ lkp L487 29 = some (.bool (decide (48 ≤ ((p_s.getD k5 0).toNat : Int)))) ∧ lkp L487 30 = some (undef) ∧ lkp L487 31 = some (undef) ∧ lkp L487 32 = some (undef) ∧ lkp L487 33 = some (undef) ∧ lkp L487 34 = some (.bool (false)) ∧ Ex w w488 ∧ loopM (B_s_l3Bytes_1 p_s p_more k5) (p_more.length - k484) k484 (x485) = loopM (B_s_l3Bytes_1 p_s p_more k5) (p_more.length - 0) 0 (false)) (p_more.length - 0) ?_ ?_)))))
      ·exact ⟨0, false, rfl, oM, Nat.le_refl _, rfl, rfl, rfl, rfl, rfl, rfl, rfl, rfl, rfl, rfl, rfl, rfl, rfl, rfl, rfl, rfl, rfl, rfl, rfl, hf18, rfl⟩
      ·rintro m489 L490 w491 ⟨k484, x485, rfl, hk492, hsz494, hl495, hl496, hl497, hl498, hl499, hl500, hl501, hl502, hl503, hl504, hl505, hl506, hl507, hl508, hl509, hl510, hl511, hl512, hl513, hf514, hI493⟩
       refine CW.sub (Sub.cons hl495 (Sub.cons hl496 (Sub.cons hl497 (Sub.cons hl498 (Sub.cons hl499 (Sub.cons hl500 (Sub.cons hl501 (Sub.cons hl502 (Sub.cons hl503 (Sub.cons hl504 (Sub.cons hl505 (Sub.cons hl506 (Sub.cons hl507 (Sub.cons hl508 (Sub.cons hl509 (Sub.cons hl510 (Sub.cons hl511 (Sub.cons hl512 (Sub.cons hl513 (Sub.nil _)))))))))))))))))))) ?_
       have hf514z := Ex.size hf514
       have hbg515 : p_more.length ≤ 1073741824 := o2
       rcases Nat.lt_or_ge k484 p_more.length with hlt516 | hlt516
       ·refine CW.seq (cR (sM rfl (sM rfl (sd rfl (yl_slen un9 (a := p_more) rfl rfl (sd rfl (yl_lss rfl rfl rfl (dn ?_))))))))
        refine CW.cond_t rfl (lt_t hlt516) (CW.skip (tn (CW.seq (CW.block (bcase (x485) (fun hb517 => ?_) (fun hb517 => ?_))))))
        ·refine drI 11 [.bool (x485), .bool (x485), undef, undef, undef, undef, undef, undef, undef, .bool (true), .bool (true)] Tryz.follows rfl ⟨?_, ?_, ?_, ?_, ?_, ?_, ?_, ?_, ?_, ?_, ?_, trivial⟩ ?_
         ·exact oI rfl fun h => yM rfl (h.old 6 _ rfl rfl) kI
         ·exact oI rfl fun h => yM rfl (h.dt 0 42 rfl rfl rfl) kI
         ·exact oS rfl rfl rfl rfl rfl hb517
         ·exact oS rfl rfl rfl rfl rfl hb517
         ·exact oS rfl rfl rfl rfl rfl hb517
         ·exact oS rfl rfl rfl rfl rfl hb517
         ·exact oS rfl rfl rfl rfl rfl hb517
         ·exact oS rfl rfl rfl rfl rfl hb517
         ·exact oS rfl rfl rfl rfl rfl hb517
         ·exact oI rfl fun h => yl_pick_t rfl (h.dt 1 43 rfl rfl rfl) hb517 rfl kI
         ·exact oI rfl fun h => yA rfl (h.dt 9 51 rfl rfl rfl) kI
         ·intro fl577 fh578 L574 w575 hp576
          have hE579 := hp576.ex
          have hE579z := Ex.size hE579
          refine SeqR.done (bn (tn (CW.sub (sC 0 (hp576.old 0 _ rfl rfl) (sC 1 (hp576.old 1 _ rfl rfl) (sC 5 (hp576.old 5 _ rfl rfl) (sC 6 (hp576.nt 10 6 rfl rfl rfl) (sC 7 (hp576.old 7 _ rfl rfl) (sC 19 (hp576.old 19 _ rfl rfl) (sC 20 (hp576.old 20 _ rfl rfl) (sC 21 (hp576.old 21 _ rfl rfl) (sC 22 (hp576.old 22 _ rfl rfl) (sC 25 (hp576.old 25 _ rfl rfl) (sC 26 (hp576.old 26 _ rfl rfl) (sC 27 (hp576.old 27 _ rfl rfl) (sC 28 (hp576.old 28 _ rfl rfl) (sC 29 (hp576.old 29 _ rfl rfl) (sC 30 (hp576.old 30 _ rfl rfl) (sC 31 (hp576.old 31 _ rfl rfl) (sC 32 (hp576.old 32 _ rfl rfl) (sC 33 (hp576.old 33 _ rfl rfl) (sC 34 (hp576.old 34 _ rfl rfl) (sC 44 (hp576.nt 2 44 rfl rfl rfl) (sC 45 (hp576.nt 3 45 rfl rfl rfl) (sC 46 (hp576.nt 4 46 rfl rfl rfl) (sC 47 (hp576.nt 5 47 rfl rfl rfl) (sC 48 (hp576.nt 6 48 rfl rfl rfl) (sC 49 (hp576.nt 7 49 rfl rfl rfl) (sC 50 (hp576.nt 8 50 rfl rfl rfl) (Sub.nil _))))))))))))))))))))))))))) (CW.region (sM rfl (sd rfl (yl_inc rfl rfl rfl oM (sA rfl (SeqR.done ?_)))))))))
          refine tn ?_
          have hB606 : B_s_l3Bytes_1 p_s p_more k5 k484 (x485) = .cont (true) := by simp only [B_s_l3Bytes_1, hb21, hb22, hb253, hb517, cL]
          exact ⟨p_more.length - (k484 + 1), oM, k484 + 1, true, rfl, hlt516, oM, rfl, rfl, rfl, rfl, rfl, rfl, rfl, rfl, rfl, rfl, rfl, rfl, rfl, rfl, rfl, rfl, rfl, rfl, rfl, (Ex.trans hf514 hE579), (loopM.cont hlt516 hB606).symm.trans hI493⟩
        ·refine drI 11 [.bool (x485), .bool (x485), .string (bs (p_s)), .int .i64 ((k5 : Int)), .int .u8 (((p_s.getD k5 0).toNat : Int)), .string (bs (p_more)), .int .i64 ((k484 : Int)), .int .u8 (((p_more.getD k484 0).toNat : Int)), .bool (decide (((p_s.getD k5 0).toNat : Int) = ((p_more.getD k484 0).toNat : Int))), .bool (decide (((p_s.getD k5 0).toNat : Int) = ((p_more.getD k484 0).toNat : Int))), .bool (decide (((p_s.getD k5 0).toNat : Int) = ((p_more.getD k484 0).toNat : Int)))] Tryz.follows rfl ⟨?_, ?_, ?_, ?_, ?_, ?_, ?_, ?_, ?_, ?_, ?_, trivial⟩ ?_
         ·exact oI rfl fun h => yM rfl (h.old 6 _ rfl rfl) kI
         ·exact oI rfl fun h => yM rfl (h.dt 0 42 rfl rfl rfl) kI
         ·exact oW rfl rfl rfl rfl hb517 fun h => yM rfl (h.old 0 _ rfl rfl) kI
         ·exact oW rfl rfl rfl rfl hb517 fun h => yM rfl (h.old 5 _ rfl rfl) kI
         ·intro L630 w631 hi632
          have hE633 := hi632.ex
          have hE633z := Ex.size hE633
          exact OpR.want rfl rfl (hi632.dt 1 43 rfl rfl rfl) hb517 (Yl.sameI (yl_sindexN un9 (a := p_s) rfl (hi632.dt 2 44 rfl rfl rfl) (hi632.dt 3 45 rfl rfl rfl) Bo kI))
         ·exact oW rfl rfl rfl rfl hb517 fun h => yM rfl (h.old 1 _ rfl rfl) kI
         ·exact oW rfl rfl rfl rfl hb517 fun h => yM rfl (h.old 7 _ rfl rfl) kI
         ·intro L649 w650 hi651
          have hE652 := hi651.ex
          have hE652z := Ex.size hE652
          exact OpR.want rfl rfl (hi651.dt 1 43 rfl rfl rfl) hb517 (Yl.sameI (yl_sindexN un9 (a := p_more) rfl (hi651.dt 5 47 rfl rfl rfl) (hi651.dt 6 48 rfl rfl rfl) Bo kI))
         ·exact oW rfl rfl rfl rfl hb517 fun h => yl_eql rfl (h.dt 4 46 rfl rfl rfl) (h.dt 7 49 rfl rfl rfl) kI
         ·exact oI rfl fun h => yl_pick_f rfl (h.dt 1 43 rfl rfl rfl) hb517 (h.dt 8 50 rfl rfl rfl) kI
         ·exact oI rfl fun h => yA rfl (h.dt 9 51 rfl rfl rfl) kI
         ·intro fl677 fh678 L674 w675 hp676
          have hE679 := hp676.ex
          have hE679z := Ex.size hE679
          refine SeqR.done (bn (tn (CW.sub (sC 0 (hp676.old 0 _ rfl rfl) (sC 1 (hp676.old 1 _ rfl rfl) (sC 5 (hp676.old 5 _ rfl rfl) (sC 6 (hp676.nt 10 6 rfl rfl rfl) (sC 7 (hp676.old 7 _ rfl rfl) (sC 19 (hp676.old 19 _ rfl rfl) (sC 20 (hp676.old 20 _ rfl rfl) (sC 21 (hp676.old 21 _ rfl rfl) (sC 22 (hp676.old 22 _ rfl rfl) (sC 25 (hp676.old 25 _ rfl rfl) (sC 26 (hp676.old 26 _ rfl rfl) (sC 27 (hp676.old 27 _ rfl rfl) (sC 28 (hp676.old 28 _ rfl rfl) (sC 29 (hp676.old 29 _ rfl rfl) (sC 30 (hp676.old 30 _ rfl rfl) (sC 31 (hp676.old 31 _ rfl rfl) (sC 32 (hp676.old 32 _ rfl rfl) (sC 33 (hp676.old 33 _ rfl rfl) (sC 34 (hp676.old 34 _ rfl rfl) (sC 44 (hp676.nt 2 44 rfl rfl rfl) (sC 45 (hp676.nt 3 45 rfl rfl rfl) (sC 46 (hp676.nt 4 46 rfl rfl rfl) (sC 47 (hp676.nt 5 47 rfl rfl rfl) (sC 48 (hp676.nt 6 48 rfl rfl rfl) (sC 49 (hp676.nt 7 49 rfl rfl rfl) (sC 50 (hp676.nt 8 50 rfl rfl rfl) (Sub.nil _))))))))))))))))))))))))))) (CW.region (sM rfl (sd rfl (yl_inc rfl rfl rfl oM (sA rfl (SeqR.done ?_)))))))))
          refine tn ?_
          have hB706 : B_s_l3Bytes_1 p_s p_more k5 k484 (x485) = .cont (decide (((p_s.getD k5 0).toNat : Int) = ((p_more.getD k484 0).toNat : Int))) := by simp only [B_s_l3Bytes_1, hb21, hb22, hb253, hb517, cL]
          exact ⟨p_more.length - (k484 + 1), oM, k484 + 1, decide (((p_s.getD k5 0).toNat : Int) = ((p_more.getD k484 0).toNat : Int)), rfl, hlt516, oM, rfl, rfl, rfl, rfl, rfl, rfl, rfl, rfl, rfl, rfl, rfl, rfl, rfl, rfl, rfl, rfl, rfl, rfl, rfl, (Ex.trans hf514 hE679), (loopM.cont hlt516 hB706).symm.trans hI493⟩
       ·refine CW.seq (cR (sM rfl (sM rfl (sd rfl (yl_slen un9 (a := p_more) rfl rfl (sd rfl (yl_lss rfl rfl rfl (dn ?_))))))))
        refine CW.cond_f rfl (lt_f hlt516) (CW.exit (tx (tx ?_)))
        have hL708 : loopM (B_s_l3Bytes_1 p_s p_more k5) (p_more.length - 0) 0 (false) = .done (x485) := hI493.symm.trans (loopM.stop hlt516)
        refine bx (tn (cR (sM rfl (sd rfl (yl_not rfl rfl (dn (bcase (x485) (fun hb709 => ?_) (fun hb709 => ?_))))))))
        ·refine CW.cond_f rfl (not_t hb709) (CW.skip (bn (tn (CW.region (sM rfl (sd rfl (yl_inc rfl rfl rfl oM (sA rfl (SeqR.done ?_)))))))))
         refine tn ?_
         have hB710 : B_s_l3Bytes_0 p_s p_more k5 () = .cont () := by simp only [B_s_l3Bytes_0, hb21, hb22, hb253, hb709, hL708, cL]
         exact ⟨p_s.length - (k5 + 1), oM, k5 + 1, rfl, hlt20, oM, rfl, rfl, rfl, hf514, (loopM.cont hlt20 hB710).symm.trans hI13⟩
        ·refine CW.cond_t rfl (not_f hb709) (cR (sA rfl (dn (CW.ret (br (tr ?_))))))
         refine tr ?_
         have hB712 : B_s_l3Bytes_0 p_s p_more k5 () = .ret false := by simp only [B_s_l3Bytes_0, hb21, hb22, hb253, hb709, hL708, cL]
         have hL711 : loopM (B_s_l3Bytes_0 p_s p_more) (p_s.length - 0) 0 () = .ret false := hI13.symm.trans (loopM.ret hlt20 hB712)
         refine br (tr (rr rfl (.cons rfl .nil) ?_))
         have hM713 : (s_l3Bytes p_s p_more) = (false) := by simp only [s_l3Bytes, hb21, hb22, hb253, hb709, hL708, hL711, cL]
         rw [hM713]
         exact ⟨rfl, hf514⟩
   ·have hb21p := dec_f hb21
    refine sz rfl rfl hb21 (sz rfl rfl hb21 (sz rfl rfl hb21 (sz rfl rfl hb21 (sd rfl (yl_pick_f rfl rfl hb21 rfl (sM rfl (sy rfl rfl rfl (yM rfl rfl (sy rfl rfl rfl (yM rfl rfl (sy rfl rfl rfl (yl_sindexN un9 (a := p_s) rfl rfl rfl Bo ?_))))))))))))
    refine sy rfl rfl rfl (yl_geq rfl rfl rfl (sy rfl rfl rfl (yM rfl rfl (bcase (decide (48 ≤ ((p_s.getD k5 0).toNat : Int))) (fun hb714 => ?_) (fun hb714 => ?_)))))
    ·have hb714p := dec_t hb714
     refine sy rfl rfl hb714 (yM rfl rfl (sy rfl rfl hb714 (yM rfl rfl (sy rfl rfl hb714 (yl_sindexN un9 (a := p_s) rfl rfl rfl Bo (sy rfl rfl hb714 (yl_leq rfl rfl rfl (sy rfl rfl rfl (yl_pick_t rfl rfl hb714 rfl (sd rfl (yl_pick_f rfl rfl rfl rfl (sA rfl (dn ?_)))))))))))))
     refine CW.seq (cR (sA rfl (dn (CW.block (CW.loop (fun m717 L718 w719 => ∃ (k715 : Nat) (x716 : Bool), m717 = p_more.length - k715 ∧ k715 ≤ p_more.length ∧ w11.heap.size ≤ w719.heap.size ∧ lkp L718 0 = some (.string (bs (p_s))) ∧ lkp L718 1 = some (.string (bs (p_more))) ∧ lkp L718 5 = some (.int .i64 ((k5 : Int))) ∧ lkp L718 6 = some (.bool (x716)) ∧ lkp L718 7 = some (.int .i64 ((k715 : Int))) ∧ lkp L718 19 = some (undef) ∧ lkp L718 20 = some (undef) ∧ lkp L718 21 = some (undef) ∧ lkp L718 22 = some (undef) ∧ lkp L718 25 = some (.string (bs (p_s))) ∧ lkp L718 26 = some (.int .i64 ((k5 : Int))) ∧ lkp L718 27 = some (.int .u8 (((p_s.getD k5 0).toNat : Int))) ∧ lkp L718 28 = some (.bool (decide (48 ≤ ((p_s.getD k5 0).toNat : Int)))) ∧ lkp L718 29 = some (.bool (decide (48 ≤ ((p_s.getD k5 0).toNat : Int)))) ∧ lkp L718 30 = some (.string (bs (p_s))) ∧ lkp L718 31 = some (.int .i64 ((k5 : Int))) ∧ lkp L718 32 = some (.int .u8 (((p_s.getD k5 0).toNat : Int))) ∧ lkp L718 33 = some (.bool (decide (((p_s.getD k5 0).toNat : Int) ≤ 57))) ∧ lkp L718 34 = some (.bool (decide (((p_s.getD k5 0).toNat : Int) ≤ 57))) ∧ Ex w w719 ∧ loopM (B_s_l3Bytes_1 p_s p_more k5) (p_more.length - k715) k715 (x716) = loopM (B_s_l3Bytes_1 p_s p_more k5) (p_more.length - 0) 0 (decide (((p_s.getD k5 0).toNat : Int) ≤ 57))) (p_more.length - 0) ?_ ?_)))))
     ·exact ⟨0, decide (((p_s.getD k5 0).toNat : Int) ≤ 57), rfl, oM, Nat.le_refl _, rfl, rfl, rfl, rfl, rfl, rfl, rfl, rfl, rfl, rfl, rfl, rfl, rfl, rfl, rfl, rfl, rfl, rfl, rfl, hf18, rfl⟩
     ·rintro m720 L721 w722 ⟨k715, x716, rfl, hk723, hsz725, hl726, hl727, hl728, hl729, hl730, hl731, hl732, hl733, hl734, hl735, hl736, hl737, hl738, hl739, hl740, hl741, hl742, hl743, hl744, hf745, hI724⟩
      refine CW.sub (Sub.cons hl726 (Sub.cons hl727 (Sub.cons hl728 (Sub.cons hl729 (Sub.cons hl730 (Sub.cons hl731 (Sub.cons hl732 (Sub.cons hl733 (Sub.cons hl734 (Sub.cons hl735 (Sub.cons hl736 (Sub.cons hl737 (Sub.cons hl738 (Sub.cons hl739 (Sub.cons hl740 (Sub.cons hl741 (Sub.cons hl742 (Sub.cons hl743 (Sub.cons hl744 (Sub.nil _)))))))))))))))))))) ?_
      have hf745z := Ex.size hf745
      have hbg746 : p_more.length ≤ 1073741824 := o2
      rcases Nat.lt_or_ge k715 p_more.length with hlt747 | hlt747
      ·refine CW.seq (cR (sM rfl (sM rfl (sd rfl (yl_slen un9 (a := p_more) rfl rfl (sd rfl (yl_lss rfl rfl rfl (dn ?_))))))))
       refine CW.cond_t rfl (lt_t hlt747) (CW.skip (tn (CW.seq (CW.block (bcase (x716) (fun hb748 => ?_) (fun hb748 => ?_))))))
       ·refine drI 11 [.bool (x716), .bool (x716), undef, undef, undef, undef, undef, undef, undef, .bool (true), .bool (true)] Tryz.follows rfl ⟨?_, ?_, ?_, ?_, ?_, ?_, ?_, ?_, ?_, ?_, ?_, trivial⟩ ?_
        ·exact oI rfl fun h => yM rfl (h.old 6 _ rfl rfl) kI
        ·exact oI rfl fun h => yM rfl (h.dt 0 42 rfl rfl rfl) kI
        ·exact oS rfl rfl rfl rfl rfl hb748
        ·exact oS rfl rfl rfl rfl rfl hb748
        ·exact oS rfl rfl rfl rfl rfl hb748
        ·exact oS rfl rfl rfl rfl rfl hb748
        ·exact oS rfl rfl rfl rfl rfl hb748
        ·exact oS rfl rfl rfl rfl rfl hb748
        ·exact oS rfl rfl rfl rfl rfl hb748
        ·exact oI rfl fun h => yl_pick_t rfl (h.dt 1 43 rfl rfl rfl) hb748 rfl kI
        ·exact oI rfl fun h => yA rfl (h.dt 9 51 rfl rfl rfl) kI
        ·intro fl808 fh809 L805 w806 hp807
         have hE810 := hp807.ex
         have hE810z := Ex.size hE810
         refine SeqR.done (bn (tn (CW.sub (sC 0 (hp807.old 0 _ rfl rfl) (sC 1 (hp807.old 1 _ rfl rfl) (sC 5 (hp807.old 5 _ rfl rfl) (sC 6 (hp807.nt 10 6 rfl rfl rfl) (sC 7 (hp807.old 7 _ rfl rfl) (sC 19 (hp807.old 19 _ rfl rfl) (sC 20 (hp807.old 20 _ rfl rfl) (sC 21 (hp807.old 21 _ rfl rfl) (sC 22 (hp807.old 22 _ rfl rfl) (sC 25 (hp807.old 25 _ rfl rfl) (sC 26 (hp807.old 26 _ rfl rfl) (sC 27 (hp807.old 27 _ rfl rfl) (sC 28 (hp807.old 28 _ rfl rfl) (sC 29 (hp807.old 29 _ rfl rfl) (sC 30 (hp807.old 30 _ rfl rfl) (sC 31 (hp807.old 31 _ rfl rfl) (sC 32 (hp807.old 32 _ rfl rfl) (sC 33 (hp807.old 33 _ rfl rfl) (sC 34 (hp807.old 34 _ rfl rfl) (sC 44 (hp807.nt 2 44 rfl rfl rfl) (sC 45 (hp807.nt 3 45 rfl rfl rfl) (sC 46 (hp807.nt 4 46 rfl rfl rfl) (sC 47 (hp807.nt 5 47 rfl rfl rfl) (sC 48 (hp807.nt 6 48 rfl rfl rfl) (sC 49 (hp807.nt 7 49 rfl rfl rfl) (sC 50 (hp807.nt 8 50 rfl rfl rfl) (Sub.nil _))))))))))))))))))))))))))) (CW.region (sM rfl (sd rfl (yl_inc rfl rfl rfl oM (sA rfl (SeqR.done ?_)))))))))
         refine tn ?_
         have hB837 : B_s_l3Bytes_1 p_s p_more k5 k715 (x716) = .cont (true) := by simp only [B_s_l3Bytes_1, hb21, hb714, hb748, cL]
         exact ⟨p_more.length - (k715 + 1), oM, k715 + 1, true, rfl, hlt747, oM, rfl, rfl, rfl, rfl, rfl, rfl, rfl, rfl, rfl, rfl, rfl, rfl, rfl, rfl, rfl, rfl, rfl, rfl, rfl, (Ex.trans hf745 hE810), (loopM.cont hlt747 hB837).symm.trans hI724⟩
       ·refine drI 11 [.bool (x716), .bool (x716), .string (bs (p_s)), .int .i64 ((k5 : Int)), .int .u8 (((p_s.getD k5 0).toNat : Int)), .string (bs (p_more)), .int .i64 ((k715 : Int)), .int .u8 (((p_more.getD k715 0).toNat : Int)), .bool (decide (((p_s.getD k5 0).toNat : Int) = ((p_more.getD k715 0).toNat : Int))), .bool (decide (((p_s.getD k5 0).toNat : Int) = ((p_more.getD k715 0).toNat : Int))), .bool (decide (((p_s.getD k5 0).toNat : Int) = ((p_more.getD k715 0).toNat : Int)))] Tryz.follows rfl ⟨?_, ?_, ?_, ?_, ?_, ?_, ?_, ?_, ?_, ?_, ?_, trivial⟩ ?_
        ·exact oI rfl fun h => yM rfl (h.old 6 _ rfl rfl) kI
        ·exact oI rfl fun h => yM rfl (h.dt 0 42 rfl rfl rfl) kI
        ·exact oW rfl rfl rfl rfl hb748 fun h => yM rfl (h.old 0 _ rfl rfl) kI
        ·exact oW rfl rfl rfl rfl hb748 fun h => yM rfl (h.old 5 _ rfl rfl) kI
        ·intro L861 w862 hi863
         have hE864 := hi863.ex
         have hE864z := Ex.size hE864
         exact OpR.want rfl rfl (hi863.dt 1 43 rfl rfl rfl) hb748 (Yl.sameI (yl_sindexN un9 (a := p_s) rfl (hi863.dt 2 44 rfl rfl rfl) (hi863.dt 3 45 rfl rfl rfl) Bo kI))
        ·exact oW rfl rfl rfl rfl hb748 fun h => yM rfl (h.old 1 _ rfl rfl) kI
        ·exact oW rfl rfl rfl rfl hb748 fun h => yM rfl (h.old 7 _ rfl rfl) kI
        ·intro L880 w881 hi882
         have hE883 := hi882.ex
         have hE883z := Ex.size hE883
         exact OpR.want rfl rfl (hi882.dt 1 43 rfl rfl rfl) hb748 (Yl.sameI (yl_sindexN un9 (a := p_more) rfl (hi882.dt 5 47 rfl rfl rfl) (hi882.dt 6 48 rfl rfl rfl) Bo kI))
        ·exact oW rfl rfl rfl rfl hb748 fun h => yl_eql rfl (h.dt 4 46 rfl rfl rfl) (h.dt 7 49 rfl rfl rfl) kI
        ·exact oI rfl fun h => yl_pick_f rfl (h.dt 1 43 rfl rfl rfl) hb748 (h.dt 8 50 rfl rfl rfl) kI
        ·exact oI rfl fun h => yA rfl (h.dt 9 51 rfl rfl rfl) kI
        ·intro fl908 fh909 L905 w906 hp907
         have hE910 := hp907.ex
         have hE910z := Ex.size hE910
         refine SeqR.done (bn (tn (CW.sub (sC 0 (hp907.old 0 _ rfl rfl) (sC 1 (hp907.old 1 _ rfl rfl) (sC 5 (hp907.old 5 _ rfl rfl) (sC 6 (hp907.nt 10 6 rfl rfl rfl) (sC 7 (hp907.old 7 _ rfl rfl) (sC 19 (hp907.old 19 _ rfl rfl) (sC 20 (hp907.old 20 _ rfl rfl) (sC 21 (hp907.old 21 _ rfl rfl) (sC 22 (hp907.old 22 _ rfl rfl) (sC 25 (hp907.old 25 _ rfl rfl) (sC 26 (hp907.old 26 _ rfl rfl) (sC 27 (hp907.old 27 _ rfl rfl) (sC 28 (hp907.old 28 _ rfl rfl) (sC 29 (hp907.old 29 _ rfl rfl) (sC 30 (hp907.old 30 _ rfl rfl) (sC 31 (hp907.old 31 _ rfl rfl) (sC 32 (hp907.old 32 _ rfl rfl) (sC 33 (hp907.old 33 _ rfl rfl) (sC 34 (hp907.old 34 _ rfl rfl) (sC 44 (hp907.nt 2 44 rfl rfl rfl) (sC 45 (hp907.nt 3 45 rfl rfl rfl) (sC 46 (hp907.nt 4 46 rfl rfl rfl) (sC 47 (hp907.nt 5 47 rfl rfl rfl) (sC 48 (hp907.nt 6 48 rfl rfl rfl) (sC 49 (hp907.nt 7 49 rfl rfl rfl) (sC 50 (hp907.nt 8 50 rfl rfl rfl) (Sub.nil _))))))))))))))))))))))))))) (CW.region (sM rfl (sd rfl (yl_inc rfl rfl rfl oM (sA rfl (SeqR.done ?_)))))))))
         refine tn ?_
         have hB937 : B_s_l3Bytes_1 p_s p_more k5 k715 (x716) = .cont (decide (((p_s.getD k5 0).toNat : Int) = ((p_more.getD k715 0).toNat : Int))) := by simp only [B_s_l3Bytes_1, hb21, hb714, hb748, cL]
         exact ⟨p_more.length - (k715 + 1), oM, k715 + 1, decide (((p_s.getD k5 0).toNat : Int) = ((p_more.getD k715 0).toNat : Int)), rfl, hlt747, oM, rfl, rfl, rfl, rfl, rfl, rfl, rfl, rfl, rfl, rfl, rfl, rfl, rfl, rfl, rfl, rfl, rfl, rfl, rfl, (Ex.trans hf745 hE910), (loopM.cont hlt747 hB937).symm.trans hI724⟩
      ·refine CW.seq (cR (sM rfl (sM rfl (sd rfl (yl_slen un9 (a := p_more) rfl rfl (sd rfl (yl_lss rfl rfl rfl (dn ?_))))))))
       refine CW.cond_f rfl (lt_f hlt747) (CW.exit (tx (tx ?_)))
       have hL939 : loopM (B_s_l3Bytes_1 p_s p_more k5) (p_more.length - 0) 0 (decide (((p_s.getD k5 0).toNat : Int) ≤ 57)) = .done (x716) := hI724.symm.trans (loopM.stop hlt747)
       refine bx (tn (cR (sM rfl (sd rfl (yl_not rfl rfl (dn (bcase (x716) (fun hb940 => ?_) (fun hb940 => ?_))))))))
       ·refine CW.cond_f rfl (not_t hb940) (CW.skip (bn (tn (CW.region (sM rfl (sd rfl (yl_inc rfl rfl rfl oM (sA rfl (SeqR.done ?_)))))))))
        refine tn ?_
        have hB941 : B_s_l3Bytes_0 p_s p_more k5 () = .cont () := by simp only [B_s_l3Bytes_0, hb21, hb714, hb940, hL939, cL]
        exact ⟨p_s.length - (k5 + 1), oM, k5 + 1, rfl, hlt20, oM, rfl, rfl, rfl, hf745, (loopM.cont hlt20 hB941).symm.trans hI13⟩
       ·refine CW.cond_t rfl (not_f hb940) (cR (sA rfl (dn (CW.ret (br (tr ?_))))))
        refine tr ?_
        have hB943 : B_s_l3Bytes_0 p_s p_more k5 () = .ret false := by simp only [B_s_l3Bytes_0, hb21, hb714, hb940, hL939, cL]
        have hL942 : loopM (B_s_l3Bytes_0 p_s p_more) (p_s.length - 0) 0 () = .ret false := hI13.symm.trans (loopM.ret hlt20 hB943)
        refine br (tr (rr rfl (.cons rfl .nil) ?_))
        have hM944 : (s_l3Bytes p_s p_more) = (false) := by simp only [s_l3Bytes, hb21, hb714, hb940, hL939, hL942, cL]
        rw [hM944]
        exact ⟨rfl, hf745⟩
    ·have hb714p := dec_f hb714
     refine sz rfl rfl hb714 (sz rfl rfl hb714 (sz rfl rfl hb714 (sz rfl rfl hb714 (sy rfl rfl rfl (yl_pick_f rfl rfl hb714 rfl (sd rfl (yl_pick_f rfl rfl rfl rfl (sA rfl (dn ?_)))))))))
     refine CW.seq (cR (sA rfl (dn (CW.block (CW.loop (fun m947 L948 w949 => ∃ (k945 : Nat) (x946 : Bool), m947 = p_more.length - k945 ∧ k945 ≤ p_more.length ∧ w11.heap.size ≤ w949.heap.size ∧ lkp L948 0 = some (.string (bs (p_s))) ∧ lkp L948 1 = some (.string (bs (p_more))) ∧ lkp L948 5 = some (.int .i64 ((k5 : Int))) ∧ lkp L948 6 = some (.bool (x946)) ∧ lkp L948 7 = some (.int .i64 ((k945 : Int))) ∧ lkp L948 19 = some (undef) ∧ lkp L948 20 = some (undef) ∧ lkp L948 21 = some (undef) ∧ lkp L948 22 = some (undef) ∧ lkp L948 25 = some (.string (bs (p_s))) ∧ lkp L948 26 = some (.int .i64 ((k5 : Int))) ∧ lkp L948 27 = some (.int .u8 (((p_s.getD k5 0).toNat : Int))) ∧ lkp L948 28 = some (.bool (decide (48 ≤ ((p_s.getD k5 0).toNat : Int)))) ∧ lkp L948 29 = some (.bool (decide (48 ≤ ((p_s.getD k5 0).toNat : Int)))) ∧ lkp L948 30 = some (undef) ∧ lkp L948 31 = some (undef) ∧ lkp L948 32 = some (undef) ∧ lkp L948 33 = some (undef) ∧ lkp L948 34 = some (.bool (false)) ∧ Ex w w949 ∧ loopM (B_s_l3Bytes_1 p_s p_more k5) (p_more.length - k945) k945 (x946) = loopM (B_s_l3Bytes_1 p_s p_more k5) (p_more.length - 0) 0 (false)) (p_more.length - 0) ?_ ?_)))))
     ·exact ⟨0, false, rfl, oM, Nat.le_refl _, rfl, rfl, rfl, rfl, rfl, rfl, rfl, rfl, rfl, rfl, rfl, rfl, rfl, rfl, rfl, rfl, rfl, rfl, rfl, hf18, rfl⟩
     ·rintro m950 L951 w952 ⟨k945, x946, rfl, hk953, hsz955, hl956, hl957, hl958, hl959, hl960, hl961, hl962, hl963, hl964, hl965, hl966, hl967, hl968, hl969, hl970, hl971, hl972, hl973, hl974, hf975, hI954⟩
      refine CW.sub (Sub.cons hl956 (Sub.cons hl957 (Sub.cons hl958 (Sub.cons hl959 (Sub.cons hl960 (Sub.cons hl961 (Sub.cons hl962 (Sub.cons hl963 (Sub.cons hl964 (Sub.cons hl965 (Sub.cons hl966 (Sub.cons hl967 (Sub.cons hl968 (Sub.cons hl969 (Sub.cons hl970 (Sub.cons hl971 (Sub.cons hl972 (Sub.cons hl973 (Sub.cons hl974 (Sub.nil _)))))))))))))))))))) ?_
      have hf975z := Ex.size hf975
      have hbg976 : p_more.length ≤ 1073741824 := o2
      rcases Nat.lt_or_ge k945 p_more.length with hlt977 | hlt977
      ·refine CW.seq (cR (sM rfl (sM rfl (sd rfl (yl_slen un9 (a := p_more) rfl rfl (sd rfl (yl_lss rfl rfl rfl (dn ?_))))))))
       refine CW.cond_t rfl (lt_t hlt977) (CW.skip (tn (CW.seq (CW.block (bcase (x946) (fun hb978 => ?_) (fun hb978 => ?_))))))
       ·refine drI 11 [.bool (x946), .bool (x946), undef, undef, undef, undef, undef, undef, undef, .bool (true), .bool (true)] Tryz.follows rfl ⟨?_, ?_, ?_, ?_, ?_, ?_, ?_, ?_, ?_, ?_, ?_, trivial⟩ ?_
        ·exact oI rfl fun h => yM rfl (h.old 6 _ rfl rfl) kI
        ·exact oI rfl fun h => yM rfl (h.dt 0 42 rfl rfl rfl) kI
        ·exact oS rfl rfl rfl rfl rfl hb978
        ·exact oS rfl rfl rfl rfl rfl hb978
        ·exact oS rfl rfl rfl rfl rfl hb978
        ·exact oS rfl rfl rfl rfl rfl hb978
        ·exact oS rfl rfl rfl rfl rfl hb978
        ·exact oS rfl rfl rfl rfl rfl hb978
        ·exact oS rfl rfl rfl rfl rfl hb978
        ·exact oI rfl fun h => yl_pick_t rfl (h.dt 1 43 rfl rfl rfl) hb978 rfl kI
        ·exact oI rfl fun h => yA rfl (h.dt 9 51 rfl rfl rfl) kI
        ·intro fl1038 fh1039 L1035 w1036 hp1037
         have hE1040 := hp1037.ex
         have hE1040z := Ex.size hE1040
         refine SeqR.done (bn (tn (CW.sub (sC 0 (hp1037.old 0 _ rfl rfl) (sC 1 (hp1037.old 1 _ rfl rfl) (sC 5 (hp1037.old 5 _ rfl rfl) (sC 6 (hp1037.nt 10 6 rfl rfl rfl) (sC 7 (hp1037.old 7 _ rfl rfl) (sC 19 (hp1037.old 19 _ rfl rfl) (sC 20 (hp1037.old 20 _ rfl rfl) (sC 21 (hp1037.old 21 _ rfl rfl) (sC 22 (hp1037.old 22 _ rfl rfl) (sC 25 (hp1037.old 25 _ rfl rfl) (sC 26 (hp1037.old 26 _ rfl rfl) (sC 27 (hp1037.old 27 _ rfl rfl) (sC 28 (hp1037.old 28 _ rfl rfl) (sC 29 (hp1037.old 29 _ rfl rfl) (sC 30 (hp1037.old 30 _ rfl rfl) (sC 31 (hp1037.old 31 _ rfl rfl) (sC 32 (hp1037.old 32 _ rfl rfl) (sC 33 (hp1037.old 33 _ rfl rfl) (sC 34 (hp1037.old 34 _ rfl rfl) (sC 44 (hp1037.nt 2 44 rfl rfl rfl) (sC 45 (hp1037.nt 3 45 rfl rfl rfl) (sC 46 (hp1037.nt 4 46 rfl rfl rfl) (sC 47 (hp1037.nt 5 47 rfl rfl rfl) (sC 48 (hp1037.nt 6 48 rfl rfl rfl) (sC 49 (hp1037.nt 7 49 rfl rfl rfl) (sC 50 (hp1037.nt 8 50 rfl rfl rfl) (Sub.nil _))))))))))))))))))))))))))) (CW.region (sM rfl (sd rfl (yl_inc rfl rfl rfl oM (sA rfl (SeqR.done ?_)))))))))
         refine tn ?_
         have hB1067 : B_s_l3Bytes_1 p_s p_more k5 k945 (x946) = .cont (true) := by simp only [B_s_l3Bytes_1, hb21, hb714, hb978, cL]
         exact ⟨p_more.length - (k945 + 1), oM, k945 + 1, true, rfl, hlt977, oM, rfl, rfl, rfl, rfl, rfl, rfl, rfl, rfl, rfl, rfl, rfl, rfl, rfl, rfl, rfl, rfl, rfl, rfl, rfl, (Ex.trans hf975 hE1040), (loopM.cont hlt977 hB1067).symm.trans hI954⟩
       ·refine drI 11 [.bool (x946), .bool (x946), .string (bs (p_s)), .int .i64 ((k5 : Int)), .int .u8 (((p_s.getD k5 0).toNat : Int)), .string (bs (p_more)), .int .i64 ((k945 : Int)), .int .u8 (((p_more.getD k945 0).toNat : Int)), .bool (decide (((p_s.getD k5 0).toNat : Int) = ((p_more.getD k945 0).toNat : Int))), .bool (decide (((p_s.getD k5 0).toNat : Int) = ((p_more.getD k945 0).toNat : Int))), .bool (decide (((p_s.getD k5 0).toNat : Int) = ((p_more.getD k945 0).toNat : Int)))] Tryz.follows rfl ⟨?_, ?_, ?_, ?_, ?_, ?_, ?_, ?_, ?_, ?_, ?_, trivial⟩ ?_
        ·exact oI rfl fun h => yM rfl (h.old 6 _ rfl rfl) kI
        ·exact oI rfl fun h => yM rfl (h.dt 0 42 rfl rfl rfl) kI
        ·exact oW rfl rfl rfl rfl hb978 fun h => yM rfl (h.old 0 _ rfl rfl) kI
        ·exact oW rfl rfl rfl rfl hb978 fun h => yM rfl (h.old 5 _ rfl rfl) kI
        ·intro L1091 w1092 hi1093
         have hE1094 := hi1093.ex
         have hE1094z := Ex.size hE1094
         exact OpR.want rfl rfl (hi1093.dt 1 43 rfl rfl rfl) hb978 (Yl.sameI (yl_sindexN un9 (a := p_s) rfl (hi1093.dt 2 44 rfl rfl rfl) (hi1093.dt 3 45 rfl rfl rfl) Bo kI))
        ·exact oW rfl rfl rfl rfl hb978 fun h => yM rfl (h.old 1 _ rfl rfl) kI
        ·exact oW rfl rfl rfl rfl hb978 fun h => yM rfl (h.old 7 _ rfl rfl) kI
        ·intro L1110 w1111 hi1112
         have hE1113 := hi1112.ex
         have hE1113z := Ex.size hE1113
         exact OpR.want rfl rfl (hi1112.dt 1 43 rfl rfl rfl) hb978 (Yl.sameI (yl_sindexN un9 (a := p_more) rfl (hi1112.dt 5 47 rfl rfl rfl) (hi1112.dt 6 48 rfl rfl rfl) Bo kI))
        ·exact oW rfl rfl rfl rfl hb978 fun h => yl_eql rfl (h.dt 4 46 rfl rfl rfl) (h.dt 7 49 rfl rfl rfl) kI
        ·exact oI rfl fun h => yl_pick_f rfl (h.dt 1 43 rfl rfl rfl) hb978 (h.dt 8 50 rfl rfl rfl) kI
        ·exact oI rfl fun h => yA rfl (h.dt 9 51 rfl rfl rfl) kI
        ·intro fl1138 fh1139 L1135 w1136 hp1137
         have hE1140 := hp1137.ex
         have hE1140z := Ex.size hE1140
         refine SeqR.done (bn (tn (CW.sub (sC 0 (hp1137.old 0 _ rfl rfl) (sC 1 (hp1137.old 1 _ rfl rfl) (sC 5 (hp1137.old 5 _ rfl rfl) (sC 6 (hp1137.nt 10 6 rfl rfl rfl) (sC 7 (hp1137.old 7 _ rfl rfl) (sC 19 (hp1137.old 19 _ rfl rfl) (sC 20 (hp1137.old 20 _ rfl rfl) (sC 21 (hp1137.old 21 _ rfl rfl) (sC 22 (hp1137.old 22 _ rfl rfl) (sC 25 (hp1137.old 25 _ rfl rfl) (sC 26 (hp1137.old 26 _ rfl rfl) (sC 27 (hp1137.old 27 _ rfl rfl) (sC 28 (hp1137.old 28 _ rfl rfl) (sC 29 (hp1137.old 29 _ rfl rfl) (sC 30 (hp1137.old 30 _ rfl rfl) (sC 31 (hp1137.old 31 _ rfl rfl) (sC 32 (hp1137.old 32 _ rfl rfl) (sC 33 (hp1137.old 33 _ rfl rfl) (sC 34 (hp1137.old 34 _ rfl rfl) (sC 44 (hp1137.nt 2 44 rfl rfl rfl) (sC 45 (hp1137.nt 3 45 rfl rfl rfl) (sC 46 (hp1137.nt 4 46 rfl rfl rfl) (sC 47 (hp1137.nt 5 47 rfl rfl rfl) (sC 48 (hp1137.nt 6 48 rfl rfl rfl) (sC 49 (hp1137.nt 7 49 rfl rfl rfl) (sC 50 (hp1137.nt 8 50 rfl rfl rfl) (Sub.nil _))))))))))))))))))))))))))) (CW.region (sM rfl (sd rfl (yl_inc rfl rfl rfl oM (sA rfl (SeqR.done ?_)))))))))
         refine tn ?_
         have hB1167 : B_s_l3Bytes_1 p_s p_more k5 k945 (x946) = .cont (decide (((p_s.getD k5 0).toNat : Int) = ((p_more.getD k945 0).toNat : Int))) := by simp only [B_s_l3Bytes_1, hb21, hb714, hb978, cL]
         exact ⟨p_more.length - (k945 + 1), oM, k945 + 1, decide (((p_s.getD k5 0).toNat : Int) = ((p_more.getD k945 0).toNat : Int)), rfl, hlt977, oM, rfl, rfl, rfl, rfl, rfl, rfl, rfl, rfl, rfl, rfl, rfl, rfl, rfl, rfl, rfl, rfl, rfl, rfl, rfl, (Ex.trans hf975 hE1140), (loopM.cont hlt977 hB1167).symm.trans hI954⟩
      ·refine CW.seq (cR (sM rfl (sM rfl (sd rfl (yl_slen un9 (a := p_more) rfl rfl (sd rfl (yl_lss rfl rfl rfl (dn ?_))))))))
       refine CW.cond_f rfl (lt_f hlt977) (CW.exit (tx (tx ?_)))
       have hL1169 : loopM (B_s_l3Bytes_1 p_s p_more k5) (p_more.length - 0) 0 (false) = .done (x946) := hI954.symm.trans (loopM.stop hlt977)
       refine bx (tn (cR (sM rfl (sd rfl (yl_not rfl rfl (dn (bcase (x946) (fun hb1170 => ?_) (fun hb1170 => ?_))))))))
       ·refine CW.cond_f rfl (not_t hb1170) (CW.skip (bn (tn (CW.region (sM rfl (sd rfl (yl_inc rfl rfl rfl oM (sA rfl (SeqR.done ?_)))))))))
        refine tn ?_
        have hB1171 : B_s_l3Bytes_0 p_s p_more k5 () = .cont () := by simp only [B_s_l3Bytes_0, hb21, hb714, hb1170, hL1169, cL]
        exact ⟨p_s.length - (k5 + 1), oM, k5 + 1, rfl, hlt20, oM, rfl, rfl, rfl, hf975, (loopM.cont hlt20 hB1171).symm.trans hI13⟩
       ·refine CW.cond_t rfl (not_f hb1170) (cR (sA rfl (dn (CW.ret (br (tr ?_))))))
        refine tr ?_
        have hB1173 : B_s_l3Bytes_0 p_s p_more k5 () = .ret false := by simp only [B_s_l3Bytes_0, hb21, hb714, hb1170, hL1169, cL]
        have hL1172 : loopM (B_s_l3Bytes_0 p_s p_more) (p_s.length - 0) 0 () = .ret false := hI13.symm.trans (loopM.ret hlt20 hB1173)
        refine br (tr (rr rfl (.cons rfl .nil) ?_))
        have hM1174 : (s_l3Bytes p_s p_more) = (false) := by simp only [s_l3Bytes, hb21, hb714, hb1170, hL1169, hL1172, cL]
        rw [hM1174]
        exact ⟨rfl, hf975⟩
  ·refine CW.seq (cR (sM rfl (sM rfl (sd rfl (yl_slen un9 (a := p_s) rfl rfl (sd rfl (yl_lss rfl rfl rfl (dn ?_))))))))
   refine CW.cond_f rfl (lt_f hlt20) (CW.exit (tx (tx ?_)))
   have hL1175 : loopM (B_s_l3Bytes_0 p_s p_more) (p_s.length - 0) 0 () = .done () := hI13.symm.trans (loopM.stop hlt20)
   refine bx (tn (cR (sA rfl (dn (CW.ret (rr rfl (.cons rfl .nil) ?_))))))
   have hM1176 : (s_l3Bytes p_s p_more) = (true) := by simp only [s_l3Bytes, hL1175, cL]
   rw [hM1176]
   exact ⟨rfl, hf18⟩
theorem c_s_l25Field {w : World} (p_s : Str) (o1 : okS p_s) : Cal Tryz.prog 75 #[.string (bs (p_s))] w fun v w' => v = .bool ((s_l25Field p_s)) ∧ Ex w w' := by
 refine Cal.of func75 rfl ntmps75 rfl (cR (sA rfl (dn (cR (sM rfl ?_)))))
 refine sd rfl (yl_slen un9 (a := p_s) rfl rfl (sd rfl (yC en72 rfl (oc rfl (oc rfl (oc rfl oz))) (Cal.mono (c_s_l1In (p_s.length : Int) 1 3) ?_))))
 rintro v4 w3 ⟨rfl, hE5⟩
 refine sM rfl (bcase (s_l1In (p_s.length : Int) 1 3) (fun hb6 => ?_) (fun hb6 => ?_))
 ·have hb6p := f_l1In hb6
  refine sy rfl rfl hb6 (yM rfl rfl (sy rfl rfl hb6 (yC en105 rfl (oc rfl (oc rfl oz)) (Cal.mono (c_s_l3Bytes p_s ([] : Str) o1 (okS.lit rfl)) ?_))))
  rintro v8 w7 ⟨rfl, hE9⟩
  refine sd rfl (yl_pick_t rfl rfl hb6 rfl (sA rfl (dn (CW.ret (rr rfl (.cons rfl .nil) ?_)))))
  have hM10 : (s_l25Field p_s) = ((s_l3Bytes p_s ([] : Str))) := by simp only [s_l25Field, hb6, cL]
  rw [hM10]
  exact ⟨rfl, (Ex.trans (Ex.trans (Ex.refl w) hE5) hE9)⟩
 ·refine sz rfl rfl hb6 (sz rfl rfl hb6 (sd rfl (yl_pick_f rfl rfl hb6 rfl (sA rfl (dn (CW.ret (rr rfl (.cons rfl .nil) ?_)))))))
  have hM13 : (s_l25Field p_s) = (false) := by simp only [s_l25Field, hb6, cL]
  rw [hM13]
  exact ⟨rfl, (Ex.trans (Ex.refl w) hE5)⟩
theorem c_s_l25Good {A1 : Option Addr} {c1 : Nat} {A2 : Option Addr} {c2 : Nat} {A4 : Option Addr} {c4 : Nat} {w : World} (p_t : DTable) (p_r : DRow) (h1 : RdS w (Iv 0 w.heap.size) (RF e_Str) 1 A1 p_t.Cols.length c1 p_t.Cols) (h2 : RdS w (Iv 0 w.heap.size) (RF e_Idx) 3 A2 p_t.Idxs.length c2 p_t.Idxs) (h4 : RdS w (Iv 0 w.heap.size) (RF e_Str) 1 A4 p_r.Vals.length c4 p_r.Vals) (o3 : ok_Table p_t) (o5 : ok_Row p_r) : Cal Tryz.prog 104 #[.agg #[.string (bs (p_t.Name)), .slice A1 p_t.Cols.length c1, .slice A2 p_t.Idxs.length c2], .agg #[.slice A4 p_r.Vals.length c4]] w fun v w' => v = .bool ((s_l25Good p_t p_r)) ∧ Ex w w' := by
 have hol6 : p_t.Name.length ≤ 1073741824 := o3.1
 have hol7 := o3.2.1.1
 have hol8 := o3.2.2.1
 have hol9 := o5.1
 refine Cal.of func104 rfl ntmps104 rfl (cR (sd rfl (yl_box rfl rfl rfl ?_)))
 intro b10 w11 hs12 hz13 hB14 hE15
 refine sd rfl (yl_box rfl rfl rfl ?_)
 intro b16 w17 hs18 hz19 hB20 hE21
 refine sA rfl (dn (CW.seq (cR (sd rfl (yl_fieldAddr fd45_0 rfl rfl (sd rfl (yl_load1 ty22 rfl rfl ((hB20.cell 0).trans rfl) (sd rfl (yL un22 rfl rfl ?_)))))))))
 refine sM rfl (dn (CW.block (CW.loop (fun m23 L24 w25 => ∃ (k22 : Nat), m23 = p_r.Vals.length - k22 ∧ k22 ≤ p_r.Vals.length ∧ w17.heap.size ≤ w25.heap.size ∧ lkp L24 2 = some (.pointer (some ⟨b10, 0, none⟩)) ∧ lkp L24 3 = some (.pointer (some ⟨b16, 0, none⟩)) ∧ lkp L24 8 = some (.slice A4 p_r.Vals.length c4) ∧ lkp L24 9 = some (.int .i64 ((p_r.Vals.length : Int))) ∧ lkp L24 10 = some (.int .i64 ((k22 : Int))) ∧ Box w25 b10 41 [.string (bs (p_t.Name)), .slice A1 p_t.Cols.length c1, .slice A2 p_t.Idxs.length c2] ∧ RdS w25 (Iv 0 w.heap.size) (RF e_Str) 1 A1 p_t.Cols.length c1 p_t.Cols ∧ RdS w25 (Iv 0 w.heap.size) (RF e_Idx) 3 A2 p_t.Idxs.length c2 p_t.Idxs ∧ Box w25 b16 45 [.slice A4 p_r.Vals.length c4] ∧ RdS w25 (Iv 0 w.heap.size) (RF e_Str) 1 A4 p_r.Vals.length c4 p_r.Vals ∧ Ex w w25 ∧ loopM (B_s_l25Good_0 p_t p_r) (p_r.Vals.length - k22) k22 () = loopM (B_s_l25Good_0 p_t p_r) (p_r.Vals.length - 0) 0 ()) (p_r.Vals.length - 0) ?_ ?_)))
 ·exact ⟨0, rfl, oM, Nat.le_refl _, rfl, rfl, rfl, rfl, rfl, (Box.ex hB14 hE21), (RdS.ex gS (RdS.ex gS h1 hE15) hE21), (RdS.ex gI (RdS.ex gI h2 hE15) hE21), hB20, (RdS.ex gS (RdS.ex gS h4 hE15) hE21), (Ex.trans (Ex.trans (Ex.refl w) hE15) hE21), rfl⟩
 ·rintro m35 L36 w37 ⟨k22, rfl, hk38, hsz40, hl41, hl42, hl43, hl44, hl45, hf46, hf47, hf48, hf49, hf50, hf51, hI39⟩
  refine CW.sub (Sub.cons hl41 (Sub.cons hl42 (Sub.cons hl43 (Sub.cons hl44 (Sub.cons hl45 (Sub.nil _)))))) ?_
  have hf46z := Box.lt hf46
  have hf49z := Box.lt hf49
  have hf51z := Ex.size hf51
  have hbg52 := RdS.big hf50
  rcases Nat.lt_or_ge k22 p_r.Vals.length with hlt53 | hlt53
  ·refine cR (sd rfl (yl_lss rfl rfl rfl (dn (CW.seq (CW.cond_t rfl (lt_t hlt53) (CW.skip (tn ?_)))))))
   refine CW.seq (CW.block (cR ?_))
   obtain ⟨eb54, eo54, _, eA54, _, ebl54, _, eR54, eC54⟩ := RdS.aD hf50 d_Str (i := k22)
   obtain rfl := eR54
   have eC54 : Cells w37 eb54 (eo54 + k22 * 1) [.string (bs ((p_r.Vals.getD k22 d_Str)))] := eC54
   refine sd rfl (yl_ixN un22 ty9 rfl rfl rfl eA54 (sd rfl (yl_load1 ty9 rfl rfl (eC54 0 _ rfl) (sA rfl (dn (cR (sM rfl (sd rfl (yC en75 rfl (oc rfl oz) (Cal.mono (c_s_l25Field (p_r.Vals.getD k22 d_Str) (okL.getD o5 ok_d_Str _)) ?_))))))))))
   rintro v56 w55 ⟨rfl, hE57⟩
   have hE57z := Ex.size hE57
   refine sd rfl (yl_not rfl rfl (dn (bcase (s_l25Field (p_r.Vals.getD k22 d_Str)) (fun hb58 => ?_) (fun hb58 => ?_))))
   ·refine CW.cond_f rfl (not_t hb58) (CW.skip (bn (tn (CW.region (sd rfl (yl_inc rfl rfl rfl oM (sM rfl (dn ?_))))))))
    have hB59 : B_s_l25Good_0 p_t p_r k22 () = .cont () := by simp only [B_s_l25Good_0, hb58, cL]
    exact ⟨p_r.Vals.length - (k22 + 1), oM, k22 + 1, rfl, hlt53, oM, rfl, rfl, rfl, rfl, rfl, (Box.ex hf46 hE57), (RdS.ex gS hf47 hE57), (RdS.ex gI hf48 hE57), (Box.ex hf49 hE57), (RdS.ex gS hf50 hE57), (Ex.trans hf51 hE57), (loopM.cont hlt53 hB59).symm.trans hI39⟩
   ·refine CW.cond_t rfl (not_f hb58) (cR (sA rfl (dn (CW.ret (br (tr ?_))))))
    refine tr ?_
    have hB67 : B_s_l25Good_0 p_t p_r k22 () = .ret false := by simp only [B_s_l25Good_0, hb58, cL]
    have hL66 : loopM (B_s_l25Good_0 p_t p_r) (p_r.Vals.length - 0) 0 () = .ret false := hI39.symm.trans (loopM.ret hlt53 hB67)
    refine br (tr (rr rfl (.cons rfl .nil) ?_))
    have hM68 : (s_l25Good p_t p_r) = (false) := by simp only [s_l25Good, hb58, hL66, cL]
    rw [hM68]
    exact ⟨rfl, (Ex.trans hf51 hE57)⟩
  ·refine cR (sd rfl (yl_lss rfl rfl rfl (dn (CW.seq (CW.cond_f rfl (lt_f hlt53) (CW.exit (tx ?_)))))))
   refine tx ?_
   have hL70 : loopM (B_s_l25Good_0 p_t p_r) (p_r.Vals.length - 0) 0 () = .done () := hI39.symm.trans (loopM.stop hlt53)
   refine bx (tn (cR (sd rfl (yl_fieldAddr fd45_0 rfl rfl (sd rfl (yl_load1 ty22 rfl rfl ((hf49.cell 0).trans rfl) (sd rfl (yL un22 rfl rfl (sd rfl (yl_fieldAddr fd41_1 rfl rfl (sd rfl (yl_load1 ty22 rfl rfl ((hf46.cell 1).trans rfl) ?_))))))))))))
   refine sd rfl (yL un22 rfl rfl (sd rfl (yl_eql rfl rfl rfl (sA rfl (dn (CW.ret (rr rfl (.cons rfl .nil) ?_)))))))
   have hM71 : (s_l25Good p_t p_r) = (decide ((p_r.Vals.length : Int) = (p_t.Cols.length : Int))) := by simp only [s_l25Good, hL70, cL]
   rw [hM71]
   exact ⟨rfl, hf51⟩
theorem c_s_l26Good {A1 : Option Addr} {c1 : Nat} {A2 : Option Addr} {c2 : Nat} {A4 : Option Addr} {c4 : Nat} {A5 : Option Addr} {c5 : Nat} {w : World} (p_t : DTable) (p_a : DRowAct) (h1 : RdS w (Iv 0 w.heap.size) (RF e_Str) 1 A1 p_t.Cols.length c1 p_t.Cols) (h2 : RdS w (Iv 0 w.heap.size) (RF e_Idx) 3 A2 p_t.Idxs.length c2 p_t.Idxs) (h4 : RdS w (Iv 0 w.heap.size) (RF e_Str) 1 A4 p_a.Old.Vals.length c4 p_a.Old.Vals) (h5 : RdS w (Iv 0 w.heap.size) (RF e_Str) 1 A5 p_a.New.Vals.length c5 p_a.New.Vals) (o3 : ok_Table p_t) (o6 : ok_RowAct p_a) (pre0 : (p_a.Kind = 3 → 0 < p_t.Cols.length ∨ 0 < p_a.Old.Vals.length)) : Cal Tryz.prog 73 #[.agg #[.string (bs (p_t.Name)), .slice A1 p_t.Cols.length c1, .slice A2 p_t.Idxs.length c2], .agg #[.int .i64 (p_a.Kind), .slice A4 p_a.Old.Vals.length c4, .slice A5 p_a.New.Vals.length c5]] w fun v w' => v = .bool ((s_l26Good p_t p_a)) ∧ Ex w w' := by
 have hol7 : p_t.Name.length ≤ 1073741824 := o3.1
 have hol8 := o3.2.1.1
 have hol9 := o3.2.2.1
 have hol10 := o6.1.1
 have hol11 := o6.2.1
 refine Cal.of func73 rfl ntmps73 rfl (cR (sd rfl (yl_box rfl rfl rfl ?_)))
 intro b12 w13 hs14 hz15 hB16 hE17
 refine sd rfl (yl_box rfl rfl rfl ?_)
 intro b18 w19 hs20 hz21 hB22 hE23
 refine sA rfl (dn (CW.seq (cR (sd rfl (yl_fieldAddr fd47_0 rfl rfl (sd rfl (yl_load1 ty3 rfl rfl ((hB22.cell 0).trans rfl) (SeqR.done ?_))))))))
 refine tn (CW.block (cR (sd rfl (yl_eql rfl rfl rfl (sA rfl (dn (bcase (decide (p_a.Kind = 1)) (fun hb24 => ?_) (fun hb24 => ?_))))))))
 ·have hb24p := dec_t hb24
  refine CW.cond_t rfl hb24 (cR (sd rfl (yl_fieldAddr fd47_1 rfl rfl (sd rfl (yl_fieldAddr fd45_0 rfl rfl (sd rfl (yl_load1 ty22 rfl rfl ((hB22.cell 1).trans rfl) (sd rfl (yL un22 rfl rfl (sd rfl (yl_eql rfl rfl rfl (sM rfl ?_))))))))))))
  refine bcase (decide ((p_a.Old.Vals.length : Int) = 0)) (fun hb25 => ?_) (fun hb25 => ?_)
  ·have hb25p := dec_t hb25
   refine sy rfl rfl hb25 (yl_loadN ty41 rfl rfl ((Box.ex hB16 hE23).cells (n := 3) rfl) rfl (sy rfl rfl hb25 (yl_fieldAddr fd47_2 rfl rfl (sy rfl rfl hb25 (yl_loadN ty45 rfl rfl (hB22.cells (n := 1) rfl) rfl (sy rfl rfl hb25 (yC en104 rfl (oc rfl (oc rfl oz)) (Cal.mono (c_s_l25Good p_t p_a.New (RdS.up (RdS.ex gS (RdS.ex gS h1 hE17) hE23) gS) (RdS.up (RdS.ex gI (RdS.ex gI h2 hE17) hE23) gI) (RdS.up (RdS.ex gS (RdS.ex gS h5 hE17) hE23) gS) o3 o6.2) ?_))))))))
   rintro v34 w33 ⟨rfl, hE35⟩
   have hE35z := Ex.size hE35
   refine sd rfl (yl_pick_t rfl rfl hb25 rfl (sA rfl (dn (CW.ret (br (tr (rr rfl (.cons rfl .nil) ?_)))))))
   have hM36 : (s_l26Good p_t p_a) = ((s_l25Good p_t p_a.New)) := by simp only [s_l26Good, hb24, hb25, cL]
   rw [hM36]
   exact ⟨rfl, (Ex.trans (Ex.trans (Ex.trans (Ex.refl w) hE17) hE23) hE35)⟩
  ·have hb25p := dec_f hb25
   refine sz rfl rfl hb25 (sz rfl rfl hb25 (sz rfl rfl hb25 (sz rfl rfl hb25 (sd rfl (yl_pick_f rfl rfl hb25 rfl (sA rfl (dn (CW.ret ?_))))))))
   refine br (tr (rr rfl (.cons rfl .nil) ?_))
   have hM40 : (s_l26Good p_t p_a) = (false) := by simp only [s_l26Good, hb24, hb25, cL]
   rw [hM40]
   exact ⟨rfl, (Ex.trans (Ex.trans (Ex.refl w) hE17) hE23)⟩
 ·have hb24p := dec_f hb24
  refine CW.cond_f rfl hb24 (cR (sd rfl (yl_eql rfl rfl rfl (sA rfl (dn (bcase (decide (p_a.Kind = 2)) (fun hb43 => ?_) (fun hb43 => ?_)))))))
  ·have hb43p := dec_t hb43
   refine CW.cond_t rfl hb43 (cR (sd rfl (yl_fieldAddr fd47_2 rfl rfl (sd rfl (yl_fieldAddr fd45_0 rfl rfl (sd rfl (yl_load1 ty22 rfl rfl ((hB22.cell 2).trans rfl) (sd rfl (yL un22 rfl rfl (sd rfl (yl_eql rfl rfl rfl (sM rfl ?_))))))))))))
   refine bcase (decide ((p_a.New.Vals.length : Int) = 0)) (fun hb44 => ?_) (fun hb44 => ?_)
   ·have hb44p := dec_t hb44
    refine sy rfl rfl hb44 (yl_loadN ty41 rfl rfl ((Box.ex hB16 hE23).cells (n := 3) rfl) rfl (sy rfl rfl hb44 (yl_fieldAddr fd47_1 rfl rfl (sy rfl rfl hb44 (yl_loadN ty45 rfl rfl (hB22.cells (n := 1) rfl) rfl (sy rfl rfl hb44 (yC en104 rfl (oc rfl (oc rfl oz)) (Cal.mono (c_s_l25Good p_t p_a.Old (RdS.up (RdS.ex gS (RdS.ex gS h1 hE17) hE23) gS) (RdS.up (RdS.ex gI (RdS.ex gI h2 hE17) hE23) gI) (RdS.up (RdS.ex gS (RdS.ex gS h4 hE17) hE23) gS) o3 o6.1) ?_))))))))
    rintro v53 w52 ⟨rfl, hE54⟩
    have hE54z := Ex.size hE54
    refine sd rfl (yl_pick_t rfl rfl hb44 rfl (sA rfl (dn (CW.ret (br (tr (rr rfl (.cons rfl .nil) ?_)))))))
    have hM55 : (s_l26Good p_t p_a) = ((s_l25Good p_t p_a.Old)) := by simp only [s_l26Good, hb24, hb43, hb44, cL]
    rw [hM55]
    exact ⟨rfl, (Ex.trans (Ex.trans (Ex.trans (Ex.refl w) hE17) hE23) hE54)⟩
   ·have hb44p := dec_f hb44
    refine sz rfl rfl hb44 (sz rfl rfl hb44 (sz rfl rfl hb44 (sz rfl rfl hb44 (sd rfl (yl_pick_f rfl rfl hb44 rfl (sA rfl (dn (CW.ret ?_))))))))
    refine br (tr (rr rfl (.cons rfl .nil) ?_))
    have hM59 : (s_l26Good p_t p_a) = (false) := by simp only [s_l26Good, hb24, hb43, hb44, cL]
    rw [hM59]
    exact ⟨rfl, (Ex.trans (Ex.trans (Ex.refl w) hE17) hE23)⟩
  ·have hb43p := dec_f hb43
   refine CW.cond_f rfl hb43 (cR (sd rfl (yl_eql rfl rfl rfl (sA rfl (dn (bcase (decide (p_a.Kind = 3)) (fun hb62 => ?_) (fun hb62 => ?_)))))))
   ·have hb62p := dec_t hb62
    refine CW.cond_t rfl hb62 (CW.seq (bcase (s_l25Good p_t p_a.Old) (fun hb71 => ?_) (fun hb71 => ?_)))
    ·obtain ⟨hb71p0, hb71p1⟩ := f_s_l25Good hb71
     refine bcase (s_l25Good p_t p_a.New) (fun hb83 => ?_) (fun hb83 => ?_)
     ·obtain ⟨hb83p0, hb83p1⟩ := f_s_l25Good hb83
      have q84 := Box.ex hB16 hE23
      have q86 := RdS.ex gS (RdS.ex gS h1 hE17) hE23
      have q88 := RdS.ex gI (RdS.ex gI h2 hE17) hE23
      have q90 := RdS.ex gS (RdS.ex gS h4 hE17) hE23
      have q93 := RdS.ex gS (RdS.ex gS h5 hE17) hE23
      obtain ⟨eb95, eo95, _, eA95, _, ebl95, _, eR95, eC95⟩ := RdS.aD q90 d_Str (i := 0)
      obtain rfl := eR95
      have eC95 : Cells w19 eb95 (eo95 + 0 * 1) [.string (bs ((p_a.Old.Vals.getD 0 d_Str)))] := eC95
      obtain ⟨eb96, eo96, _, eA96, _, ebl96, _, eR96, eC96⟩ := RdS.aD q93 d_Str (i := 0)
      obtain rfl := eR96
      have eC96 : Cells w19 eb96 (eo96 + 0 * 1) [.string (bs ((p_a.New.Vals.getD 0 d_Str)))] := eC96
      refine drI 24 [.agg #[.string (bs (p_t.Name)), .slice A1 p_t.Cols.length c1, .slice A2 p_t.Idxs.length c2], .pointer (some ⟨b18, 0 + 1, none⟩), .agg #[.slice A4 p_a.Old.Vals.length c4], .bool ((s_l25Good p_t p_a.Old)), .bool ((s_l25Good p_t p_a.Old)), .agg #[.string (bs (p_t.Name)), .slice A1 p_t.Cols.length c1, .slice A2 p_t.Idxs.length c2], .pointer (some ⟨b18, 0 + 2, none⟩), .agg #[.slice A5 p_a.New.Vals.length c5], .bool ((s_l25Good p_t p_a.New)), .bool ((s_l25Good p_t p_a.New)), .bool ((s_l25Good p_t p_a.New)), .pointer (some ⟨b18, 0 + 1, none⟩), .pointer (some ⟨b18, 0 + 1 + 0, none⟩), .slice A4 p_a.Old.Vals.length c4, .pointer (some ⟨eb95, eo95 + 0 * 1, none⟩), .string (bs ((p_a.Old.Vals.getD 0 d_Str))), .pointer (some ⟨b18, 0 + 2, none⟩), .pointer (some ⟨b18, 0 + 2 + 0, none⟩), .slice A5 p_a.New.Vals.length c5, .pointer (some ⟨eb96, eo96 + 0 * 1, none⟩), .string (bs ((p_a.New.Vals.getD 0 d_Str))), .bool ((p_a.Old.Vals.getD 0 d_Str) == (p_a.New.Vals.getD 0 d_Str)), .bool ((p_a.Old.Vals.getD 0 d_Str) == (p_a.New.Vals.getD 0 d_Str)), .bool ((p_a.Old.Vals.getD 0 d_Str) == (p_a.New.Vals.getD 0 d_Str))] Tryz.follows rfl ⟨?_, ?_, ?_, ?_, ?_, ?_, ?_, ?_, ?_, ?_, ?_, ?_, ?_, ?_, ?_, ?_, ?_, ?_, ?_, ?_, ?_, ?_, ?_, ?_, trivial⟩ ?_
      ·exact oI rfl fun h => yl_loadN ty41 rfl (h.old 2 _ rfl rfl) ((Box.ex q84 h.ex).cells (n := 3) rfl) rfl kI
      ·exact oI rfl fun h => yl_fieldAddr fd47_1 rfl (h.old 3 _ rfl rfl) kI
      ·exact oI rfl fun h => yl_loadN ty45 rfl (h.dt 1 36 rfl rfl rfl) ((Box.ex hB22 h.ex).cells (n := 1) rfl) rfl kI
      ·intro L114 w115 hi116
       have hE117 := hi116.ex
       exact OpR.op' rfl (yC en104 rfl (oc (hi116.dt 0 35 rfl rfl rfl) (oc (hi116.dt 2 37 rfl rfl rfl) oz)) (Cal.mono (c_s_l25Good p_t p_a.Old (RdS.up (RdS.ex gS q86 hE117) gS) (RdS.up (RdS.ex gI q88 hE117) gI) (RdS.up (RdS.ex gS q90 hE117) gS) o3 o6.1) fun _ _ h => h))
      ·exact oI rfl fun h => yM rfl (h.dt 3 38 rfl rfl rfl) kI
      ·exact oW rfl rfl rfl rfl hb71 fun h => yl_loadN ty41 rfl (h.old 2 _ rfl rfl) ((Box.ex q84 h.ex).cells (n := 3) rfl) rfl kI
      ·exact oW rfl rfl rfl rfl hb71 fun h => yl_fieldAddr fd47_2 rfl (h.old 3 _ rfl rfl) kI
      ·exact oW rfl rfl rfl rfl hb71 fun h => yl_loadN ty45 rfl (h.dt 6 41 rfl rfl rfl) ((Box.ex hB22 h.ex).cells (n := 1) rfl) rfl kI
      ·intro L151 w152 hi153
       have hE154 := hi153.ex
       exact OpR.want rfl rfl (hi153.dt 4 39 rfl rfl rfl) hb71 (yC en104 rfl (oc (hi153.dt 5 40 rfl rfl rfl) (oc (hi153.dt 7 42 rfl rfl rfl) oz)) (Cal.mono (c_s_l25Good p_t p_a.New (RdS.up (RdS.ex gS q86 hE154) gS) (RdS.up (RdS.ex gI q88 hE154) gI) (RdS.up (RdS.ex gS q93 hE154) gS) o3 o6.2) fun _ _ h => h))
      ·exact oI rfl fun h => yl_pick_t rfl (h.dt 4 39 rfl rfl rfl) hb71 (h.dt 8 43 rfl rfl rfl) kI
      ·exact oI rfl fun h => yM rfl (h.dt 9 44 rfl rfl rfl) kI
      ·exact oW rfl rfl rfl rfl hb83 fun h => yl_fieldAddr fd47_1 rfl (h.old 3 _ rfl rfl) kI
      ·exact oW rfl rfl rfl rfl hb83 fun h => yl_fieldAddr fd45_0 rfl (h.dt 11 46 rfl rfl rfl) kI
      ·exact oW rfl rfl rfl rfl hb83 fun h => yl_load1 ty22 rfl (h.dt 12 47 rfl rfl rfl) (((Box.ex hB22 h.ex).cell 1).trans rfl) kI
      ·intro L194 w195 hi196
       have hE197 := hi196.ex
       have hE197z := Ex.size hE197
       exact OpR.want rfl rfl (hi196.dt 10 45 rfl rfl rfl) hb83 (Yl.sameI (yl_ixN un22 ty9 rfl (hi196.dt 13 48 rfl rfl rfl) rfl eA95 kI))
      ·exact oW rfl rfl rfl rfl hb83 fun h => yl_load1 ty9 rfl (h.dt 14 49 rfl rfl rfl) ((Cells.ex eC95 h.ex) 0 _ rfl) kI
      ·exact oW rfl rfl rfl rfl hb83 fun h => yl_fieldAddr fd47_2 rfl (h.old 3 _ rfl rfl) kI
      ·exact oW rfl rfl rfl rfl hb83 fun h => yl_fieldAddr fd45_0 rfl (h.dt 16 51 rfl rfl rfl) kI
      ·exact oW rfl rfl rfl rfl hb83 fun h => yl_load1 ty22 rfl (h.dt 17 52 rfl rfl rfl) (((Box.ex hB22 h.ex).cell 2).trans rfl) kI
      ·intro L226 w227 hi228
       have hE229 := hi228.ex
       have hE229z := Ex.size hE229
       exact OpR.want rfl rfl (hi228.dt 10 45 rfl rfl rfl) hb83 (Yl.sameI (yl_ixN un22 ty9 rfl (hi228.dt 18 53 rfl rfl rfl) rfl eA96 kI))
      ·exact oW rfl rfl rfl rfl hb83 fun h => yl_load1 ty9 rfl (h.dt 19 54 rfl rfl rfl) ((Cells.ex eC96 h.ex) 0 _ rfl) kI
      ·exact oW rfl rfl rfl rfl hb83 fun h => yl_seql (a := (p_a.Old.Vals.getD 0 d_Str)) (b := (p_a.New.Vals.getD 0 d_Str)) rfl (h.dt 15 50 rfl rfl rfl) (h.dt 20 55 rfl rfl rfl) kI
      ·exact oI rfl fun h => yl_pick_t rfl (h.dt 10 45 rfl rfl rfl) hb83 (h.dt 21 56 rfl rfl rfl) kI
      ·exact oI rfl fun h => yA rfl (h.dt 22 57 rfl rfl rfl) kI
      ·intro fl260 fh261 L257 w258 hp259
       have hE262 := hp259.ex
       have hE262z := Ex.size hE262
       refine dn (CW.sub (sC 4 (hp259.nt 23 4 rfl rfl rfl) (Sub.nil _)) (CW.ret (br (tr (rr rfl (.cons rfl .nil) ?_)))))
       have hM264 : (s_l26Good p_t p_a) = ((p_a.Old.Vals.getD 0 d_Str) == (p_a.New.Vals.getD 0 d_Str)) := by simp only [s_l26Good, hb24, hb43, hb62, hb71, hb83, cL]
       rw [hM264]
       exact ⟨rfl, (Ex.trans (Ex.trans (Ex.trans (Ex.refl w) hE17) hE23) hE262)⟩
     ·have q268 := Box.ex hB16 hE23
      have q270 := RdS.ex gS (RdS.ex gS h1 hE17) hE23
      have q272 := RdS.ex gI (RdS.ex gI h2 hE17) hE23
      refine drI 24 [.agg #[.string (bs (p_t.Name)), .slice A1 p_t.Cols.length c1, .slice A2 p_t.Idxs.length c2], .pointer (some ⟨b18, 0 + 1, none⟩), .agg #[.slice A4 p_a.Old.Vals.length c4], .bool ((s_l25Good p_t p_a.Old)), .bool ((s_l25Good p_t p_a.Old)), .agg #[.string (bs (p_t.Name)), .slice A1 p_t.Cols.length c1, .slice A2 p_t.Idxs.length c2], .pointer (some ⟨b18, 0 + 2, none⟩), .agg #[.slice A5 p_a.New.Vals.length c5], .bool ((s_l25Good p_t p_a.New)), .bool ((s_l25Good p_t p_a.New)), .bool ((s_l25Good p_t p_a.New)), undef, undef, undef, undef, undef, undef, undef, undef, undef, undef, undef, .bool (false), .bool (false)] Tryz.follows rfl ⟨?_, ?_, ?_, ?_, ?_, ?_, ?_, ?_, ?_, ?_, ?_, ?_, ?_, ?_, ?_, ?_, ?_, ?_, ?_, ?_, ?_, ?_, ?_, ?_, trivial⟩ ?_
      ·exact oI rfl fun h => yl_loadN ty41 rfl (h.old 2 _ rfl rfl) ((Box.ex q268 h.ex).cells (n := 3) rfl) rfl kI
      ·exact oI rfl fun h => yl_fieldAddr fd47_1 rfl (h.old 3 _ rfl rfl) kI
      ·exact oI rfl fun h => yl_loadN ty45 rfl (h.dt 1 36 rfl rfl rfl) ((Box.ex hB22 h.ex).cells (n := 1) rfl) rfl kI
      ·intro L296 w297 hi298
       have hE299 := hi298.ex
       exact OpR.op' rfl (yC en104 rfl (oc (hi298.dt 0 35 rfl rfl rfl) (oc (hi298.dt 2 37 rfl rfl rfl) oz)) (Cal.mono (c_s_l25Good p_t p_a.Old (RdS.up (RdS.ex gS q270 hE299) gS) (RdS.up (RdS.ex gI q272 hE299) gI) (RdS.up (RdS.ex gS (RdS.ex gS (RdS.ex gS h4 hE17) hE23) hE299) gS) o3 o6.1) fun _ _ h => h))
      ·exact oI rfl fun h => yM rfl (h.dt 3 38 rfl rfl rfl) kI
      ·exact oW rfl rfl rfl rfl hb71 fun h => yl_loadN ty41 rfl (h.old 2 _ rfl rfl) ((Box.ex q268 h.ex).cells (n := 3) rfl) rfl kI
      ·exact oW rfl rfl rfl rfl hb71 fun h => yl_fieldAddr fd47_2 rfl (h.old 3 _ rfl rfl) kI
      ·exact oW rfl rfl rfl rfl hb71 fun h => yl_loadN ty45 rfl (h.dt 6 41 rfl rfl rfl) ((Box.ex hB22 h.ex).cells (n := 1) rfl) rfl kI
      ·intro L333 w334 hi335
       have hE336 := hi335.ex
       exact OpR.want rfl rfl (hi335.dt 4 39 rfl rfl rfl) hb71 (yC en104 rfl (oc (hi335.dt 5 40 rfl rfl rfl) (oc (hi335.dt 7 42 rfl rfl rfl) oz)) (Cal.mono (c_s_l25Good p_t p_a.New (RdS.up (RdS.ex gS q270 hE336) gS) (RdS.up (RdS.ex gI q272 hE336) gI) (RdS.up (RdS.ex gS (RdS.ex gS (RdS.ex gS h5 hE17) hE23) hE336) gS) o3 o6.2) fun _ _ h => h))
      ·exact oI rfl fun h => yl_pick_t rfl (h.dt 4 39 rfl rfl rfl) hb71 (h.dt 8 43 rfl rfl rfl) kI
      ·exact oI rfl fun h => yM rfl (h.dt 9 44 rfl rfl rfl) kI
      ·exact oS rfl rfl rfl rfl rfl hb83
      ·exact oS rfl rfl rfl rfl rfl hb83
      ·exact oS rfl rfl rfl rfl rfl hb83
      ·exact oS rfl rfl rfl rfl rfl hb83
      ·exact oS rfl rfl rfl rfl rfl hb83
      ·exact oS rfl rfl rfl rfl rfl hb83
      ·exact oS rfl rfl rfl rfl rfl hb83
      ·exact oS rfl rfl rfl rfl rfl hb83
      ·exact oS rfl rfl rfl rfl rfl hb83
      ·exact oS rfl rfl rfl rfl rfl hb83
      ·exact oS rfl rfl rfl rfl rfl hb83
      ·exact oI rfl fun h => yl_pick_f rfl (h.dt 10 45 rfl rfl rfl) hb83 rfl kI
      ·exact oI rfl fun h => yA rfl (h.dt 22 57 rfl rfl rfl) kI
      ·intro fl426 fh427 L423 w424 hp425
       have hE428 := hp425.ex
       have hE428z := Ex.size hE428
       refine dn (CW.sub (sC 4 (hp425.nt 23 4 rfl rfl rfl) (Sub.nil _)) (CW.ret (br (tr (rr rfl (.cons rfl .nil) ?_)))))
       have hM430 : (s_l26Good p_t p_a) = (false) := by simp only [s_l26Good, hb24, hb43, hb62, hb71, hb83, cL]
       rw [hM430]
       exact ⟨rfl, (Ex.trans (Ex.trans (Ex.trans (Ex.refl w) hE17) hE23) hE428)⟩
    ·refine drI 24 [.agg #[.string (bs (p_t.Name)), .slice A1 p_t.Cols.length c1, .slice A2 p_t.Idxs.length c2], .pointer (some ⟨b18, 0 + 1, none⟩), .agg #[.slice A4 p_a.Old.Vals.length c4], .bool ((s_l25Good p_t p_a.Old)), .bool ((s_l25Good p_t p_a.Old)), undef, undef, undef, undef, .bool (false), .bool (false), undef, undef, undef, undef, undef, undef, undef, undef, undef, undef, undef, .bool (false), .bool (false)] Tryz.follows rfl ⟨?_, ?_, ?_, ?_, ?_, ?_, ?_, ?_, ?_, ?_, ?_, ?_, ?_, ?_, ?_, ?_, ?_, ?_, ?_, ?_, ?_, ?_, ?_, ?_, trivial⟩ ?_
     ·exact oI rfl fun h => yl_loadN ty41 rfl (h.old 2 _ rfl rfl) ((Box.ex (Box.ex hB16 hE23) h.ex).cells (n := 3) rfl) rfl kI
     ·exact oI rfl fun h => yl_fieldAddr fd47_1 rfl (h.old 3 _ rfl rfl) kI
     ·exact oI rfl fun h => yl_loadN ty45 rfl (h.dt 1 36 rfl rfl rfl) ((Box.ex hB22 h.ex).cells (n := 1) rfl) rfl kI
     ·intro L459 w460 hi461
      have hE462 := hi461.ex
      exact OpR.op' rfl (yC en104 rfl (oc (hi461.dt 0 35 rfl rfl rfl) (oc (hi461.dt 2 37 rfl rfl rfl) oz)) (Cal.mono (c_s_l25Good p_t p_a.Old (RdS.up (RdS.ex gS (RdS.ex gS (RdS.ex gS h1 hE17) hE23) hE462) gS) (RdS.up (RdS.ex gI (RdS.ex gI (RdS.ex gI h2 hE17) hE23) hE462) gI) (RdS.up (RdS.ex gS (RdS.ex gS (RdS.ex gS h4 hE17) hE23) hE462) gS) o3 o6.1) fun _ _ h => h))
     ·exact oI rfl fun h => yM rfl (h.dt 3 38 rfl rfl rfl) kI
     ·exact oS rfl rfl rfl rfl rfl hb71
     ·exact oS rfl rfl rfl rfl rfl hb71
     ·exact oS rfl rfl rfl rfl rfl hb71
     ·exact oS rfl rfl rfl rfl rfl hb71
     ·exact oI rfl fun h => yl_pick_f rfl (h.dt 4 39 rfl rfl rfl) hb71 rfl kI
     ·exact oI rfl fun h => yM rfl (h.dt 9 44 rfl rfl rfl) kI
     ·exact oS rfl rfl rfl rfl rfl rfl
     ·exact oS rfl rfl rfl rfl rfl rfl
     ·exact oS rfl rfl rfl rfl rfl rfl
     ·exact oS rfl rfl rfl rfl rfl rfl
     ·exact oS rfl rfl rfl rfl rfl rfl
     ·exact oS rfl rfl rfl rfl rfl rfl
     ·exact oS rfl rfl rfl rfl rfl rfl
     ·exact oS rfl rfl rfl rfl rfl rfl
     ·exact oS rfl rfl rfl rfl rfl rfl
     ·exact oS rfl rfl rfl rfl rfl rfl
     ·exact oS rfl rfl rfl rfl rfl rfl
     ·exact oI rfl fun h => yl_pick_f rfl (h.dt 10 45 rfl rfl rfl) rfl rfl kI
     ·exact oI rfl fun h => yA rfl (h.dt 22 57 rfl rfl rfl) kI
     ·intro fl576 fh577 L573 w574 hp575
      have hE578 := hp575.ex
      have hE578z := Ex.size hE578
      refine dn (CW.sub (sC 4 (hp575.nt 23 4 rfl rfl rfl) (Sub.nil _)) (CW.ret (br (tr (rr rfl (.cons rfl .nil) ?_)))))
      have hM580 : (s_l26Good p_t p_a) = (false) := by simp only [s_l26Good, hb24, hb43, hb62, hb71, cL]
      rw [hM580]
      exact ⟨rfl, (Ex.trans (Ex.trans (Ex.trans (Ex.refl w) hE17) hE23) hE578)⟩
   ·have hb62p := dec_f hb62
    refine CW.cond_f rfl hb62 (CW.skip (bn (tn (cR (sA rfl (dn ?_))))))
    refine CW.ret (rr rfl (.cons rfl .nil) ?_)
    have hM584 : (s_l26Good p_t p_a) = (false) := by simp only [s_l26Good, hb24, hb43, hb62, cL]
    rw [hM584]
    exact ⟨rfl, (Ex.trans (Ex.trans (Ex.refl w) hE17) hE23)⟩
theorem c_s_l27Empty {A1 : Option Addr} {c1 : Nat} {A2 : Option Addr} {c2 : Nat} {w : World} (p_a : DRowAct) (h1 : RdS w (Iv 0 w.heap.size) (RF e_Str) 1 A1 p_a.Old.Vals.length c1 p_a.Old.Vals) (h2 : RdS w (Iv 0 w.heap.size) (RF e_Str) 1 A2 p_a.New.Vals.length c2 p_a.New.Vals) (o3 : ok_RowAct p_a) : Cal Tryz.prog 74 #[.agg #[.int .i64 (p_a.Kind), .slice A1 p_a.Old.Vals.length c1, .slice A2 p_a.New.Vals.length c2]] w fun v w' => v = .bool ((s_l27Empty p_a)) ∧ Ex w w' := by
 refine Cal.of func74 rfl ntmps74 rfl (cR (sd rfl (yl_box rfl rfl rfl ?_)))
 intro b6 w7 hs8 hz9 hB10 hE11
 refine sA rfl (dn (cR (sd rfl (yl_fieldAddr fd47_0 rfl rfl (sd rfl (yl_load1 ty3 rfl rfl ((hB10.cell 0).trans rfl) (sd rfl (yl_eql rfl rfl rfl (sM rfl ?_)))))))))
 refine bcase (decide (p_a.Kind = 0)) (fun hb12 => ?_) (fun hb12 => ?_)
 ·have hb12p := dec_t hb12
  refine sy rfl rfl hb12 (yl_fieldAddr fd47_1 rfl rfl (sy rfl rfl hb12 (yl_fieldAddr fd45_0 rfl rfl (sy rfl rfl hb12 (yl_load1 ty22 rfl rfl ((hB10.cell 1).trans rfl) (sy rfl rfl hb12 (yL un22 rfl rfl (sy rfl rfl hb12 (yl_eql rfl rfl rfl (sd rfl (yl_pick_t rfl rfl hb12 rfl (sM rfl (bcase (decide ((p_a.Old.Vals.length : Int) = 0)) (fun hb13 => ?_) (fun hb13 => ?_))))))))))))))
  ·have hb13p := dec_t hb13
   refine sy rfl rfl hb13 (yl_fieldAddr fd47_2 rfl rfl (sy rfl rfl hb13 (yl_fieldAddr fd45_0 rfl rfl (sy rfl rfl hb13 (yl_load1 ty22 rfl rfl ((hB10.cell 2).trans rfl) (sy rfl rfl hb13 (yL un22 rfl rfl (sy rfl rfl hb13 (yl_eql rfl rfl rfl (sd rfl (yl_pick_t rfl rfl hb13 rfl (sA rfl (dn ?_)))))))))))))
   refine CW.ret (rr rfl (.cons rfl .nil) ?_)
   have hM14 : (s_l27Empty p_a) = (decide ((p_a.New.Vals.length : Int) = 0)) := by simp only [s_l27Empty, hb12, hb13, cL]
   rw [hM14]
   exact ⟨rfl, (Ex.trans (Ex.refl w) hE11)⟩
  ·have hb13p := dec_f hb13
   refine sz rfl rfl hb13 (sz rfl rfl hb13 (sz rfl rfl hb13 (sz rfl rfl hb13 (sz rfl rfl hb13 (sd rfl (yl_pick_f rfl rfl hb13 rfl (sA rfl (dn ?_))))))))
   refine CW.ret (rr rfl (.cons rfl .nil) ?_)
   have hM16 : (s_l27Empty p_a) = (false) := by simp only [s_l27Empty, hb12, hb13, cL]
   rw [hM16]
   exact ⟨rfl, (Ex.trans (Ex.refl w) hE11)⟩
 ·have hb12p := dec_f hb12
  refine sz rfl rfl hb12 (sz rfl rfl hb12 (sz rfl rfl hb12 (sz rfl rfl hb12 (sz rfl rfl hb12 (sd rfl (yl_pick_f rfl rfl hb12 rfl (sM rfl (sz rfl rfl rfl (sz rfl rfl rfl ?_)))))))))
  refine sz rfl rfl rfl (sz rfl rfl rfl (sz rfl rfl rfl (sd rfl (yl_pick_f rfl rfl rfl rfl (sA rfl (dn (CW.ret (rr rfl (.cons rfl .nil) ?_))))))))
  have hM18 : (s_l27Empty p_a) = (false) := by simp only [s_l27Empty, hb12, cL]
  rw [hM18]
  exact ⟨rfl, (Ex.trans (Ex.refl w) hE11)⟩
theorem c_s_l30Good {A1 : Option Addr} {c1 : Nat} {A2 : Option Addr} {c2 : Nat} {A4 : Option Addr} {c4 : Nat} {A5 : Option Addr} {c5 : Nat} {w : World} (p_0 : DTable) (p_1 : DStmt) (h1 : RdS w (Iv 0 w.heap.size) (RF e_Str) 1 A1 p_0.Cols.length c1 p_0.Cols) (h2 : RdS w (Iv 0 w.heap.size) (RF e_Idx) 3 A2 p_0.Idxs.length c2 p_0.Idxs) (h4 : RdS w (Iv 0 w.heap.size) (RF e_Str) 1 A4 p_1.Act.Old.Vals.length c4 p_1.Act.Old.Vals) (h5 : RdS w (Iv 0 w.heap.size) (RF e_Str) 1 A5 p_1.Act.New.Vals.length c5 p_1.Act.New.Vals) (o3 : ok_Table p_0) (o6 : ok_Stmt p_1) (pre0 : (p_1.Kind = 1 → p_1.Act.Kind = 3 → 0 < p_0.Cols.length ∨ 0 < p_1.Act.Old.Vals.length)) : Cal Tryz.prog 48 #[.agg #[.string (bs (p_0.Name)), .slice A1 p_0.Cols.length c1, .slice A2 p_0.Idxs.length c2], .agg #[.int .i64 (p_1.Kind), .int .i64 (p_1.Act.Kind), .slice A4 p_1.Act.Old.Vals.length c4, .slice A5 p_1.Act.New.Vals.length c5, .string (bs (p_1.Idx)), .string (bs (p_1.Low)), .string (bs (p_1.High))]] w fun v w' => v = .bool ((s_l30Good p_0 p_1)) ∧ Ex w w' := by
 have hol7 : p_0.Name.length ≤ 1073741824 := o3.1
 have hol8 := o3.2.1.1
 have hol9 := o3.2.2.1
 have hol10 := o6.1.1.1
 have hol11 := o6.1.2.1
 have hol12 : p_1.Idx.length ≤ 1073741824 := o6.2.1
 have hol13 : p_1.Low.length ≤ 1073741824 := o6.2.2.1
 have hol14 : p_1.High.length ≤ 1073741824 := o6.2.2.2
 refine Cal.of func48 rfl ntmps48 rfl (cR (sd rfl (yl_box rfl rfl rfl ?_)))
 intro b15 w16 hs17 hz18 hB19 hE20
 refine sd rfl (yl_box rfl rfl rfl ?_)
 intro b21 w22 hs23 hz24 hB25 hE26
 refine sA rfl (dn (CW.seq (cR (sd rfl (yl_fieldAddr fd49_0 rfl rfl (sd rfl (yl_load1 ty3 rfl rfl ((hB25.cell 0).trans rfl) (SeqR.done ?_))))))))
 refine tn (CW.block (cR (sd rfl (yl_eql rfl rfl rfl (sA rfl (dn (bcase (decide (p_1.Kind = 1)) (fun hb27 => ?_) (fun hb27 => ?_))))))))
 ·have hb27p := dec_t hb27
  refine CW.cond_t rfl hb27 (cR (sd rfl (yl_loadN ty41 rfl rfl ((Box.ex hB19 hE26).cells (n := 3) rfl) rfl (sd rfl (yl_fieldAddr fd49_1 rfl rfl (sd rfl (yl_loadN ty47 rfl rfl (hB25.cells (n := 3) rfl) rfl (sd rfl (yC en73 rfl (oc rfl (oc rfl oz)) (Cal.mono (c_s_l26Good p_0 p_1.Act (RdS.up (RdS.ex gS (RdS.ex gS h1 hE20) hE26) gS) (RdS.up (RdS.ex gI (RdS.ex gI h2 hE20) hE26) gI) (RdS.up (RdS.ex gS (RdS.ex gS h4 hE20) hE26) gS) (RdS.up (RdS.ex gS (RdS.ex gS h5 hE20) hE26) gS) o3 o6.1 Bo) ?_))))))))))
  rintro v38 w37 ⟨rfl, hE39⟩
  have hE39z := Ex.size hE39
  refine sM rfl (bcase (s_l26Good p_0 p_1.Act) (fun hb40 => ?_) (fun hb40 => ?_))
  ·refine sy rfl rfl hb40 (yl_fieldAddr fd49_2 rfl rfl ?_)
   have q41 := Box.ex hB25 hE39
   refine sy rfl rfl hb40 (yl_load1 ty9 rfl rfl ((q41.cell 4).trans rfl) (sy rfl rfl hb40 (yl_seql (a := p_1.Idx) (b := ([] : Str)) rfl rfl rfl (sd rfl (yl_pick_t rfl rfl hb40 rfl (sM rfl (bcase (p_1.Idx == ([] : Str)) (fun hb42 => ?_) (fun hb42 => ?_))))))))
   ·refine sy rfl rfl hb42 (yl_fieldAddr fd49_3 rfl rfl (sy rfl rfl hb42 (yl_load1 ty9 rfl rfl ((q41.cell 5).trans rfl) (sy rfl rfl hb42 (yl_seql (a := p_1.Low) (b := ([] : Str)) rfl rfl rfl (sd rfl (yl_pick_t rfl rfl hb42 rfl (sM rfl (bcase (p_1.Low == ([] : Str)) (fun hb43 => ?_) (fun hb43 => ?_))))))))))
    ·refine sy rfl rfl hb43 (yl_fieldAddr fd49_4 rfl rfl (sy rfl rfl hb43 (yl_load1 ty9 rfl rfl ((q41.cell 6).trans rfl) (sy rfl rfl hb43 (yl_seql (a := p_1.High) (b := ([] : Str)) rfl rfl rfl (sd rfl (yl_pick_t rfl rfl hb43 rfl (sA rfl (dn (CW.ret (br ?_)))))))))))
     refine tr (rr rfl (.cons rfl .nil) ?_)
     have hM44 : (s_l30Good p_0 p_1) = (p_1.High == ([] : Str)) := by simp only [s_l30Good, hb27, hb40, hb42, hb43, cL]
     rw [hM44]
     exact ⟨rfl, (Ex.trans (Ex.trans (Ex.trans (Ex.refl w) hE20) hE26) hE39)⟩
    ·refine sz rfl rfl hb43 (sz rfl rfl hb43 (sz rfl rfl hb43 (sd rfl (yl_pick_f rfl rfl hb43 rfl (sA rfl (dn (CW.ret (br ?_))))))))
     refine tr (rr rfl (.cons rfl .nil) ?_)
     have hM48 : (s_l30Good p_0 p_1) = (false) := by simp only [s_l30Good, hb27, hb40, hb42, hb43, cL]
     rw [hM48]
     exact ⟨rfl, (Ex.trans (Ex.trans (Ex.trans (Ex.refl w) hE20) hE26) hE39)⟩
   ·refine sz rfl rfl hb42 (sz rfl rfl hb42 (sz rfl rfl hb42 (sd rfl (yl_pick_f rfl rfl hb42 rfl (sM rfl (sz rfl rfl rfl (sz rfl rfl rfl (sz rfl rfl rfl (sd rfl (yl_pick_f rfl rfl rfl rfl ?_))))))))))
    refine sA rfl (dn (CW.ret (br (tr (rr rfl (.cons rfl .nil) ?_)))))
    have hM52 : (s_l30Good p_0 p_1) = (false) := by simp only [s_l30Good, hb27, hb40, hb42, cL]
    rw [hM52]
    exact ⟨rfl, (Ex.trans (Ex.trans (Ex.trans (Ex.refl w) hE20) hE26) hE39)⟩
  ·refine sz rfl rfl hb40 (sz rfl rfl hb40 (sz rfl rfl hb40 (sd rfl (yl_pick_f rfl rfl hb40 rfl (sM rfl (sz rfl rfl rfl (sz rfl rfl rfl (sz rfl rfl rfl (sd rfl (yl_pick_f rfl rfl rfl rfl ?_))))))))))
   refine sM rfl (sz rfl rfl rfl (sz rfl rfl rfl (sz rfl rfl rfl (sd rfl (yl_pick_f rfl rfl rfl rfl (sA rfl (dn (CW.ret ?_))))))))
   refine br (tr (rr rfl (.cons rfl .nil) ?_))
   have hM56 : (s_l30Good p_0 p_1) = (false) := by simp only [s_l30Good, hb27, hb40, cL]
   rw [hM56]
   exact ⟨rfl, (Ex.trans (Ex.trans (Ex.trans (Ex.refl w) hE20) hE26) hE39)⟩
 ·have hb27p := dec_f hb27
  refine CW.cond_f rfl hb27 (cR (sd rfl (yl_eql rfl rfl rfl (sA rfl (dn (bcase (decide (p_1.Kind = 2)) (fun hb60 => ?_) (fun hb60 => ?_)))))))
  ·have hb60p := dec_t hb60
   refine CW.cond_t rfl hb60 (cR (sd rfl (yl_fieldAddr fd49_1 rfl rfl (sd rfl (yl_loadN ty47 rfl rfl (hB25.cells (n := 3) rfl) rfl (sd rfl (yC en74 rfl (oc rfl oz) (Cal.mono (c_s_l27Empty p_1.Act (RdS.up (RdS.ex gS (RdS.ex gS h4 hE20) hE26) gS) (RdS.up (RdS.ex gS (RdS.ex gS h5 hE20) hE26) gS) o6.1) ?_))))))))
   rintro v66 w65 ⟨rfl, hE67⟩
   have hE67z := Ex.size hE67
   refine sM rfl (bcase (s_l27Empty p_1.Act) (fun hb68 => ?_) (fun hb68 => ?_))
   ·refine sy rfl rfl hb68 (yl_fieldAddr fd49_2 rfl rfl ?_)
    have q69 := Box.ex hB25 hE67
    refine sy rfl rfl hb68 (yl_load1 ty9 rfl rfl ((q69.cell 4).trans rfl) (sy rfl rfl hb68 (yl_seql (a := p_1.Idx) (b := ([] : Str)) rfl rfl rfl (sd rfl (yl_pick_t rfl rfl hb68 rfl (sM rfl (bcase (p_1.Idx == ([] : Str)) (fun hb70 => ?_) (fun hb70 => ?_))))))))
    ·refine sy rfl rfl hb70 (yl_fieldAddr fd49_3 rfl rfl (sy rfl rfl hb70 (yl_load1 ty9 rfl rfl ((q69.cell 5).trans rfl) (sy rfl rfl hb70 (yC en75 rfl (oc rfl oz) (Cal.mono (c_s_l25Field p_1.Low o6.2.2.1) ?_))))))
     rintro v72 w71 ⟨rfl, hE73⟩
     have hE73z := Ex.size hE73
     refine sd rfl (yl_pick_t rfl rfl hb70 rfl (sM rfl (bcase (s_l25Field p_1.Low) (fun hb74 => ?_) (fun hb74 => ?_))))
     ·refine sy rfl rfl hb74 (yl_fieldAddr fd49_4 rfl rfl (sy rfl rfl hb74 (yl_load1 ty9 rfl rfl (((Box.ex q69 hE73).cell 6).trans rfl) (sy rfl rfl hb74 (yl_seql (a := p_1.High) (b := ([] : Str)) rfl rfl rfl (sd rfl (yl_pick_t rfl rfl hb74 rfl (sA rfl (dn (CW.ret (br ?_)))))))))))
      refine tr (rr rfl (.cons rfl .nil) ?_)
      have hM76 : (s_l30Good p_0 p_1) = (p_1.High == ([] : Str)) := by simp only [s_l30Good, hb27, hb60, hb68, hb70, hb74, cL]
      rw [hM76]
      exact ⟨rfl, (Ex.trans (Ex.trans (Ex.trans (Ex.trans (Ex.refl w) hE20) hE26) hE67) hE73)⟩
     ·refine sz rfl rfl hb74 (sz rfl rfl hb74 (sz rfl rfl hb74 (sd rfl (yl_pick_f rfl rfl hb74 rfl (sA rfl (dn (CW.ret (br ?_))))))))
      refine tr (rr rfl (.cons rfl .nil) ?_)
      have hM81 : (s_l30Good p_0 p_1) = (false) := by simp only [s_l30Good, hb27, hb60, hb68, hb70, hb74, cL]
      rw [hM81]
      exact ⟨rfl, (Ex.trans (Ex.trans (Ex.trans (Ex.trans (Ex.refl w) hE20) hE26) hE67) hE73)⟩
    ·refine sz rfl rfl hb70 (sz rfl rfl hb70 (sz rfl rfl hb70 (sd rfl (yl_pick_f rfl rfl hb70 rfl (sM rfl (sz rfl rfl rfl (sz rfl rfl rfl (sz rfl rfl rfl (sd rfl (yl_pick_f rfl rfl rfl rfl ?_))))))))))
     refine sA rfl (dn (CW.ret (br (tr (rr rfl (.cons rfl .nil) ?_)))))
     have hM86 : (s_l30Good p_0 p_1) = (false) := by simp only [s_l30Good, hb27, hb60, hb68, hb70, cL]
     rw [hM86]
     exact ⟨rfl, (Ex.trans (Ex.trans (Ex.trans (Ex.refl w) hE20) hE26) hE67)⟩
   ·refine sz rfl rfl hb68 (sz rfl rfl hb68 (sz rfl rfl hb68 (sd rfl (yl_pick_f rfl rfl hb68 rfl (sM rfl (sz rfl rfl rfl (sz rfl rfl rfl (sz rfl rfl rfl (sd rfl (yl_pick_f rfl rfl rfl rfl ?_))))))))))
    refine sM rfl (sz rfl rfl rfl (sz rfl rfl rfl (sz rfl rfl rfl (sd rfl (yl_pick_f rfl rfl rfl rfl (sA rfl (dn (CW.ret ?_))))))))
    refine br (tr (rr rfl (.cons rfl .nil) ?_))
    have hM90 : (s_l30Good p_0 p_1) = (false) := by simp only [s_l30Good, hb27, hb60, hb68, cL]
    rw [hM90]
    exact ⟨rfl, (Ex.trans (Ex.trans (Ex.trans (Ex.refl w) hE20) hE26) hE67)⟩
  ·have hb60p := dec_f hb60
   refine CW.cond_f rfl hb60 (cR (sd rfl (yl_eql rfl rfl rfl (sA rfl (dn (bcase (decide (p_1.Kind = 3)) (fun hb94 => ?_) (fun hb94 => ?_)))))))
   ·have hb94p := dec_t hb94
    refine CW.cond_t rfl hb94 (cR (sd rfl (yl_fieldAddr fd49_1 rfl rfl (sd rfl (yl_loadN ty47 rfl rfl (hB25.cells (n := 3) rfl) rfl (sd rfl (yC en74 rfl (oc rfl oz) (Cal.mono (c_s_l27Empty p_1.Act (RdS.up (RdS.ex gS (RdS.ex gS h4 hE20) hE26) gS) (RdS.up (RdS.ex gS (RdS.ex gS h5 hE20) hE26) gS) o6.1) ?_))))))))
    rintro v100 w99 ⟨rfl, hE101⟩
    have hE101z := Ex.size hE101
    refine sM rfl (bcase (s_l27Empty p_1.Act) (fun hb102 => ?_) (fun hb102 => ?_))
    ·refine sy rfl rfl hb102 (yl_loadN ty41 rfl rfl ((Box.ex (Box.ex hB19 hE26) hE101).cells (n := 3) rfl) rfl (sy rfl rfl hb102 (yl_fieldAddr fd49_2 rfl rfl ?_)))
     have q105 := Box.ex hB25 hE101
     refine sy rfl rfl hb102 (yl_load1 ty9 rfl rfl ((q105.cell 4).trans rfl) (sy rfl rfl hb102 (yC en51 rfl (oc rfl (oc rfl oz)) (Cal.mono (c_s_l24Idx p_0 p_1.Idx (RdS.up (RdS.ex gS (RdS.ex gS (RdS.ex gS h1 hE20) hE26) hE101) gS) (RdS.up (RdS.ex gI (RdS.ex gI (RdS.ex gI h2 hE20) hE26) hE101) gI) o3 o6.2.1) ?_))))
     rintro v113 w112 ⟨rfl, hE114⟩
     have hE114z := Ex.size hE114
     have hrf115 := rf_s_l24Idx p_0 p_1.Idx
     refine sy rfl rfl hb102 (yl_geq rfl rfl rfl (sd rfl (yl_pick_t rfl rfl hb102 rfl (sM rfl (bcase (decide (0 ≤ (s_l24Idx p_0 p_1.Idx))) (fun hb116 => ?_) (fun hb116 => ?_))))))
     ·have hb116p := dec_t hb116
      refine sy rfl rfl hb116 (yl_fieldAddr fd49_3 rfl rfl ?_)
      have q117 := Box.ex q105 hE114
      refine sy rfl rfl hb116 (yl_load1 ty9 rfl rfl ((q117.cell 5).trans rfl) (sy rfl rfl hb116 (yC en75 rfl (oc rfl oz) (Cal.mono (c_s_l25Field p_1.Low o6.2.2.1) ?_))))
      rintro v119 w118 ⟨rfl, hE120⟩
      have hE120z := Ex.size hE120
      refine sd rfl (yl_pick_t rfl rfl hb116 rfl (sM rfl (bcase (s_l25Field p_1.Low) (fun hb121 => ?_) (fun hb121 => ?_))))
      ·refine sy rfl rfl hb121 (yl_fieldAddr fd49_4 rfl rfl (sy rfl rfl hb121 (yl_load1 ty9 rfl rfl (((Box.ex q117 hE120).cell 6).trans rfl) (sy rfl rfl hb121 (yC en75 rfl (oc rfl oz) (Cal.mono (c_s_l25Field p_1.High o6.2.2.2) ?_))))))
       rintro v124 w123 ⟨rfl, hE125⟩
       have hE125z := Ex.size hE125
       refine sd rfl (yl_pick_t rfl rfl hb121 rfl (sA rfl (dn (CW.ret (br (tr (rr rfl (.cons rfl .nil) ?_)))))))
       have hM126 : (s_l30Good p_0 p_1) = ((s_l25Field p_1.High)) := by simp only [s_l30Good, hb27, hb60, hb94, hb102, hb116, hb121, cL]
       rw [hM126]
       exact ⟨rfl, (Ex.trans (Ex.trans (Ex.trans (Ex.trans (Ex.trans (Ex.trans (Ex.refl w) hE20) hE26) hE101) hE114) hE120) hE125)⟩
      ·refine sz rfl rfl hb121 (sz rfl rfl hb121 (sz rfl rfl hb121 (sd rfl (yl_pick_f rfl rfl hb121 rfl (sA rfl (dn (CW.ret (br ?_))))))))
       refine tr (rr rfl (.cons rfl .nil) ?_)
       have hM133 : (s_l30Good p_0 p_1) = (false) := by simp only [s_l30Good, hb27, hb60, hb94, hb102, hb116, hb121, cL]
       rw [hM133]
       exact ⟨rfl, (Ex.trans (Ex.trans (Ex.trans (Ex.trans (Ex.trans (Ex.refl w) hE20) hE26) hE101) hE114) hE120)⟩
     ·have hb116p := dec_f hb116
      refine sz rfl rfl hb116 (sz rfl rfl hb116 (sz rfl rfl hb116 (sd rfl (yl_pick_f rfl rfl hb116 rfl (sM rfl (sz rfl rfl rfl (sz rfl rfl rfl (sz rfl rfl rfl (sd rfl (yl_pick_f rfl rfl rfl rfl ?_))))))))))
      refine sA rfl (dn (CW.ret (br (tr (rr rfl (.cons rfl .nil) ?_)))))
      have hM139 : (s_l30Good p_0 p_1) = (false) := by simp only [s_l30Good, hb27, hb60, hb94, hb102, hb116, cL]
      rw [hM139]
      exact ⟨rfl, (Ex.trans (Ex.trans (Ex.trans (Ex.trans (Ex.refl w) hE20) hE26) hE101) hE114)⟩
    ·refine sz rfl rfl hb102 (sz rfl rfl hb102 (sz rfl rfl hb102 (sz rfl rfl hb102 (sz rfl rfl hb102 (sd rfl (yl_pick_f rfl rfl hb102 rfl (sM rfl (sz rfl rfl rfl (sz rfl rfl rfl ?_)))))))))
     refine sz rfl rfl rfl (sd rfl (yl_pick_f rfl rfl rfl rfl (sM rfl (sz rfl rfl rfl (sz rfl rfl rfl (sz rfl rfl rfl (sd rfl (yl_pick_f rfl rfl rfl rfl (sA rfl (SeqR.done ?_))))))))))
     refine tn (CW.ret (br (tr (rr rfl (.cons rfl .nil) ?_))))
     have hM144 : (s_l30Good p_0 p_1) = (false) := by simp only [s_l30Good, hb27, hb60, hb94, hb102, cL]
     rw [hM144]
     exact ⟨rfl, (Ex.trans (Ex.trans (Ex.trans (Ex.refl w) hE20) hE26) hE101)⟩
   ·have hb94p := dec_f hb94
    refine CW.cond_f rfl hb94 (CW.skip (bn (tn (cR (sA rfl (dn ?_))))))
    refine CW.ret (rr rfl (.cons rfl .nil) ?_)
    have hM148 : (s_l30Good p_0 p_1) = (false) := by simp only [s_l30Good, hb27, hb60, hb94, cL]
    rw [hM148]
    exact ⟨rfl, (Ex.trans (Ex.trans (Ex.refl w) hE20) hE26)⟩
theorem c_s_GoodStmt {A1 : Option Addr} {c1 : Nat} {A2 : Option Addr} {c2 : Nat} {A4 : Option Addr} {c4 : Nat} {A5 : Option Addr} {c5 : Nat} {w : World} (p_t : DTable) (p_s : DStmt) (h1 : RdS w (Iv 0 w.heap.size) (RF e_Str) 1 A1 p_t.Cols.length c1 p_t.Cols) (h2 : RdS w (Iv 0 w.heap.size) (RF e_Idx) 3 A2 p_t.Idxs.length c2 p_t.Idxs) (h4 : RdS w (Iv 0 w.heap.size) (RF e_Str) 1 A4 p_s.Act.Old.Vals.length c4 p_s.Act.Old.Vals) (h5 : RdS w (Iv 0 w.heap.size) (RF e_Str) 1 A5 p_s.Act.New.Vals.length c5 p_s.Act.New.Vals) (o3 : ok_Table p_t) (o6 : ok_Stmt p_s) : Cal Tryz.prog 25 #[.agg #[.string (bs (p_t.Name)), .slice A1 p_t.Cols.length c1, .slice A2 p_t.Idxs.length c2], .agg #[.int .i64 (p_s.Kind), .int .i64 (p_s.Act.Kind), .slice A4 p_s.Act.Old.Vals.length c4, .slice A5 p_s.Act.New.Vals.length c5, .string (bs (p_s.Idx)), .string (bs (p_s.Low)), .string (bs (p_s.High))]] w fun v w' => v = .bool ((s_GoodStmt p_t p_s)) ∧ Ex w w' := by
 have hol7 : p_t.Name.length ≤ 1073741824 := o3.1
 have hol8 := o3.2.1.1
 have hol9 := o3.2.2.1
 have hol10 := o6.1.1.1
 have hol11 := o6.1.2.1
 have hol12 : p_s.Idx.length ≤ 1073741824 := o6.2.1
 have hol13 : p_s.Low.length ≤ 1073741824 := o6.2.2.1
 have hol14 : p_s.High.length ≤ 1073741824 := o6.2.2.2
 refine Cal.of func25 rfl ntmps25 rfl (cR (sd rfl (yl_box rfl rfl rfl ?_)))
 intro b15 w16 hs17 hz18 hB19 hE20
 refine sd rfl (yl_box rfl rfl rfl ?_)
 intro b21 w22 hs23 hz24 hB25 hE26
 refine sA rfl (dn (cR ?_))
 have q27 := Box.ex hB19 hE26
 refine sd rfl (yl_loadN ty41 rfl rfl (q27.cells (n := 3) rfl) rfl ?_)
 have q29 := RdS.ex gS (RdS.ex gS h1 hE20) hE26
 have q31 := RdS.ex gI (RdS.ex gI h2 hE20) hE26
 refine sd rfl (yC en47 rfl (oc rfl oz) (Cal.mono (c_s_GoodTable p_t (RdS.up q29 gS) (RdS.up q31 gI) o3) ?_))
 rintro v33 w32 ⟨rfl, hE34⟩
 have hE34z := Ex.size hE34
 refine sM rfl (bcase (s_GoodTable p_t) (fun hb35 => ?_) (fun hb35 => ?_))
 ·have hb35p := f_s_GoodTable hb35
  refine sy rfl rfl hb35 (yl_loadN ty41 rfl rfl ((Box.ex q27 hE34).cells (n := 3) rfl) rfl (sy rfl rfl hb35 (yl_loadN ty49 rfl rfl ((Box.ex hB25 hE34).cells (n := 7) rfl) rfl (sy rfl rfl hb35 (yC en48 rfl (oc rfl (oc rfl oz)) (Cal.mono (c_s_l30Good p_t p_s (RdS.up (RdS.ex gS q29 hE34) gS) (RdS.up (RdS.ex gI q31 hE34) gI) (RdS.up (RdS.ex gS (RdS.ex gS (RdS.ex gS h4 hE20) hE26) hE34) gS) (RdS.up (RdS.ex gS (RdS.ex gS (RdS.ex gS h5 hE20) hE26) hE34) gS) o3 o6 Bo) ?_))))))
  rintro v47 w46 ⟨rfl, hE48⟩
  have hE48z := Ex.size hE48
  refine sd rfl (yl_pick_t rfl rfl hb35 rfl (sA rfl (dn (CW.ret (rr rfl (.cons rfl .nil) ?_)))))
  have hM49 : (s_GoodStmt p_t p_s) = ((s_l30Good p_t p_s)) := by simp only [s_GoodStmt, hb35, cL]
  rw [hM49]
  exact ⟨rfl, (Ex.trans (Ex.trans (Ex.trans (Ex.trans (Ex.refl w) hE20) hE26) hE34) hE48)⟩
 ·refine sz rfl rfl hb35 (sz rfl rfl hb35 (sz rfl rfl hb35 (sd rfl (yl_pick_f rfl rfl hb35 rfl (sA rfl (dn (CW.ret (rr rfl (.cons rfl .nil) ?_))))))))
  have hM54 : (s_GoodStmt p_t p_s) = (false) := by simp only [s_GoodStmt, hb35, cL]
  rw [hM54]
  exact ⟨rfl, (Ex.trans (Ex.trans (Ex.trans (Ex.refl w) hE20) hE26) hE34)⟩
theorem c_s_l3Key {w : World} (p_s : Str) (o1 : okS p_s) : Cal Tryz.prog 106 #[.string (bs (p_s))] w fun v w' => v = .bool ((s_l3Key p_s)) ∧ Ex w w' := by
 refine Cal.of func106 rfl ntmps106 rfl (cR (sA rfl (dn (cR (sM rfl ?_)))))
 refine sd rfl (yl_slen un9 (a := p_s) rfl rfl (sd rfl (yC en72 rfl (oc rfl (oc rfl (oc rfl oz))) (Cal.mono (c_s_l1In (p_s.length : Int) 1 12) ?_))))
 rintro v4 w3 ⟨rfl, hE5⟩
 refine sM rfl (bcase (s_l1In (p_s.length : Int) 1 12) (fun hb6 => ?_) (fun hb6 => ?_))
 ·have hb6p := f_l1In hb6
  refine sy rfl rfl hb6 (yM rfl rfl (sy rfl rfl hb6 (yC en105 rfl (oc rfl (oc rfl oz)) (Cal.mono (c_s_l3Bytes p_s ([46, 47] : Str) o1 (okS.lit rfl)) ?_))))
  rintro v8 w7 ⟨rfl, hE9⟩
  refine sd rfl (yl_pick_t rfl rfl hb6 rfl (sA rfl (dn (CW.ret (rr rfl (.cons rfl .nil) ?_)))))
  have hM10 : (s_l3Key p_s) = ((s_l3Bytes p_s ([46, 47] : Str))) := by simp only [s_l3Key, hb6, cL]
  rw [hM10]
  exact ⟨rfl, (Ex.trans (Ex.trans (Ex.refl w) hE5) hE9)⟩
 ·refine sz rfl rfl hb6 (sz rfl rfl hb6 (sd rfl (yl_pick_f rfl rfl hb6 rfl (sA rfl (dn (CW.ret (rr rfl (.cons rfl .nil) ?_)))))))
  have hM13 : (s_l3Key p_s) = (false) := by simp only [s_l3Key, hb6, cL]
  rw [hM13]
  exact ⟨rfl, (Ex.trans (Ex.refl w) hE5)⟩
theorem c_s_l3Val {w : World} (p_s : Str) (o1 : okS p_s) : Cal Tryz.prog 107 #[.string (bs (p_s))] w fun v w' => v = .bool ((s_l3Val p_s)) ∧ Ex w w' := by
 refine Cal.of func107 rfl ntmps107 rfl (cR (sA rfl (dn (cR (sM rfl ?_)))))
 refine sd rfl (yl_slen un9 (a := p_s) rfl rfl (sd rfl (yl_leq rfl rfl rfl (sM rfl (bcase (decide ((p_s.length : Int) ≤ 24)) (fun hb3 => ?_) (fun hb3 => ?_))))))
 ·have hb3p := dec_t hb3
  refine sy rfl rfl hb3 (yM rfl rfl (sy rfl rfl hb3 (yC en105 rfl (oc rfl (oc rfl oz)) (Cal.mono (c_s_l3Bytes p_s ([46, 45, 44, 95] : Str) o1 (okS.lit rfl)) ?_))))
  rintro v5 w4 ⟨rfl, hE6⟩
  refine sd rfl (yl_pick_t rfl rfl hb3 rfl (sA rfl (dn (CW.ret (rr rfl (.cons rfl .nil) ?_)))))
  have hM7 : (s_l3Val p_s) = ((s_l3Bytes p_s ([46, 45, 44, 95] : Str))) := by simp only [s_l3Val, hb3, cL]
  rw [hM7]
  exact ⟨rfl, (Ex.trans (Ex.refl w) hE6)⟩
 ·have hb3p := dec_f hb3
  refine sz rfl rfl hb3 (sz rfl rfl hb3 (sd rfl (yl_pick_f rfl rfl hb3 rfl (sA rfl (dn (CW.ret (rr rfl (.cons rfl .nil) ?_)))))))
  have hM9 : (s_l3Val p_s) = (false) := by simp only [s_l3Val, hb3, cL]
  rw [hM9]
  exact ⟨rfl, (Ex.refl w)⟩
theorem c_s_l3Write {w : World} (p_key : Str) (p_val : Str) (p_gone : Bool) (o1 : okS p_key) (o2 : okS p_val) : Cal Tryz.prog 76 #[.string (bs (p_key)), .string (bs (p_val)), .bool (p_gone)] w fun v w' => v = .bool ((s_l3Write p_key p_val p_gone)) ∧ Ex w w' := by
 refine Cal.of func76 rfl ntmps76 rfl (cR (sA rfl (dn (cR (sM rfl ?_)))))
 refine sd rfl (yC en106 rfl (oc rfl oz) (Cal.mono (c_s_l3Key p_key o1) ?_))
 rintro v6 w5 ⟨rfl, hE7⟩
 refine sM rfl (bcase (s_l3Key p_key) (fun hb8 => ?_) (fun hb8 => ?_))
 ·refine sy rfl rfl hb8 (yM rfl rfl (sy rfl rfl hb8 (yC en107 rfl (oc rfl oz) (Cal.mono (c_s_l3Val p_val o2) ?_))))
  rintro v10 w9 ⟨rfl, hE11⟩
  refine sd rfl (yl_pick_t rfl rfl hb8 rfl (sM rfl (bcase (s_l3Val p_val) (fun hb12 => ?_) (fun hb12 => ?_))))
  ·refine sy rfl rfl hb12 (yM rfl rfl (sy rfl rfl hb12 (yl_not rfl rfl (sy rfl rfl hb12 (yM rfl rfl (bcase (p_gone) (fun hb13 => ?_) (fun hb13 => ?_)))))))
   ·refine sy rfl rfl (not_t hb13) (yM rfl rfl (sy rfl rfl (not_t hb13) (yl_seql (a := p_val) (b := ([] : Str)) rfl rfl rfl (sy rfl rfl hb12 (yl_pick_f rfl rfl (not_t hb13) rfl (sd rfl (yl_pick_t rfl rfl hb12 rfl (sA rfl (dn (CW.ret (rr rfl (.cons rfl .nil) ?_)))))))))))
    have hM14 : (s_l3Write p_key p_val p_gone) = (p_val == ([] : Str)) := by simp only [s_l3Write, hb8, hb12, hb13, cL]
    rw [hM14]
    exact ⟨rfl, (Ex.trans (Ex.trans (Ex.refl w) hE7) hE11)⟩
   ·refine sz rfl rfl (not_f hb13) (sz rfl rfl (not_f hb13) (sy rfl rfl hb12 (yl_pick_t rfl rfl (not_f hb13) rfl (sd rfl (yl_pick_t rfl rfl hb12 rfl (sA rfl (dn (CW.ret (rr rfl (.cons rfl .nil) ?_)))))))))
    have hM17 : (s_l3Write p_key p_val p_gone) = (true) := by simp only [s_l3Write, hb8, hb12, hb13, cL]
    rw [hM17]
    exact ⟨rfl, (Ex.trans (Ex.trans (Ex.refl w) hE7) hE11)⟩
  ·refine sz rfl rfl hb12 (sz rfl rfl hb12 (sz rfl rfl hb12 (sq rfl rfl (sq rfl rfl (sz rfl rfl hb12 (sd rfl (yl_pick_f rfl rfl hb12 rfl (sA rfl (SeqR.done ?_)))))))))
   refine tn (CW.ret (rr rfl (.cons rfl .nil) ?_))
   have hM20 : (s_l3Write p_key p_val p_gone) = (false) := by simp only [s_l3Write, hb8, hb12, cL]
   rw [hM20]
   exact ⟨rfl, (Ex.trans (Ex.trans (Ex.refl w) hE7) hE11)⟩
 ·refine sz rfl rfl hb8 (sz rfl rfl hb8 (sd rfl (yl_pick_f rfl rfl hb8 rfl (sM rfl (sz rfl rfl rfl (sz rfl rfl rfl (sz rfl rfl rfl (sq rfl rfl (sq rfl rfl ?_)))))))))
  refine sz rfl rfl rfl (sd rfl (yl_pick_f rfl rfl rfl rfl (sA rfl (dn (CW.ret (rr rfl (.cons rfl .nil) ?_))))))
  have hM23 : (s_l3Write p_key p_val p_gone) = (false) := by simp only [s_l3Write, hb8, cL]
  rw [hM23]
  exact ⟨rfl, (Ex.trans (Ex.refl w) hE7)⟩
theorem c_s_l3Writes {A1 : Option Addr} {c1 : Nat} {w : World} (p_l : List DWrite) (h1 : RdS w (Iv 0 w.heap.size) (RF e_Write) 3 A1 p_l.length c1 p_l) (o2 : (okL ok_Write) p_l) : Cal Tryz.prog 49 #[.slice A1 p_l.length c1] w fun v w' => v = .bool ((s_l3Writes p_l)) ∧ Ex w w' := by
 have hol3 := o2.1
 refine Cal.of func49 rfl ntmps49 rfl (cR (sA rfl (dn (CW.seq (cR ?_)))))
 refine sM rfl (sd rfl (yL un43 rfl rfl (sM rfl (dn (CW.block (CW.loop (fun m24 L25 w26 => ∃ (k4 : Nat), m24 = p_l.length - k4 ∧ k4 ≤ p_l.length ∧ w.heap.size ≤ w26.heap.size ∧ lkp L25 0 = some (.slice A1 p_l.length c1) ∧ lkp L25 5 = some (.slice A1 p_l.length c1) ∧ lkp L25 6 = some (.int .i64 ((p_l.length : Int))) ∧ lkp L25 7 = some (.int .i64 ((k4 : Int))) ∧ RdS w26 (Iv 0 w.heap.size) (RF e_Write) 3 A1 p_l.length c1 p_l ∧ Ex w w26 ∧ loopM (B_s_l3Writes_0 p_l) (p_l.length - k4) k4 () = loopM (B_s_l3Writes_0 p_l) (p_l.length - 0) 0 ()) (p_l.length - 0) ?_ ?_))))))
 ·exact ⟨0, rfl, oM, Nat.le_refl _, rfl, rfl, rfl, rfl, h1, (Ex.refl w), rfl⟩
 ·rintro m27 L28 w29 ⟨k4, rfl, hk30, hsz32, hl33, hl34, hl35, hl36, hf37, hf38, hI31⟩
  refine CW.sub (Sub.cons hl33 (Sub.cons hl34 (Sub.cons hl35 (Sub.cons hl36 (Sub.nil _))))) ?_
  have hf38z := Ex.size hf38
  have hbg39 := RdS.big hf37
  rcases Nat.lt_or_ge k4 p_l.length with hlt40 | hlt40
  ·refine cR (sd rfl (yl_lss rfl rfl rfl (dn (CW.seq (CW.cond_t rfl (lt_t hlt40) (CW.skip (tn ?_)))))))
   refine CW.seq (CW.block (cR (sM rfl ?_)))
   obtain ⟨eb41, eo41, _, eA41, _, ebl41, _, eR41, eC41⟩ := RdS.aD hf37 d_Write (i := k4)
   obtain rfl := eR41
   have eC41 : Cells w29 eb41 (eo41 + k4 * 3) [.string (bs ((p_l.getD k4 d_Write).Key)), .string (bs ((p_l.getD k4 d_Write).Val)), .bool ((p_l.getD k4 d_Write).Gone)] := eC41
   refine sd rfl (yl_ixN un43 ty70 rfl rfl rfl eA41 (sd rfl (yl_loadN ty70 rfl rfl eC41 rfl (sd rfl (yB ty70 (cs := [.string (bs (([] : Str))), .string (bs (([] : Str))), .bool (false)]) rfl rfl ?_)))))
   intro b42 w43 hs44 hz45 hB46 hE47
   refine sA rfl (SeqR.u rfl rfl (yl_store (vs := [.string (bs ((p_l.getD k4 d_Write).Key)), .string (bs ((p_l.getD k4 d_Write).Val)), .bool ((p_l.getD k4 d_Write).Gone)]) ty70 rfl rfl rfl rfl rfl rfl hB46 (nb rfl) ?_))
   intro w48 hB49 hO50
   have hB49 : Box w48 b42 70 [.string (bs ((p_l.getD k4 d_Write).Key)), .string (bs ((p_l.getD k4 d_Write).Val)), .bool ((p_l.getD k4 d_Write).Gone)] := hB49
   have hO50z := hO50.size
   refine dn (CW.seq (bcase (s_l3Write ((p_l.getD k4 d_Write).Key) ((p_l.getD k4 d_Write).Val) ((p_l.getD k4 d_Write).Gone)) (fun hb52 => ?_) (fun hb52 => ?_)))
   ·refine bcase (decide (0 < (k4 : Int))) (fun hb54 => ?_) (fun hb54 => ?_)
    ·have hb54p := dec_t hb54
     have q57 := RdS.only gW (RdS.ex gW hf37 hE47) hO50 (by simp only [Iv]; omega)
     obtain ⟨eb58, eo58, _, eA58, _, ebl58, _, eR58, eC58⟩ := RdS.atD q57 d_Write (i := (IntKind.wrap .i64 ((k4 : Int) - 1)).toNat) Bo
     obtain rfl := eR58
     have eC58 : Cells w48 eb58 (eo58 + ((IntKind.wrap .i64 ((k4 : Int) - 1)).toNat) * 3) [.string (bs ((p_l.getD ((IntKind.wrap .i64 ((k4 : Int) - 1)).toNat) d_Write).Key)), .string (bs ((p_l.getD ((IntKind.wrap .i64 ((k4 : Int) - 1)).toNat) d_Write).Val)), .bool ((p_l.getD ((IntKind.wrap .i64 ((k4 : Int) - 1)).toNat) d_Write).Gone)] := eC58
     refine drI 23 [.pointer (some ⟨b42, 0 + 0, none⟩), .string (bs ((p_l.getD k4 d_Write).Key)), .pointer (some ⟨b42, 0 + 1, none⟩), .string (bs ((p_l.getD k4 d_Write).Val)), .pointer (some ⟨b42, 0 + 2, none⟩), .bool ((p_l.getD k4 d_Write).Gone), .bool ((s_l3Write ((p_l.getD k4 d_Write).Key) ((p_l.getD k4 d_Write).Val) ((p_l.getD k4 d_Write).Gone))), .bool (!(s_l3Write ((p_l.getD k4 d_Write).Key) ((p_l.getD k4 d_Write).Val) ((p_l.getD k4 d_Write).Gone))), .bool (!(s_l3Write ((p_l.getD k4 d_Write).Key) ((p_l.getD k4 d_Write).Val) ((p_l.getD k4 d_Write).Gone))), .int .i64 ((k4 : Int)), .bool (decide (0 < (k4 : Int))), .bool (decide (0 < (k4 : Int))), .slice A1 p_l.length c1, .int .i64 ((k4 : Int)), .int .i64 (IntKind.wrap .i64 ((k4 : Int) - 1)), .pointer (some ⟨eb58, eo58 + ((IntKind.wrap .i64 ((k4 : Int) - 1)).toNat) * 3, none⟩), .pointer (some ⟨eb58, eo58 + ((IntKind.wrap .i64 ((k4 : Int) - 1)).toNat) * 3 + 0, none⟩), .string (bs ((p_l.getD ((IntKind.wrap .i64 ((k4 : Int) - 1)).toNat) d_Write).Key)), .pointer (some ⟨b42, 0 + 0, none⟩), .string (bs ((p_l.getD k4 d_Write).Key)), .bool (!(sLt ((p_l.getD ((IntKind.wrap .i64 ((k4 : Int) - 1)).toNat) d_Write).Key) ((p_l.getD k4 d_Write).Key))), .bool (!(sLt ((p_l.getD ((IntKind.wrap .i64 ((k4 : Int) - 1)).toNat) d_Write).Key) ((p_l.getD k4 d_Write).Key))), .bool (!(sLt ((p_l.getD ((IntKind.wrap .i64 ((k4 : Int) - 1)).toNat) d_Write).Key) ((p_l.getD k4 d_Write).Key)))] Tryz.follows rfl ⟨?_, ?_, ?_, ?_, ?_, ?_, ?_, ?_, ?_, ?_, ?_, ?_, ?_, ?_, ?_, ?_, ?_, ?_, ?_, ?_, ?_, ?_, ?_, trivial⟩ ?_
     ·exact oI rfl fun h => yl_fieldAddr fd70_0 rfl (h.old 4 _ rfl rfl) kI
     ·exact oI rfl fun h => yl_load1 ty9 rfl (h.dt 0 12 rfl rfl rfl) (((Box.ex hB49 h.ex).cell 0).trans rfl) kI
     ·exact oI rfl fun h => yl_fieldAddr fd70_1 rfl (h.old 4 _ rfl rfl) kI
     ·exact oI rfl fun h => yl_load1 ty9 rfl (h.dt 2 14 rfl rfl rfl) (((Box.ex hB49 h.ex).cell 1).trans rfl) kI
     ·exact oI rfl fun h => yl_fieldAddr fd70_2 rfl (h.old 4 _ rfl rfl) kI
     ·exact oI rfl fun h => yl_load1 ty4 rfl (h.dt 4 16 rfl rfl rfl) (((Box.ex hB49 h.ex).cell 2).trans rfl) kI
     ·intro L92 w93 hi94
      exact OpR.op' rfl (yC en76 rfl (oc (hi94.dt 1 13 rfl rfl rfl) (oc (hi94.dt 3 15 rfl rfl rfl) (oc (hi94.dt 5 17 rfl rfl rfl) oz))) (Cal.mono (c_s_l3Write ((p_l.getD k4 d_Write).Key) ((p_l.getD k4 d_Write).Val) ((p_l.getD k4 d_Write).Gone) ((okL.getD o2 ok_d_Write _).1) ((okL.getD o2 ok_d_Write _).2)) fun _ _ h => h))
     ·exact oI rfl fun h => yl_not rfl (h.dt 6 18 rfl rfl rfl) kI
     ·exact oI rfl fun h => yM rfl (h.dt 7 19 rfl rfl rfl) kI
     ·exact oW rfl rfl rfl rfl (not_t hb52) fun h => yM rfl (h.old 3 _ rfl rfl) kI
     ·exact oW rfl rfl rfl rfl (not_t hb52) fun h => yl_gtr rfl (h.dt 9 21 rfl rfl rfl) rfl kI
     ·exact oW rfl rfl rfl rfl (not_t hb52) fun h => yM rfl (h.dt 10 22 rfl rfl rfl) kI
     ·exact oW rfl rfl rfl rfl hb54 fun h => yM rfl (h.old 0 _ rfl rfl) kI
     ·exact oW rfl rfl rfl rfl hb54 fun h => yM rfl (h.old 3 _ rfl rfl) kI
     ·exact oW rfl rfl rfl rfl hb54 fun h => yl_sub rfl (h.dt 13 25 rfl rfl rfl) rfl kI
     ·intro L148 w149 hi150
      have hE151 := hi150.ex
      have hE151z := Ex.size hE151
      exact OpR.want rfl rfl (hi150.dt 11 23 rfl rfl rfl) hb54 (Yl.sameI (yl_indexAddr un43 ty70 rfl (hi150.dt 12 24 rfl rfl rfl) (hi150.dt 14 26 rfl rfl rfl) eA58 Bo Bo kI))
     ·exact oW rfl rfl rfl rfl hb54 fun h => yl_fieldAddr fd70_0 rfl (h.dt 15 27 rfl rfl rfl) kI
     ·exact oW rfl rfl rfl rfl hb54 fun h => yl_load1 ty9 rfl (h.dt 16 28 rfl rfl rfl) ((Cells.ex eC58 h.ex) 0 _ rfl) kI
     ·exact oW rfl rfl rfl rfl hb54 fun h => yl_fieldAddr fd70_0 rfl (h.old 4 _ rfl rfl) kI
     ·exact oW rfl rfl rfl rfl hb54 fun h => yl_load1 ty9 rfl (h.dt 18 30 rfl rfl rfl) (((Box.ex hB49 h.ex).cell 0).trans rfl) kI
     ·exact oW rfl rfl rfl rfl hb54 fun h => yl_sgeq (a := ((p_l.getD ((IntKind.wrap .i64 ((k4 : Int) - 1)).toNat) d_Write).Key)) (b := ((p_l.getD k4 d_Write).Key)) rfl (h.dt 17 29 rfl rfl rfl) (h.dt 19 31 rfl rfl rfl) kI
     ·exact oW rfl rfl rfl rfl (not_t hb52) fun h => yl_pick_t rfl (h.dt 11 23 rfl rfl rfl) hb54 (h.dt 20 32 rfl rfl rfl) kI
     ·exact oI rfl fun h => yl_pick_f rfl (h.dt 8 20 rfl rfl rfl) (not_t hb52) (h.dt 21 33 rfl rfl rfl) kI
     ·intro fl204 fh205 L201 w202 hp203
      have hE206 := hp203.ex
      have hE206z := Ex.size hE206
      refine dn (CW.sub (sC 0 (hp203.old 0 _ rfl rfl) (sC 5 (hp203.old 5 _ rfl rfl) (sC 6 (hp203.old 6 _ rfl rfl) (sC 7 (hp203.old 7 _ rfl rfl) (sC 21 (hp203.nt 9 21 rfl rfl rfl) (sC 22 (hp203.nt 10 22 rfl rfl rfl) (sC 23 (hp203.nt 11 23 rfl rfl rfl) (sC 24 (hp203.nt 12 24 rfl rfl rfl) (sC 25 (hp203.nt 13 25 rfl rfl rfl) (sC 26 (hp203.nt 14 26 rfl rfl rfl) (sC 27 (hp203.nt 15 27 rfl rfl rfl) (sC 28 (hp203.nt 16 28 rfl rfl rfl) (sC 29 (hp203.nt 17 29 rfl rfl rfl) (sC 30 (hp203.nt 18 30 rfl rfl rfl) (sC 31 (hp203.nt 19 31 rfl rfl rfl) (sC 32 (hp203.nt 20 32 rfl rfl rfl) (sC 33 (hp203.nt 21 33 rfl rfl rfl) (sC 34 (hp203.nt 22 34 rfl rfl rfl) (Sub.nil _))))))))))))))))))) (bcase (sLt ((p_l.getD ((IntKind.wrap .i64 ((k4 : Int) - 1)).toNat) d_Write).Key) ((p_l.getD k4 d_Write).Key)) (fun hb225 => ?_) (fun hb225 => ?_)))
      ·refine CW.cond_f rfl (not_t hb225) (CW.skip (bn (tn (CW.region (sd rfl (yl_inc rfl rfl rfl oM (sM rfl (dn ?_))))))))
       have hB226 : B_s_l3Writes_0 p_l k4 () = .cont () := by simp only [B_s_l3Writes_0, hb52, hb54, hb225, cL]
       exact ⟨p_l.length - (k4 + 1), oM, k4 + 1, rfl, hlt40, oM, rfl, rfl, rfl, rfl, (RdS.ex gW q57 hE206), (Ex.trans (Below.only (Ex.trans hf38 hE47) hO50 oM) hE206), (loopM.cont hlt40 hB226).symm.trans hI31⟩
      ·refine CW.cond_t rfl (not_f hb225) (cR (sA rfl (dn (CW.ret (br (tr ?_))))))
       refine tr ?_
       have hB232 : B_s_l3Writes_0 p_l k4 () = .ret false := by simp only [B_s_l3Writes_0, hb52, hb54, hb225, cL]
       have hL231 : loopM (B_s_l3Writes_0 p_l) (p_l.length - 0) 0 () = .ret false := hI31.symm.trans (loopM.ret hlt40 hB232)
       refine br (tr (rr rfl (.cons rfl .nil) ?_))
       have hM233 : (s_l3Writes p_l) = (false) := by simp only [s_l3Writes, hb52, hb54, hb225, hL231, cL]
       rw [hM233]
       exact ⟨rfl, (Ex.trans (Below.only (Ex.trans hf38 hE47) hO50 oM) hE206)⟩
    ·have hb54p := dec_f hb54
     refine drI 23 [.pointer (some ⟨b42, 0 + 0, none⟩), .string (bs ((p_l.getD k4 d_Write).Key)), .pointer (some ⟨b42, 0 + 1, none⟩), .string (bs ((p_l.getD k4 d_Write).Val)), .pointer (some ⟨b42, 0 + 2, none⟩), .bool ((p_l.getD k4 d_Write).Gone), .bool ((s_l3Write ((p_l.getD k4 d_Write).Key) ((p_l.getD k4 d_Write).Val) ((p_l.getD k4 d_Write).Gone))), .bool (!(s_l3Write ((p_l.getD k4 d_Write).Key) ((p_l.getD k4 d_Write).Val) ((p_l.getD k4 d_Write).Gone))), .bool (!(s_l3Write ((p_l.getD k4 d_Write).Key) ((p_l.getD k4 d_Write).Val) ((p_l.getD k4 d_Write).Gone))), .int .i64 ((k4 : Int)), .bool (decide (0 < (k4 : Int))), .bool (decide (0 < (k4 : Int))), undef, undef, undef, undef, undef, undef, undef, undef, undef, .bool (false), .bool (false)] Tryz.follows rfl ⟨?_, ?_, ?_, ?_, ?_, ?_, ?_, ?_, ?_, ?_, ?_, ?_, ?_, ?_, ?_, ?_, ?_, ?_, ?_, ?_, ?_, ?_, ?_, trivial⟩ ?_
     ·exact oI rfl fun h => yl_fieldAddr fd70_0 rfl (h.old 4 _ rfl rfl) kI
     ·exact oI rfl fun h => yl_load1 ty9 rfl (h.dt 0 12 rfl rfl rfl) (((Box.ex hB49 h.ex).cell 0).trans rfl) kI
     ·exact oI rfl fun h => yl_fieldAddr fd70_1 rfl (h.old 4 _ rfl rfl) kI
     ·exact oI rfl fun h => yl_load1 ty9 rfl (h.dt 2 14 rfl rfl rfl) (((Box.ex hB49 h.ex).cell 1).trans rfl) kI
     ·exact oI rfl fun h => yl_fieldAddr fd70_2 rfl (h.old 4 _ rfl rfl) kI
     ·exact oI rfl fun h => yl_load1 ty4 rfl (h.dt 4 16 rfl rfl rfl) (((Box.ex hB49 h.ex).cell 2).trans rfl) kI
     ·intro L271 w272 hi273
      exact OpR.op' rfl (yC en76 rfl (oc (hi273.dt 1 13 rfl rfl rfl) (oc (hi273.dt 3 15 rfl rfl rfl) (oc (hi273.dt 5 17 rfl rfl rfl) oz))) (Cal.mono (c_s_l3Write ((p_l.getD k4 d_Write).Key) ((p_l.getD k4 d_Write).Val) ((p_l.getD k4 d_Write).Gone) ((okL.getD o2 ok_d_Write _).1) ((okL.getD o2 ok_d_Write _).2)) fun _ _ h => h))
     ·exact oI rfl fun h => yl_not rfl (h.dt 6 18 rfl rfl rfl) kI
     ·exact oI rfl fun h => yM rfl (h.dt 7 19 rfl rfl rfl) kI
     ·exact oW rfl rfl rfl rfl (not_t hb52) fun h => yM rfl (h.old 3 _ rfl rfl) kI
     ·exact oW rfl rfl rfl rfl (not_t hb52) fun h => yl_gtr rfl (h.dt 9 21 rfl rfl rfl) rfl kI
     ·exact oW rfl rfl rfl rfl (not_t hb52) fun h => yM rfl (h.dt 10 22 rfl rfl rfl) kI
     ·exact oS rfl rfl rfl rfl rfl hb54
     ·exact oS rfl rfl rfl rfl rfl hb54
     ·exact oS rfl rfl rfl rfl rfl hb54
     ·exact oS rfl rfl rfl rfl rfl hb54
     ·exact oS rfl rfl rfl rfl rfl hb54
     ·exact oS rfl rfl rfl rfl rfl hb54
     ·exact oS rfl rfl rfl rfl rfl hb54
     ·exact oS rfl rfl rfl rfl rfl hb54
     ·exact oS rfl rfl rfl rfl rfl hb54
     ·exact oW rfl rfl rfl rfl (not_t hb52) fun h => yl_pick_f rfl (h.dt 11 23 rfl rfl rfl) hb54 rfl kI
     ·exact oI rfl fun h => yl_pick_f rfl (h.dt 8 20 rfl rfl rfl) (not_t hb52) (h.dt 21 33 rfl rfl rfl) kI
     ·intro fl370 fh371 L367 w368 hp369
      have hE372 := hp369.ex
      have hE372z := Ex.size hE372
      refine dn (CW.sub (sC 0 (hp369.old 0 _ rfl rfl) (sC 5 (hp369.old 5 _ rfl rfl) (sC 6 (hp369.old 6 _ rfl rfl) (sC 7 (hp369.old 7 _ rfl rfl) (sC 21 (hp369.nt 9 21 rfl rfl rfl) (sC 22 (hp369.nt 10 22 rfl rfl rfl) (sC 23 (hp369.nt 11 23 rfl rfl rfl) (sC 24 (hp369.nt 12 24 rfl rfl rfl) (sC 25 (hp369.nt 13 25 rfl rfl rfl) (sC 26 (hp369.nt 14 26 rfl rfl rfl) (sC 27 (hp369.nt 15 27 rfl rfl rfl) (sC 28 (hp369.nt 16 28 rfl rfl rfl) (sC 29 (hp369.nt 17 29 rfl rfl rfl) (sC 30 (hp369.nt 18 30 rfl rfl rfl) (sC 31 (hp369.nt 19 31 rfl rfl rfl) (sC 32 (hp369.nt 20 32 rfl rfl rfl) (sC 33 (hp369.nt 21 33 rfl rfl rfl) (sC 34 (hp369.nt 22 34 rfl rfl rfl) (Sub.nil _))))))))))))))))))) (CW.cond_f rfl rfl (CW.skip (bn (tn (CW.region (sd rfl (yl_inc rfl rfl rfl oM ?_))))))))
      refine sM rfl (dn ?_)
      have hB391 : B_s_l3Writes_0 p_l k4 () = .cont () := by simp only [B_s_l3Writes_0, hb52, hb54, cL]
      exact ⟨p_l.length - (k4 + 1), oM, k4 + 1, rfl, hlt40, oM, rfl, rfl, rfl, rfl, (RdS.ex gW (RdS.only gW (RdS.ex gW hf37 hE47) hO50 (by simp only [Iv]; omega)) hE372), (Ex.trans (Below.only (Ex.trans hf38 hE47) hO50 oM) hE372), (loopM.cont hlt40 hB391).symm.trans hI31⟩
   ·refine drI 23 [.pointer (some ⟨b42, 0 + 0, none⟩), .string (bs ((p_l.getD k4 d_Write).Key)), .pointer (some ⟨b42, 0 + 1, none⟩), .string (bs ((p_l.getD k4 d_Write).Val)), .pointer (some ⟨b42, 0 + 2, none⟩), .bool ((p_l.getD k4 d_Write).Gone), .bool ((s_l3Write ((p_l.getD k4 d_Write).Key) ((p_l.getD k4 d_Write).Val) ((p_l.getD k4 d_Write).Gone))), .bool (!(s_l3Write ((p_l.getD k4 d_Write).Key) ((p_l.getD k4 d_Write).Val) ((p_l.getD k4 d_Write).Gone))), .bool (!(s_l3Write ((p_l.getD k4 d_Write).Key) ((p_l.getD k4 d_Write).Val) ((p_l.getD k4 d_Write).Gone))), undef, undef, undef, undef, undef, undef, undef, undef, undef, undef, undef, undef, undef, .bool (true)] Tryz.follows rfl ⟨?_, ?_, ?_, ?_, ?_, ?_, ?_, ?_, ?_, ?_, ?_, ?_, ?_, ?_, ?_, ?_, ?_, ?_, ?_, ?_, ?_, ?_, ?_, trivial⟩ ?_
    ·exact oI rfl fun h => yl_fieldAddr fd70_0 rfl (h.old 4 _ rfl rfl) kI
    ·exact oI rfl fun h => yl_load1 ty9 rfl (h.dt 0 12 rfl rfl rfl) (((Box.ex hB49 h.ex).cell 0).trans rfl) kI
    ·exact oI rfl fun h => yl_fieldAddr fd70_1 rfl (h.old 4 _ rfl rfl) kI
    ·exact oI rfl fun h => yl_load1 ty9 rfl (h.dt 2 14 rfl rfl rfl) (((Box.ex hB49 h.ex).cell 1).trans rfl) kI
    ·exact oI rfl fun h => yl_fieldAddr fd70_2 rfl (h.old 4 _ rfl rfl) kI
    ·exact oI rfl fun h => yl_load1 ty4 rfl (h.dt 4 16 rfl rfl rfl) (((Box.ex hB49 h.ex).cell 2).trans rfl) kI
    ·intro L432 w433 hi434
     exact OpR.op' rfl (yC en76 rfl (oc (hi434.dt 1 13 rfl rfl rfl) (oc (hi434.dt 3 15 rfl rfl rfl) (oc (hi434.dt 5 17 rfl rfl rfl) oz))) (Cal.mono (c_s_l3Write ((p_l.getD k4 d_Write).Key) ((p_l.getD k4 d_Write).Val) ((p_l.getD k4 d_Write).Gone) ((okL.getD o2 ok_d_Write _).1) ((okL.getD o2 ok_d_Write _).2)) fun _ _ h => h))
    ·exact oI rfl fun h => yl_not rfl (h.dt 6 18 rfl rfl rfl) kI
    ·exact oI rfl fun h => yM rfl (h.dt 7 19 rfl rfl rfl) kI
    ·exact oS rfl rfl rfl rfl rfl (not_f hb52)
    ·exact oS rfl rfl rfl rfl rfl (not_f hb52)
    ·exact oS rfl rfl rfl rfl rfl (not_f hb52)
    ·exact oU rfl rfl rfl rfl rfl
    ·exact oU rfl rfl rfl rfl rfl
    ·exact oU rfl rfl rfl rfl rfl
    ·exact oU rfl rfl rfl rfl rfl
    ·exact oU rfl rfl rfl rfl rfl
    ·exact oU rfl rfl rfl rfl rfl
    ·exact oU rfl rfl rfl rfl rfl
    ·exact oU rfl rfl rfl rfl rfl
    ·exact oU rfl rfl rfl rfl rfl
    ·exact oS rfl rfl rfl rfl rfl (not_f hb52)
    ·exact oI rfl fun h => yl_pick_t rfl (h.dt 8 20 rfl rfl rfl) (not_f hb52) rfl kI
    ·intro fl526 fh527 L523 w524 hp525
     have hE528 := hp525.ex
     have hE528z := Ex.size hE528
     refine dn (CW.sub (sC 0 (hp525.old 0 _ rfl rfl) (sC 5 (hp525.old 5 _ rfl rfl) (sC 6 (hp525.old 6 _ rfl rfl) (sC 7 (hp525.old 7 _ rfl rfl) (sC 21 (hp525.nt 9 21 rfl rfl rfl) (sC 22 (hp525.nt 10 22 rfl rfl rfl) (sC 23 (hp525.nt 11 23 rfl rfl rfl) (sC 24 (hp525.nt 12 24 rfl rfl rfl) (sC 25 (hp525.nt 13 25 rfl rfl rfl) (sC 26 (hp525.nt 14 26 rfl rfl rfl) (sC 27 (hp525.nt 15 27 rfl rfl rfl) (sC 28 (hp525.nt 16 28 rfl rfl rfl) (sC 29 (hp525.nt 17 29 rfl rfl rfl) (sC 30 (hp525.nt 18 30 rfl rfl rfl) (sC 31 (hp525.nt 19 31 rfl rfl rfl) (sC 32 (hp525.nt 20 32 rfl rfl rfl) (sC 33 (hp525.nt 21 33 rfl rfl rfl) (sC 34 (hp525.nt 22 34 rfl rfl rfl) (Sub.nil _))))))))))))))))))) (CW.cond_t rfl rfl (cR (sA rfl (dn ?_)))))
     refine CW.ret (br (tr (tr ?_)))
     have hB548 : B_s_l3Writes_0 p_l k4 () = .ret false := by simp only [B_s_l3Writes_0, hb52, cL]
     have hL547 : loopM (B_s_l3Writes_0 p_l) (p_l.length - 0) 0 () = .ret false := hI31.symm.trans (loopM.ret hlt40 hB548)
     refine br (tr (rr rfl (.cons rfl .nil) ?_))
     have hM549 : (s_l3Writes p_l) = (false) := by simp only [s_l3Writes, hb52, hL547, cL]
     rw [hM549]
     exact ⟨rfl, (Ex.trans (Below.only (Ex.trans hf38 hE47) hO50 oM) hE528)⟩
  ·refine cR (sd rfl (yl_lss rfl rfl rfl (dn (CW.seq (CW.cond_f rfl (lt_f hlt40) (CW.exit (tx ?_)))))))
   refine tx ?_
   have hL553 : loopM (B_s_l3Writes_0 p_l) (p_l.length - 0) 0 () = .done () := hI31.symm.trans (loopM.stop hlt40)
   refine bx (tn (cR (sM rfl (sd rfl (yL un43 rfl rfl (sd rfl (yl_leq rfl rfl rfl (sA rfl (SeqR.done ?_)))))))))
   refine tn (CW.ret (rr rfl (.cons rfl .nil) ?_))
   have hM554 : (s_l3Writes p_l) = (decide ((p_l.length : Int) ≤ 24)) := by simp only [s_l3Writes, hL553, cL]
   rw [hM554]
   exact ⟨rfl, hf38⟩
theorem c_s_l5Rows {A1 : Option Addr} {c1 : Nat} {w : World} (p_l : List DWrite) (h1 : RdS w (Iv 0 w.heap.size) (RF e_Write) 3 A1 p_l.length c1 p_l) (o2 : (okL ok_Write) p_l) : Cal Tryz.prog 26 #[.slice A1 p_l.length c1] w fun v w' => v = .bool ((s_l5Rows p_l)) ∧ Ex w w' := by
 have hol3 := o2.1
 refine Cal.of func26 rfl ntmps26 rfl (cR (sA rfl (dn (CW.seq (cR ?_)))))
 refine sM rfl (sd rfl (yL un43 rfl rfl (sM rfl (dn (CW.block (CW.loop (fun m16 L17 w18 => ∃ (k4 : Nat), m16 = p_l.length - k4 ∧ k4 ≤ p_l.length ∧ w.heap.size ≤ w18.heap.size ∧ lkp L17 0 = some (.slice A1 p_l.length c1) ∧ lkp L17 5 = some (.slice A1 p_l.length c1) ∧ lkp L17 6 = some (.int .i64 ((p_l.length : Int))) ∧ lkp L17 7 = some (.int .i64 ((k4 : Int))) ∧ RdS w18 (Iv 0 w.heap.size) (RF e_Write) 3 A1 p_l.length c1 p_l ∧ Ex w w18 ∧ loopM (B_s_l5Rows_0 p_l) (p_l.length - k4) k4 () = loopM (B_s_l5Rows_0 p_l) (p_l.length - 0) 0 ()) (p_l.length - 0) ?_ ?_))))))
 ·exact ⟨0, rfl, oM, Nat.le_refl _, rfl, rfl, rfl, rfl, h1, (Ex.refl w), rfl⟩
 ·rintro m19 L20 w21 ⟨k4, rfl, hk22, hsz24, hl25, hl26, hl27, hl28, hf29, hf30, hI23⟩
  refine CW.sub (Sub.cons hl25 (Sub.cons hl26 (Sub.cons hl27 (Sub.cons hl28 (Sub.nil _))))) ?_
  have hf30z := Ex.size hf30
  have hbg31 := RdS.big hf29
  rcases Nat.lt_or_ge k4 p_l.length with hlt32 | hlt32
  ·refine cR (sd rfl (yl_lss rfl rfl rfl (dn (CW.seq (CW.cond_t rfl (lt_t hlt32) (CW.skip (tn ?_)))))))
   refine CW.seq (CW.block (cR ?_))
   obtain ⟨eb33, eo33, _, eA33, _, ebl33, _, eR33, eC33⟩ := RdS.aD hf29 d_Write (i := k4)
   obtain rfl := eR33
   have eC33 : Cells w21 eb33 (eo33 + k4 * 3) [.string (bs ((p_l.getD k4 d_Write).Key)), .string (bs ((p_l.getD k4 d_Write).Val)), .bool ((p_l.getD k4 d_Write).Gone)] := eC33
   refine sd rfl (yl_ixN un43 ty70 rfl rfl rfl eA33 (sd rfl (yl_loadN ty70 rfl rfl eC33 rfl (sd rfl (yB ty70 (cs := [.string (bs (([] : Str))), .string (bs (([] : Str))), .bool (false)]) rfl rfl ?_)))))
   intro b34 w35 hs36 hz37 hB38 hE39
   refine SeqR.u rfl rfl (yl_store (vs := [.string (bs ((p_l.getD k4 d_Write).Key)), .string (bs ((p_l.getD k4 d_Write).Val)), .bool ((p_l.getD k4 d_Write).Gone)]) ty70 rfl rfl rfl rfl rfl rfl hB38 (nb rfl) ?_)
   intro w40 hB41 hO42
   have hB41 : Box w40 b34 70 [.string (bs ((p_l.getD k4 d_Write).Key)), .string (bs ((p_l.getD k4 d_Write).Val)), .bool ((p_l.getD k4 d_Write).Gone)] := hB41
   have hO42z := hO42.size
   refine dn (cR (sd rfl (yl_fieldAddr fd70_2 rfl rfl (sd rfl (yl_load1 ty4 rfl rfl ((hB41.cell 2).trans rfl) (dn (bcase ((p_l.getD k4 d_Write).Gone) (fun hb43 => ?_) (fun hb43 => ?_))))))))
   ·refine CW.cond_t rfl hb43 (cR (sA rfl (dn (CW.ret (br (tr ?_))))))
    refine tr ?_
    have hB45 : B_s_l5Rows_0 p_l k4 () = .ret false := by simp only [B_s_l5Rows_0, hb43, cL]
    have hL44 : loopM (B_s_l5Rows_0 p_l) (p_l.length - 0) 0 () = .ret false := hI23.symm.trans (loopM.ret hlt32 hB45)
    refine br (tr (rr rfl (.cons rfl .nil) ?_))
    have hM46 : (s_l5Rows p_l) = (false) := by simp only [s_l5Rows, hb43, hL44, cL]
    rw [hM46]
    exact ⟨rfl, (Below.only (Ex.trans hf30 hE39) hO42 oM)⟩
   ·refine CW.cond_f rfl hb43 (CW.skip (bn (tn (CW.region (sd rfl (yl_inc rfl rfl rfl oM (sM rfl (dn ?_))))))))
    have hB49 : B_s_l5Rows_0 p_l k4 () = .cont () := by simp only [B_s_l5Rows_0, hb43, cL]
    exact ⟨p_l.length - (k4 + 1), oM, k4 + 1, rfl, hlt32, oM, rfl, rfl, rfl, rfl, (RdS.only gW (RdS.ex gW hf29 hE39) hO42 (by simp only [Iv]; omega)), (Below.only (Ex.trans hf30 hE39) hO42 oM), (loopM.cont hlt32 hB49).symm.trans hI23⟩
  ·refine cR (sd rfl (yl_lss rfl rfl rfl (dn (CW.seq (CW.cond_f rfl (lt_f hlt32) (CW.exit (tx ?_)))))))
   refine tx ?_
   have hL54 : loopM (B_s_l5Rows_0 p_l) (p_l.length - 0) 0 () = .done () := hI23.symm.trans (loopM.stop hlt32)
   refine bx (tn (cR (sM rfl (sd rfl (yC en49 rfl (oc rfl oz) (Cal.mono (c_s_l3Writes p_l (RdS.up hf29 gW) o2) ?_))))))
   rintro v56 w55 ⟨rfl, hE57⟩
   have hE57z := Ex.size hE57
   refine sA rfl (dn (CW.ret (rr rfl (.cons rfl .nil) ?_)))
   have hM58 : (s_l5Rows p_l) = ((s_l3Writes p_l)) := by simp only [s_l5Rows, hL54, cL]
   rw [hM58]
   exact ⟨rfl, (Ex.trans hf30 hE57)⟩
theorem c_s_l1Split {w : World} (p_s : Str) (p_b : Int) (o1 : okS p_s) : Cal Tryz.prog 109 #[.string (bs (p_s)), .int .u8 (p_b)] w fun v w' => ∃ A_1 c_1 lo_1 hi_1, v = .slice A_1 ((s_l1Split p_s p_b).length) c_1 ∧ OwnL w' lo_1 hi_1 9 1 (RF e_Str) A_1 ((s_l1Split p_s p_b).length) c_1 (s_l1Split p_s p_b) ∧ (okL okS) (s_l1Split p_s p_b) ∧ (w.heap.size ≤ lo_1 ∧ lo_1 ≤ hi_1 ∧ hi_1 ≤ w'.heap.size) ∧ Ex w w' := by
 have hol2 : p_s.length ≤ 1073741824 := o1
 refine Cal.of func109 rfl ntmps109 rfl (cR (sA rfl (dn (cR (sA rfl ?_)))))
 refine dn (cR (sA rfl (dn (CW.seq (CW.seq ?_)))))
 refine CW.region (sA rfl (dn (CW.block (CW.loop (fun m26 L27 w28 => ∃ (k3 : Nat) (x21 : List Str) (x25 : Int) (A22 : Option Addr) (c23 : Nat) (u24 : Nat), m26 = p_s.length - k3 ∧ k3 ≤ p_s.length ∧ w.heap.size ≤ w28.heap.size ∧ lkp L27 0 = some (.string (bs (p_s))) ∧ lkp L27 1 = some (.int .u8 (p_b)) ∧ lkp L27 5 = some (.slice A22 x21.length c23) ∧ lkp L27 6 = some (.int .i64 (x25)) ∧ lkp L27 7 = some (.int .i64 ((k3 : Int))) ∧ OwnL w28 w.heap.size u24 9 1 (RF e_Str) A22 x21.length c23 x21 ∧ Ex w w28 ∧ (w.heap.size ≤ u24 ∧ u24 ≤ w28.heap.size) ∧ x21.length ≤ 0 + 1 * (k3 - 0) ∧ (∀ y ∈ x21, okS y) ∧ 0 ≤ x25 ∧ x25 ≤ (k3 : Int) ∧ loopM (B_s_l1Split_0 p_s p_b) (p_s.length - k3) k3 (x21, x25) = loopM (B_s_l1Split_0 p_s p_b) (p_s.length - 0) 0 (([] : List Str), 0)) (p_s.length - 0) ?_ ?_))))
 ·exact ⟨0, ([] : List Str), 0, none, 0, w.heap.size, rfl, oM, Nat.le_refl _, rfl, rfl, rfl, rfl, rfl, (OwnL.nil w w.heap.size w.heap.size 9 1 (RF e_Str)), (Ex.refl w), oM, (by first | (simp; done) | (first | omega | (simp only [lN, toS_length]; omega))), okE.nil, Bo, Bo, rfl⟩
 ·rintro m29 L30 w31 ⟨k3, x21, x25, A22, c23, u24, rfl, hk32, hsz34, hl35, hl36, hl37, hl38, hl39, hf40, hf41, hu42, hln43, hok44, hv45, hv46, hI33⟩
  refine CW.sub (Sub.cons hl35 (Sub.cons hl36 (Sub.cons hl37 (Sub.cons hl38 (Sub.cons hl39 (Sub.nil _)))))) ?_
  have hf41z := Ex.size hf41
  have hbg47 : p_s.length ≤ 1073741824 := o1
  rcases Nat.lt_or_ge k3 p_s.length with hlt48 | hlt48
  ·refine CW.seq (cR (sM rfl (sM rfl (sd rfl (yl_slen un9 (a := p_s) rfl rfl (sd rfl (yl_lss rfl rfl rfl (dn ?_))))))))
   refine CW.cond_t rfl (lt_t hlt48) (CW.skip (tn (CW.seq (CW.block (cR (sM rfl (sM rfl ?_)))))))
   refine sd rfl (yl_sindexN un9 (a := p_s) rfl rfl rfl Bo (sM rfl (sd rfl (yl_eql rfl rfl rfl (dn (bcase (decide (((p_s.getD k3 0).toNat : Int) = p_b)) (fun hb49 => ?_) (fun hb49 => ?_)))))))
   ·have hb49p := dec_t hb49
    refine CW.cond_t rfl hb49 (cR (sM rfl (sM rfl (sM rfl (sM rfl (sd rfl (yl_sslice_lh un9 (a := p_s) (l := (x25).toNat) (h := k3) rfl rfl (toNat_op rfl oM) rfl oM oM (sd rfl (yl_buildSlice (cs := [.string (bs (((p_s.take k3).drop ((x25).toNat))))]) un22 ty9 (by decide) rfl (oc rfl oz) (by kernel_rfl) ?_)))))))))
    intro b50 w51 hs52 hz53 hB54 hE55
    have hO56 : OwnL w51 b50 (b50 + 1) 9 1 (RF e_Str) (some ⟨b50, 0, none⟩) 1 1 ([((p_s.take k3).drop ((x25).toNat))] : List Str) := OwnL.of_box (S := fun _ => False) hB54 (Nat.le_refl _) (Nat.lt_succ_self _) (EncL.cons (c := [.string (bs (((p_s.take k3).drop ((x25).toNat))))]) rfl rfl EncL.nil) (nb rfl) (fun h => h) (fun _ h => False.elim h)
    refine sd rfl (yl_appendL (S := (fun _ => False)) (lo := w.heap.size) (hi := u24) (xs := x21) (ys := ([((p_s.take k3).drop ((x25).toNat))] : List Str)) gS un22 ty9 rfl (nb rfl) rfl rfl rfl (OwnL.ex gS hf40 hE55) (EncL.cons (c := [.string (bs (((p_s.take k3).drop ((x25).toNat))))]) rfl rfl EncL.nil) (Or.inr ⟨_, _, rfl, rfl, hB54.cells (o := 0) (n := 1) rfl⟩) rfl Bl Bl oM oM (fun _ h _ => False.elim h) oM ?_)
    intro A58 c59 w60 row61 hO62 hG63 hrg64
    have hG63z := hG63.size
    refine sA rfl (dn (CW.region (sM rfl (sd rfl (yl_inc rfl rfl rfl oM (sA rfl (SeqR.done (bn ?_))))))))
    refine tn (CW.region (sM rfl (sd rfl (yl_inc rfl rfl rfl oM (sA rfl (dn ?_))))))
    have hB65 : B_s_l1Split_0 p_s p_b k3 (x21, x25) = .cont ((x21 ++ ([((p_s.take k3).drop ((x25).toNat))] : List Str)), ((k3 + 1 : Nat) : Int)) := by simp only [B_s_l1Split_0, hb49, cL]
    exact ⟨p_s.length - (k3 + 1), oM, k3 + 1, (x21 ++ ([((p_s.take k3).drop ((x25).toNat))] : List Str)), ((k3 + 1 : Nat) : Int), A58, c59, w60.heap.size, rfl, hlt48, oM, rfl, rfl, rfl, rfl, rfl, hO62, (Below.grown (Ex.trans hf41 hE55) hG63 oM (fun k hk => by have := hrg64 k hk; omega)), oM, Bl, (okE.append hok44 ((okL.mk (nb rfl) (okE.cons (okS.drop (okS.take o1 _) _) okE.nil))).2), Bo, Bo, (loopM.cont hlt48 hB65).symm.trans hI33⟩
   ·have hb49p := dec_f hb49
    refine CW.cond_f rfl hb49 (CW.skip (bn (tn (CW.region (sM rfl (sd rfl (yl_inc rfl rfl rfl oM (sA rfl (SeqR.done ?_)))))))))
    refine tn ?_
    have hB68 : B_s_l1Split_0 p_s p_b k3 (x21, x25) = .cont (x21, x25) := by simp only [B_s_l1Split_0, hb49, cL]
    exact ⟨p_s.length - (k3 + 1), oM, k3 + 1, x21, x25, A22, c23, u24, rfl, hlt48, oM, rfl, rfl, rfl, rfl, rfl, hf40, hf41, oM, Bl, hok44, Bo, Bo, (loopM.cont hlt48 hB68).symm.trans hI33⟩
  ·refine CW.seq (cR (sM rfl (sM rfl (sd rfl (yl_slen un9 (a := p_s) rfl rfl (sd rfl (yl_lss rfl rfl rfl (dn ?_))))))))
   refine CW.cond_f rfl (lt_f hlt48) (CW.exit (tx (tx ?_)))
   have hL69 : loopM (B_s_l1Split_0 p_s p_b) (p_s.length - 0) 0 (([] : List Str), 0) = .done (x21, x25) := hI33.symm.trans (loopM.stop hlt48)
   refine bx (tn (cR (sM rfl (sM rfl (sM rfl (sd rfl (yl_sslice_lo un9 (a := p_s) (l := (x25).toNat) rfl rfl (toNat_op rfl oM) oM (sd rfl (yl_buildSlice (cs := [.string (bs ((p_s.drop ((x25).toNat))))]) un22 ty9 (by decide) rfl (oc rfl oz) (by kernel_rfl) ?_)))))))))
   intro b70 w71 hs72 hz73 hB74 hE75
   have hO76 : OwnL w71 b70 (b70 + 1) 9 1 (RF e_Str) (some ⟨b70, 0, none⟩) 1 1 ([(p_s.drop ((x25).toNat))] : List Str) := OwnL.of_box (S := fun _ => False) hB74 (Nat.le_refl _) (Nat.lt_succ_self _) (EncL.cons (c := [.string (bs ((p_s.drop ((x25).toNat))))]) rfl rfl EncL.nil) (nb rfl) (fun h => h) (fun _ h => False.elim h)
   refine sd rfl (yl_appendL (S := (fun _ => False)) (lo := w.heap.size) (hi := u24) (xs := x21) (ys := ([(p_s.drop ((x25).toNat))] : List Str)) gS un22 ty9 rfl (nb rfl) rfl rfl rfl (OwnL.ex gS hf40 hE75) (EncL.cons (c := [.string (bs ((p_s.drop ((x25).toNat))))]) rfl rfl EncL.nil) (Or.inr ⟨_, _, rfl, rfl, hB74.cells (o := 0) (n := 1) rfl⟩) rfl Bl Bl oM oM (fun _ h _ => False.elim h) oM ?_)
   intro A78 c79 w80 row81 hO82 hG83 hrg84
   have hG83z := hG83.size
   refine sA rfl (dn (CW.ret (rr rfl (.cons rfl .nil) ?_)))
   have hM85 : (s_l1Split p_s p_b) = ((x21 ++ ([(p_s.drop ((x25).toNat))] : List Str))) := by simp only [s_l1Split, hL69, cL]
   rw [hM85]
   exact ⟨A78, c79, w.heap.size, w80.heap.size, rfl, hO82, (okL.mk (xs := (x21 ++ ([(p_s.drop ((x25).toNat))] : List Str))) Bl (okE.append hok44 ((okL.mk (nb rfl) (okE.cons (okS.drop o1 _) okE.nil))).2)), oM, (Below.grown (Ex.trans hf41 hE75) hG83 oM (fun k hk => by have := hrg84 k hk; omega))⟩
theorem c_s_l24Join {A1 : Option Addr} {c1 : Nat} {w : World} (p_l : List Str) (p_by : Str) (h1 : RdS w (Iv 0 w.heap.size) (RF e_Str) 1 A1 p_l.length c1 p_l) (o2 : (okL okS) p_l) (o3 : okS p_by) : Cal Tryz.prog 144 #[.slice A1 p_l.length c1, .string (bs (p_by))] w fun v w' => v = .string (bs ((s_l24Join p_l p_by))) ∧ Ex w w' := by
 have hol4 := o2.1
 have hol5 : p_by.length ≤ 1073741824 := o3
 refine Cal.of func144 rfl ntmps144 rfl (cR (sA rfl (dn (cR (sA rfl ?_)))))
 refine dn (CW.seq (cR (sM rfl (sd rfl (yL un22 rfl rfl (sM rfl (SeqR.done ?_)))))))
 refine tn (CW.block (CW.loop (fun m15 L16 w17 => ∃ (k6 : Nat) (x14 : Str), m15 = p_l.length - k6 ∧ k6 ≤ p_l.length ∧ w.heap.size ≤ w17.heap.size ∧ lkp L16 1 = some (.string (bs (p_by))) ∧ lkp L16 5 = some (.string (bs (x14))) ∧ lkp L16 8 = some (.slice A1 p_l.length c1) ∧ lkp L16 9 = some (.int .i64 ((p_l.length : Int))) ∧ lkp L16 10 = some (.int .i64 ((k6 : Int))) ∧ RdS w17 (Iv 0 w.heap.size) (RF e_Str) 1 A1 p_l.length c1 p_l ∧ Ex w w17 ∧ x14.length ≤ 0 + 2147483648 * (k6 - 0) ∧ loopM (B_s_l24Join_0 p_l p_by) (p_l.length - k6) k6 (x14) = loopM (B_s_l24Join_0 p_l p_by) (p_l.length - 0) 0 (([] : Str))) (p_l.length - 0) ?_ ?_))
 ·exact ⟨0, ([] : Str), rfl, oM, Nat.le_refl _, rfl, rfl, rfl, rfl, rfl, h1, (Ex.refl w), (by first | (simp; done) | (first | omega | (simp only [lN, toS_length]; omega))), rfl⟩
 ·rintro m18 L19 w20 ⟨k6, x14, rfl, hk21, hsz23, hl24, hl25, hl26, hl27, hl28, hf29, hf30, hln31, hI22⟩
  refine CW.sub (Sub.cons hl24 (Sub.cons hl25 (Sub.cons hl26 (Sub.cons hl27 (Sub.cons hl28 (Sub.nil _)))))) ?_
  have hf30z := Ex.size hf30
  have hbg32 := RdS.big hf29
  rcases Nat.lt_or_ge k6 p_l.length with hlt33 | hlt33
  ·refine cR (sd rfl (yl_lss rfl rfl rfl (dn (CW.seq (CW.cond_t rfl (lt_t hlt33) (CW.skip (tn ?_)))))))
   refine CW.seq (CW.block (cR (sM rfl ?_)))
   obtain ⟨eb34, eo34, _, eA34, _, ebl34, _, eR34, eC34⟩ := RdS.aD hf29 d_Str (i := k6)
   obtain rfl := eR34
   have eC34 : Cells w20 eb34 (eo34 + k6 * 1) [.string (bs ((p_l.getD k6 d_Str)))] := eC34
   refine sd rfl (yl_ixN un22 ty9 rfl rfl rfl eA34 (sd rfl (yl_load1 ty9 rfl rfl (eC34 0 _ rfl) (sA rfl (sA rfl (dn (CW.seq (cR ?_))))))))
   refine sM rfl (sd rfl (yl_gtr rfl rfl rfl (dn (bcase (decide (0 < (k6 : Int))) (fun hb35 => ?_) (fun hb35 => ?_)))))
   ·have hb35p := dec_t hb35
    refine CW.cond_t rfl hb35 (CW.region (sM rfl (sM rfl ?_)))
    have hol36 : p_by.length ≤ 1073741824 := o3
    refine sd rfl (yl_sadd (a := x14) (b := p_by) rfl rfl rfl Bl (sA rfl (dn (CW.region (sM rfl (sM rfl ?_))))))
    have hol37 : p_by.length ≤ 1073741824 := o3
    have hol38 : (p_l.getD k6 d_Str).length ≤ 1073741824 := (okL.getD o2 ok_d_Str _)
    refine sd rfl (yl_sadd (a := (x14 ++ p_by)) (b := (p_l.getD k6 d_Str)) rfl rfl rfl Bl (sA rfl (SeqR.done (bn (tn (CW.region (sd rfl (yl_inc rfl rfl rfl oM (sM rfl (SeqR.done ?_))))))))))
    refine tn ?_
    have hB39 : B_s_l24Join_0 p_l p_by k6 (x14) = .cont ((x14 ++ p_by) ++ (p_l.getD k6 d_Str)) := by simp only [B_s_l24Join_0, hb35, cL]
    exact ⟨p_l.length - (k6 + 1), oM, k6 + 1, (x14 ++ p_by) ++ (p_l.getD k6 d_Str), rfl, hlt33, oM, rfl, rfl, rfl, rfl, rfl, hf29, hf30, Bl, (loopM.cont hlt33 hB39).symm.trans hI22⟩
   ·have hb35p := dec_f hb35
    refine CW.cond_f rfl hb35 (CW.skip (tn (CW.region (sM rfl (sM rfl ?_)))))
    have hol40 : (p_l.getD k6 d_Str).length ≤ 1073741824 := (okL.getD o2 ok_d_Str _)
    refine sd rfl (yl_sadd (a := x14) (b := (p_l.getD k6 d_Str)) rfl rfl rfl Bl (sA rfl (SeqR.done (bn (tn (CW.region (sd rfl (yl_inc rfl rfl rfl oM (sM rfl (SeqR.done ?_))))))))))
    refine tn ?_
    have hB41 : B_s_l24Join_0 p_l p_by k6 (x14) = .cont (x14 ++ (p_l.getD k6 d_Str)) := by simp only [B_s_l24Join_0, hb35, cL]
    exact ⟨p_l.length - (k6 + 1), oM, k6 + 1, x14 ++ (p_l.getD k6 d_Str), rfl, hlt33, oM, rfl, rfl, rfl, rfl, rfl, hf29, hf30, Bl, (loopM.cont hlt33 hB41).symm.trans hI22⟩
  ·refine cR (sd rfl (yl_lss rfl rfl rfl (dn (CW.seq (CW.cond_f rfl (lt_f hlt33) (CW.exit (tx ?_)))))))
   refine tx ?_
   have hL42 : loopM (B_s_l24Join_0 p_l p_by) (p_l.length - 0) 0 (([] : Str)) = .done (x14) := hI22.symm.trans (loopM.stop hlt33)
   refine bx (tn (cR (sM rfl (sA rfl (dn (CW.ret ?_))))))
   refine rr rfl (.cons rfl .nil) ?_
   have hM43 : (s_l24Join p_l p_by) = (x14) := by simp only [s_l24Join, hL42, cL]
   rw [hM43]
   exact ⟨rfl, hf30⟩
theorem c_s_l25Write {A1 : Option Addr} {c1 : Nat} {A2 : Option Addr} {c2 : Nat} {A4 : Option Addr} {c4 : Nat} {w : World} (p_t : DTable) (p_r : DRow) (h1 : RdS w (Iv 0 w.heap.size) (RF e_Str) 1 A1 p_t.Cols.length c1 p_t.Cols) (h2 : RdS w (Iv 0 w.heap.size) (RF e_Idx) 3 A2 p_t.Idxs.length c2 p_t.Idxs) (h4 : RdS w (Iv 0 w.heap.size) (RF e_Str) 1 A4 p_r.Vals.length c4 p_r.Vals) (o3 : ok_Table p_t) (o5 : ok_Row p_r) (pre0 : 0 < p_r.Vals.length) : Cal Tryz.prog 130 #[.agg #[.string (bs (p_t.Name)), .slice A1 p_t.Cols.length c1, .slice A2 p_t.Idxs.length c2], .agg #[.slice A4 p_r.Vals.length c4]] w fun v w' => v = .agg #[.string (bs ((s_l25Write p_t p_r).Key)), .string (bs ((s_l25Write p_t p_r).Val)), .bool ((s_l25Write p_t p_r).Gone)] ∧ Ex w w' := by
 have hol6 : p_t.Name.length ≤ 1073741824 := o3.1
 have hol7 := o3.2.1.1
 have hol8 := o3.2.2.1
 have hol9 := o5.1
 refine Cal.of func130 rfl ntmps130 rfl (cR (sd rfl (yl_box rfl rfl rfl ?_)))
 intro b10 w11 hs12 hz13 hB14 hE15
 refine sd rfl (yl_box rfl rfl rfl ?_)
 intro b16 w17 hs18 hz19 hB20 hE21
 refine sd rfl (yB ty70 (cs := [.string (bs (([] : Str))), .string (bs (([] : Str))), .bool (false)]) rfl rfl ?_)
 intro b22 w23 hs24 hz25 hB26 hE27
 refine dn (CW.seq ?_)
 have hol30 : p_t.Name.length ≤ 1073741824 := o3.1
 have q31 := Box.ex hB20 hE27
 have q34 := RdS.ex gS (RdS.ex gS (RdS.ex gS h4 hE15) hE21) hE27
 obtain ⟨eb35, eo35, _, eA35, _, ebl35, _, eR35, eC35⟩ := RdS.aD q34 d_Str (i := 0)
 obtain rfl := eR35
 have eC35 : Cells w23 eb35 (eo35 + 0 * 1) [.string (bs ((p_r.Vals.getD 0 d_Str)))] := eC35
 have hol36 : p_t.Name.length ≤ 1073741824 := o3.1
 have hol37 : (p_r.Vals.getD 0 d_Str).length ≤ 1073741824 := (okL.getD o5 ok_d_Str _)
 obtain ⟨A38, c39, he42, h41⟩ := RdS.sl (RdS.drop q34 (k := 1) oM)
 have hrc43 := (q34).2.1
 refine CW.drawsI 12 (vgetI [DetI (.pointer (some ⟨b10, 0 + 0, none⟩)), DetI (.string (bs (p_t.Name))), DetI (.string (bs (p_t.Name ++ ([47] : Str)))), DetI (.pointer (some ⟨b16, 0 + 0, none⟩)), DetI (.slice A4 p_r.Vals.length c4), DetI (.pointer (some ⟨eb35, eo35 + 0 * 1, none⟩)), DetI (.string (bs ((p_r.Vals.getD 0 d_Str)))), DetI (.string (bs ((p_t.Name ++ ([47] : Str)) ++ (p_r.Vals.getD 0 d_Str)))), DetI (.pointer (some ⟨b16, 0 + 0, none⟩)), DetI (.slice A4 p_r.Vals.length c4), fun lo hi v wq => ∃ A38 c39, v = .slice A38 ((p_r.Vals.drop 1).length) c39 ∧ RdS wq (Iv 0 w.heap.size) (RF e_Str) 1 A38 (p_r.Vals.drop 1).length c39 (p_r.Vals.drop 1), DetI (.string (bs ((s_l24Join (p_r.Vals.drop 1) ([44] : Str)))))]) Tryz.follows rfl rfl rfl rfl rfl rfl (vgetI_stable ⟨StableI.det _, StableI.det _, StableI.det _, StableI.det _, StableI.det _, StableI.det _, StableI.det _, StableI.det _, StableI.det _, StableI.det _, (fun _ _ _ _ _ ⟨A38, c39, hv, h44⟩ e => ⟨A38, c39, hv, RdS.ex gS h44 e⟩), StableI.det _, trivial⟩) ⟨?_, ?_, ?_, ?_, ?_, ?_, ?_, ?_, ?_, ?_, ?_, ?_, trivial⟩ ?_
 ·exact oI rfl fun h => yl_fieldAddr fd41_0 rfl (h.old 2 _ rfl rfl) kI
 ·exact oI rfl fun h => yl_load1 ty9 rfl (h.dt 0 5 rfl rfl rfl) (((Box.ex (Box.ex (Box.ex hB14 hE21) hE27) h.ex).cell 0).trans rfl) kI
 ·intro L57 w58 hi59
  have hE60 := hi59.ex
  have hE60z := Ex.size hE60
  have hol62 : p_t.Name.length ≤ 1073741824 := o3.1
  exact os rfl ((yl_sadd (a := p_t.Name) (b := ([47] : Str)) rfl (hi59.dt 1 6 rfl rfl rfl) rfl Bl kI))
 ·exact oI rfl fun h => yl_fieldAddr fd45_0 rfl (h.old 3 _ rfl rfl) kI
 ·exact oI rfl fun h => yl_load1 ty22 rfl (h.dt 3 8 rfl rfl rfl) (((Box.ex q31 h.ex).cell 0).trans rfl) kI
 ·intro L74 w75 hi76
  have hE77 := hi76.ex
  have hE77z := Ex.size hE77
  exact os rfl ((yl_ixN un22 ty9 rfl (hi76.dt 4 9 rfl rfl rfl) rfl eA35 kI))
 ·exact oI rfl fun h => yl_load1 ty9 rfl (h.dt 5 10 rfl rfl rfl) ((Cells.ex eC35 h.ex) 0 _ rfl) kI
 ·intro L85 w86 hi87
  have hE88 := hi87.ex
  have hE88z := Ex.size hE88
  have hol91 : p_t.Name.length ≤ 1073741824 := o3.1
  have hol92 : (p_r.Vals.getD 0 d_Str).length ≤ 1073741824 := (okL.getD o5 ok_d_Str _)
  exact os rfl ((yl_sadd (a := (p_t.Name ++ ([47] : Str))) (b := (p_r.Vals.getD 0 d_Str)) rfl (hi87.dt 2 7 rfl rfl rfl) (hi87.dt 6 11 rfl rfl rfl) Bl kI))
 ·exact oI rfl fun h => yl_fieldAddr fd45_0 rfl (h.old 3 _ rfl rfl) kI
 ·exact oI rfl fun h => yl_load1 ty22 rfl (h.dt 8 13 rfl rfl rfl) (((Box.ex q31 h.ex).cell 0).trans rfl) kI
 ·intro L104 w105 hi106
  have hE107 := hi106.ex
  have hE107z := Ex.size hE107
  have q109 := RdS.ex gS q34 hE107
  obtain ⟨A110, c111, he114, h113⟩ := RdS.sl (RdS.drop q109 (k := 1) oM)
  have hrc115 := (q109).2.1
  exact os rfl ((yl_sliceR (kh := .i64) (l := 1) (h := p_r.Vals.length) un22 ty9 rfl (hi106.dt 9 14 rfl rfl rfl) (.inr ⟨_, rfl, rfl⟩) (.inl ⟨rfl, rfl⟩) oM oM he114 ⟨fun _ _ => ⟨A110, c111, rfl, h113⟩, rfl⟩))
 ·intro L116 w117 hi118
  obtain ⟨lo121, hh122, _, hx120, hr123, hr124, hr125, A38_126, c39_127, rfl, h128⟩ := hi118.dep 10 15 rfl rfl
  exact OpR.op' rfl (yC en144 rfl (oc hx120 (oc rfl oz)) (Cal.mono (c_s_l24Join (p_r.Vals.drop 1) ([44] : Str) (RdS.up h128 gS) (okL.drop o5 _) (okS.lit rfl)) fun _ _ h => h))
 ·intro fl135 fh136 L132 w133 hp134
  have hE137 := hp134.ex
  have hE137z := Ex.size hE137
  have hx138 := hp134.old 4 _ rfl rfl
  refine sd rfl (yl_build (cs := [.string (bs ((p_t.Name ++ ([47] : Str)) ++ (p_r.Vals.getD 0 d_Str))), .string (bs ((s_l24Join (p_r.Vals.drop 1) ([44] : Str)))), .bool (false)]) rfl (oc (hp134.nt 7 12 rfl rfl rfl) (oc (hp134.nt 11 16 rfl rfl rfl) oz)) (by kernel_rfl) (SeqR.u rfl rfl (yl_store (vs := [.string (bs ((p_t.Name ++ ([47] : Str)) ++ (p_r.Vals.getD 0 d_Str))), .string (bs ((s_l24Join (p_r.Vals.drop 1) ([44] : Str)))), .bool (false)]) ty70 rfl hx138 rfl rfl rfl rfl (Box.ex hB26 hE137) (nb rfl) ?_)))
  intro w142 hB143 hO144
  have hB143 : Box w142 b22 70 [.string (bs ((p_t.Name ++ ([47] : Str)) ++ (p_r.Vals.getD 0 d_Str))), .string (bs ((s_l24Join (p_r.Vals.drop 1) ([44] : Str)))), .bool (false)] := hB143
  have hO144z := hO144.size
  refine dn (CW.sub (sC 4 hx138 (Sub.nil _)) (CW.ret (rr rfl (.cons ⟨_, rfl, run_loadN ty70 (cs := [.string (bs ((p_t.Name ++ ([47] : Str)) ++ (p_r.Vals.getD 0 d_Str))), .string (bs ((s_l24Join (p_r.Vals.drop 1) ([44] : Str)))), .bool (false)]) rfl (hB143.cells (n := 3) rfl)⟩ .nil) ?_)))
  have hM145 : (s_l25Write p_t p_r) = ((⟨(p_t.Name ++ ([47] : Str)) ++ (p_r.Vals.getD 0 d_Str), (s_l24Join (p_r.Vals.drop 1) ([44] : Str)), false⟩ : DWrite)) := by simp only [s_l25Write, cL]
  rw [hM145]
  exact ⟨rfl, (Below.only (Ex.trans (Ex.trans (Ex.trans (Ex.trans (Ex.refl w) hE15) hE21) hE27) hE137) hO144 oM)⟩
end Go.Proofs.YtgehpfmdnkmiaaaGreatDoor
