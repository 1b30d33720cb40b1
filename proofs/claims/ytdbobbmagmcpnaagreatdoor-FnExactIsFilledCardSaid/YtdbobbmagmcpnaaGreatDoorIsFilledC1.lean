/- Is Filled: what each call returns, part 1. -/
import Derived.Test.YtdbobbmagmcpnaaGreatDoorIsFilledL
import Derived.Test.YtdbobbmagmcpnaaGreatDoorIsFilledF
import Derived.Test.YtdbobbmagmcpnaaGreatDoorIsFilledQ
import Derived.Test.YtdbobbmagmcpnaaGreatDoorIsFilledS
set_option maxRecDepth 100000
set_option maxHeartbeats 2000000
open Go.Proofs.Tryz Go.Proofs.YtdbobbmagmcpnaaGreatDoor.Tryz
set_option linter.unusedVariables false
set_option linter.unusedSimpArgs false
namespace Go.Proofs.YtdbobbmagmcpnaaGreatDoor
open Go.RowKit Go.X
theorem c_l_szWrite {w : World} (p_a : DWrite) (p_left : Int) : Cal Tryz.prog 25 #[.agg #[.string (bs (p_a.Key)), .string (bs (p_a.Val)), .bool (p_a.Gone)], .int .i64 (p_left)] w fun v w' => v = .int .i64 ((l_szWrite p_a p_left)) ∧ Ex w w' := by
 refine Cal.of func25 rfl ntmps25 rfl (CW.seq (CW.region (sd rfl (yl_box rfl rfl rfl ?_))))
 intro b1 w2 hs3 hz4 hB5 hE6
 refine sd rfl (yl_assign rfl rfl (dn (CW.seq (CW.region (sd rfl (yl_move rfl rfl (sd rfl (yl_fieldAddr fd69_0 rfl rfl (sd rfl (yl_load1 ty9 rfl rfl ((hB5.cell 0).trans rfl) (sd rfl (yl_slen un9 (a := p_a.Key) rfl rfl ?_))))))))))))
 refine sd rfl (yl_sub rfl rfl rfl (sd rfl (yl_assign rfl rfl (dn (CW.seq (CW.seq (CW.region (sd rfl (yl_move rfl rfl (sd rfl (yl_lss rfl rfl rfl ?_)))))))))))
 refine dn (bcase (decide ((IntKind.wrap .i64 (p_left - (p_a.Key.length : Int))) < 0)) (fun hb7 => ?_) (fun hb7 => ?_))
 ·have hb7p := dec_t hb7
  refine CW.cond_t rfl hb7 (CW.seq (CW.region (sd rfl (yl_assign rfl rfl (dn (CW.ret (tr (rr rfl (.cons rfl .nil) ?_))))))))
  have hM8 : (l_szWrite p_a p_left) = (-1) := by simp only [l_szWrite, hb7, cL]
  rw [hM8]
  exact ⟨rfl, (Ex.trans (Ex.refl w) hE6)⟩
 ·have hb7p := dec_f hb7
  refine CW.cond_f rfl hb7 (CW.skip (tn (CW.seq (CW.region (sd rfl (yl_move rfl rfl (sd rfl (yl_fieldAddr fd69_1 rfl rfl (sd rfl (yl_load1 ty9 rfl rfl ((hB5.cell 1).trans rfl) (sd rfl (yl_slen un9 (a := p_a.Val) rfl rfl ?_))))))))))))
  refine sd rfl (yl_sub rfl rfl rfl (sd rfl (yl_assign rfl rfl (dn (CW.seq (CW.seq (CW.region (sd rfl (yl_move rfl rfl (sd rfl (yl_lss rfl rfl rfl ?_)))))))))))
  refine dn (bcase (decide ((IntKind.wrap .i64 ((IntKind.wrap .i64 (p_left - (p_a.Key.length : Int))) - (p_a.Val.length : Int))) < 0)) (fun hb10 => ?_) (fun hb10 => ?_))
  ·have hb10p := dec_t hb10
   refine CW.cond_t rfl hb10 (CW.seq (CW.region (sd rfl (yl_assign rfl rfl (dn (CW.ret (tr (rr rfl (.cons rfl .nil) ?_))))))))
   have hM11 : (l_szWrite p_a p_left) = (-1) := by simp only [l_szWrite, hb7, hb10, cL]
   rw [hM11]
   exact ⟨rfl, (Ex.trans (Ex.refl w) hE6)⟩
  ·have hb10p := dec_f hb10
   refine CW.cond_f rfl hb10 (CW.skip (tn (CW.seq (CW.region (sd rfl (yl_move rfl rfl (sd rfl (yl_assign rfl rfl (dn ?_)))))))))
   refine CW.ret (rr rfl (.cons rfl .nil) ?_)
   have hM13 : (l_szWrite p_a p_left) = (IntKind.wrap .i64 ((IntKind.wrap .i64 (p_left - (p_a.Key.length : Int))) - (p_a.Val.length : Int))) := by simp only [l_szWrite, hb7, hb10, cL]
   rw [hM13]
   exact ⟨rfl, (Ex.trans (Ex.refl w) hE6)⟩
theorem c_l_szWriteS {A1 : Option Addr} {c1 : Nat} {w : World} (p_a : List DWrite) (p_left : Int) (h1 : RdS w (Iv 0 w.heap.size) (RF e_Write) 3 A1 p_a.length c1 p_a) : Cal Tryz.prog 6 #[.slice A1 p_a.length c1, .int .i64 (p_left)] w fun v w' => v = .int .i64 ((l_szWriteS p_a p_left)) ∧ Ex w w' := by
 refine Cal.of func6 rfl ntmps6 rfl (CW.seq (CW.region (sd rfl (yl_assign rfl rfl (dn (CW.seq (CW.region (sd rfl (yl_move rfl rfl ?_)))))))))
 refine sd rfl (yl_move rfl rfl (sd rfl (yl_len un26 rfl rfl (sd rfl (yl_sub rfl rfl rfl (sd rfl (yl_assign rfl rfl (dn (CW.seq (CW.seq (CW.region ?_)))))))))))
 refine sd rfl (yl_move rfl rfl (sd rfl (yl_lss rfl rfl rfl (dn (bcase (decide ((IntKind.wrap .i64 (p_left - (p_a.length : Int))) < 0)) (fun hb2 => ?_) (fun hb2 => ?_))))))
 ·have hb2p := dec_t hb2
  refine CW.cond_t rfl hb2 (CW.seq (CW.region (sd rfl (yl_assign rfl rfl (dn (CW.ret (tr (rr rfl (.cons rfl .nil) ?_))))))))
  have hM3 : (l_szWriteS p_a p_left) = (-1) := by simp only [l_szWriteS, hb2, cL]
  rw [hM3]
  exact ⟨rfl, (Ex.refl w)⟩
 ·have hb2p := dec_f hb2
  refine CW.cond_f rfl hb2 (CW.skip (tn (CW.seq (CW.seq (CW.region (sd rfl (yl_assign rfl rfl (dn ?_))))))))
  refine CW.block (CW.loop (fun m6 L7 w8 => ∃ (k4 : Nat) (x5 : Int), m6 = p_a.length - k4 ∧ k4 ≤ p_a.length ∧ w.heap.size ≤ w8.heap.size ∧ lkp L7 0 = some (.slice A1 p_a.length c1) ∧ lkp L7 1 = some (.int .i64 (x5)) ∧ lkp L7 5 = some (.int .i64 ((k4 : Int))) ∧ RdS w8 (Iv 0 w.heap.size) (RF e_Write) 3 A1 p_a.length c1 p_a ∧ Ex w w8 ∧ loopM (B_l_szWriteS_0 p_a p_left) (p_a.length - k4) k4 (x5) = loopM (B_l_szWriteS_0 p_a p_left) (p_a.length - 0) 0 (IntKind.wrap .i64 (p_left - (p_a.length : Int)))) (p_a.length - 0) ?_ ?_)
  ·exact ⟨0, IntKind.wrap .i64 (p_left - (p_a.length : Int)), rfl, (by omega), Nat.le_refl _, rfl, rfl, rfl, h1, (Ex.refl w), rfl⟩
  ·rintro m9 L10 w11 ⟨k4, x5, rfl, hk12, hsz14, hl15, hl16, hl17, hf18, hf19, hI13⟩
   refine CW.sub (Sub.cons hl15 (Sub.cons hl16 (Sub.cons hl17 (Sub.nil _)))) ?_
   have hf19z := Ex.size hf19
   have hbg20 := RdS.big hf18
   rcases Nat.lt_or_ge k4 p_a.length with hlt21 | hlt21
   ·refine CW.seq (CW.seq (CW.region (sd rfl (yl_move rfl rfl (sd rfl (yl_move rfl rfl (sd rfl (yl_len un26 rfl rfl (sd rfl (yl_lss rfl rfl rfl (dn ?_)))))))))))
    refine CW.cond_t rfl (lt_t hlt21) (CW.skip (tn (CW.seq (CW.block (CW.seq (CW.region (sd rfl (yl_move rfl rfl (sd rfl (yl_move rfl rfl ?_))))))))))
    obtain ⟨eb22, eo22, _, eA22, _, ebl22, _, eR22, eC22⟩ := RdS.aD hf18 d_Write (i := k4)
    obtain rfl := eR22
    have eC22 : Cells w11 eb22 (eo22 + k4 * 3) [.string (bs ((p_a.getD k4 d_Write).Key)), .string (bs ((p_a.getD k4 d_Write).Val)), .bool ((p_a.getD k4 d_Write).Gone)] := eC22
    refine sd rfl (yl_ixN un26 ty69 rfl rfl rfl eA22 (sd rfl (yl_loadN ty69 rfl rfl eC22 rfl (sd rfl (yl_move rfl rfl (sd rfl (yl_call en25 rfl (oc rfl (oc rfl oz)) (Cal.mono (c_l_szWrite (p_a.getD k4 d_Write) x5) ?_))))))))
    rintro v24 w23 ⟨rfl, hE25⟩
    have hE25z := Ex.size hE25
    refine sd rfl (yl_assign rfl rfl (dn (CW.seq (CW.region (sd rfl (yl_move rfl rfl (sd rfl (yl_lss rfl rfl rfl (dn ?_)))))))))
    refine bcase (decide ((l_szWrite (p_a.getD k4 d_Write) x5) < 0)) (fun hb26 => ?_) (fun hb26 => ?_)
    ·have hb26p := dec_t hb26
     refine CW.cond_t rfl hb26 (CW.seq (CW.region (sd rfl (yl_assign rfl rfl (dn (CW.ret (br (tr ?_))))))))
     refine tr ?_
     have hB28 : B_l_szWriteS_0 p_a p_left k4 (x5) = .ret (-1) := by simp only [B_l_szWriteS_0, hb2, hb26, cL]
     have hL27 : loopM (B_l_szWriteS_0 p_a p_left) (p_a.length - 0) 0 (IntKind.wrap .i64 (p_left - (p_a.length : Int))) = .ret (-1) := hI13.symm.trans (loopM.ret hlt21 hB28)
     refine br (tr (rr rfl (.cons rfl .nil) ?_))
     have hM29 : (l_szWriteS p_a p_left) = (-1) := by simp only [l_szWriteS, hb2, hb26, hL27, cL]
     rw [hM29]
     exact ⟨rfl, (Ex.trans hf19 hE25)⟩
    ·have hb26p := dec_f hb26
     refine CW.cond_f rfl hb26 (CW.skip (bn (tn (CW.region (sd rfl (yl_move rfl rfl (sd rfl (yl_inc rfl rfl rfl (by omega) (sd rfl (yl_assign rfl rfl (SeqR.done ?_)))))))))))
     refine tn ?_
     have hB31 : B_l_szWriteS_0 p_a p_left k4 (x5) = .cont ((l_szWrite (p_a.getD k4 d_Write) x5)) := by simp only [B_l_szWriteS_0, hb2, hb26, cL]
     exact ⟨p_a.length - (k4 + 1), by omega, k4 + 1, (l_szWrite (p_a.getD k4 d_Write) x5), rfl, hlt21, (by omega), rfl, rfl, rfl, (RdS.ex good_Write hf18 hE25), (Ex.trans hf19 hE25), (loopM.cont hlt21 hB31).symm.trans hI13⟩
   ·refine CW.seq (CW.seq (CW.region (sd rfl (yl_move rfl rfl (sd rfl (yl_move rfl rfl (sd rfl (yl_len un26 rfl rfl (sd rfl (yl_lss rfl rfl rfl (dn ?_)))))))))))
    refine CW.cond_f rfl (lt_f hlt21) (CW.exit (tx (tx ?_)))
    have hL34 : loopM (B_l_szWriteS_0 p_a p_left) (p_a.length - 0) 0 (IntKind.wrap .i64 (p_left - (p_a.length : Int))) = .done (x5) := hI13.symm.trans (loopM.stop hlt21)
    refine bx (tn (CW.seq (CW.region (sd rfl (yl_move rfl rfl (sd rfl (yl_assign rfl rfl (dn (CW.ret ?_)))))))))
    refine rr rfl (.cons rfl .nil) ?_
    have hM35 : (l_szWriteS p_a p_left) = (x5) := by simp only [l_szWriteS, hb2, hL34, cL]
    rw [hM35]
    exact ⟨rfl, hf19⟩
theorem c_l_szStringS {A1 : Option Addr} {c1 : Nat} {w : World} (p_a : List Str) (p_left : Int) (h1 : RdS w (Iv 0 w.heap.size) (RF e_Str) 1 A1 p_a.length c1 p_a) : Cal Tryz.prog 23 #[.slice A1 p_a.length c1, .int .i64 (p_left)] w fun v w' => v = .int .i64 ((l_szStringS p_a p_left)) ∧ Ex w w' := by
 refine Cal.of func23 rfl ntmps23 rfl (CW.seq (CW.region (sd rfl (yl_assign rfl rfl (dn (CW.seq (CW.region (sd rfl (yl_move rfl rfl ?_)))))))))
 refine sd rfl (yl_move rfl rfl (sd rfl (yl_len un22 rfl rfl (sd rfl (yl_sub rfl rfl rfl (sd rfl (yl_assign rfl rfl (dn (CW.seq (CW.seq (CW.region ?_)))))))))))
 refine sd rfl (yl_move rfl rfl (sd rfl (yl_lss rfl rfl rfl (dn (bcase (decide ((IntKind.wrap .i64 (p_left - (p_a.length : Int))) < 0)) (fun hb2 => ?_) (fun hb2 => ?_))))))
 ·have hb2p := dec_t hb2
  refine CW.cond_t rfl hb2 (CW.seq (CW.region (sd rfl (yl_assign rfl rfl (dn (CW.ret (tr (rr rfl (.cons rfl .nil) ?_))))))))
  have hM3 : (l_szStringS p_a p_left) = (-1) := by simp only [l_szStringS, hb2, cL]
  rw [hM3]
  exact ⟨rfl, (Ex.refl w)⟩
 ·have hb2p := dec_f hb2
  refine CW.cond_f rfl hb2 (CW.skip (tn (CW.seq (CW.seq (CW.region (sd rfl (yl_assign rfl rfl (dn ?_))))))))
  refine CW.block (CW.loop (fun m6 L7 w8 => ∃ (k4 : Nat) (x5 : Int), m6 = p_a.length - k4 ∧ k4 ≤ p_a.length ∧ w.heap.size ≤ w8.heap.size ∧ lkp L7 0 = some (.slice A1 p_a.length c1) ∧ lkp L7 1 = some (.int .i64 (x5)) ∧ lkp L7 5 = some (.int .i64 ((k4 : Int))) ∧ RdS w8 (Iv 0 w.heap.size) (RF e_Str) 1 A1 p_a.length c1 p_a ∧ Ex w w8 ∧ loopM (B_l_szStringS_0 p_a p_left) (p_a.length - k4) k4 (x5) = loopM (B_l_szStringS_0 p_a p_left) (p_a.length - 0) 0 (IntKind.wrap .i64 (p_left - (p_a.length : Int)))) (p_a.length - 0) ?_ ?_)
  ·exact ⟨0, IntKind.wrap .i64 (p_left - (p_a.length : Int)), rfl, (by omega), Nat.le_refl _, rfl, rfl, rfl, h1, (Ex.refl w), rfl⟩
  ·rintro m9 L10 w11 ⟨k4, x5, rfl, hk12, hsz14, hl15, hl16, hl17, hf18, hf19, hI13⟩
   refine CW.sub (Sub.cons hl15 (Sub.cons hl16 (Sub.cons hl17 (Sub.nil _)))) ?_
   have hf19z := Ex.size hf19
   have hbg20 := RdS.big hf18
   rcases Nat.lt_or_ge k4 p_a.length with hlt21 | hlt21
   ·refine CW.seq (CW.seq (CW.region (sd rfl (yl_move rfl rfl (sd rfl (yl_move rfl rfl (sd rfl (yl_len un22 rfl rfl (sd rfl (yl_lss rfl rfl rfl (dn ?_)))))))))))
    refine CW.cond_t rfl (lt_t hlt21) (CW.skip (tn (CW.seq (CW.block (CW.seq (CW.region (sd rfl (yl_move rfl rfl (sd rfl (yl_move rfl rfl ?_))))))))))
    refine sd rfl (yl_move rfl rfl ?_)
    obtain ⟨eb22, eo22, _, eA22, _, ebl22, _, eR22, eC22⟩ := RdS.aD hf18 d_Str (i := k4)
    obtain rfl := eR22
    have eC22 : Cells w11 eb22 (eo22 + k4 * 1) [.string (bs ((p_a.getD k4 d_Str)))] := eC22
    refine sd rfl (yl_ixN un22 ty9 rfl rfl rfl eA22 (sd rfl (yl_load1 ty9 rfl rfl (eC22 0 _ rfl) (sd rfl (yl_slen un9 (a := (p_a.getD k4 d_Str)) rfl rfl (sd rfl (yl_sub rfl rfl rfl (sd rfl (yl_assign rfl rfl (dn (CW.seq (CW.region ?_))))))))))))
    refine sd rfl (yl_move rfl rfl (sd rfl (yl_lss rfl rfl rfl (dn (bcase (decide ((IntKind.wrap .i64 (x5 - ((p_a.getD k4 d_Str).length : Int))) < 0)) (fun hb23 => ?_) (fun hb23 => ?_))))))
    ·have hb23p := dec_t hb23
     refine CW.cond_t rfl hb23 (CW.seq (CW.region (sd rfl (yl_assign rfl rfl (dn (CW.ret (br (tr ?_))))))))
     refine tr ?_
     have hB25 : B_l_szStringS_0 p_a p_left k4 (x5) = .ret (-1) := by simp only [B_l_szStringS_0, hb2, hb23, cL]
     have hL24 : loopM (B_l_szStringS_0 p_a p_left) (p_a.length - 0) 0 (IntKind.wrap .i64 (p_left - (p_a.length : Int))) = .ret (-1) := hI13.symm.trans (loopM.ret hlt21 hB25)
     refine br (tr (rr rfl (.cons rfl .nil) ?_))
     have hM26 : (l_szStringS p_a p_left) = (-1) := by simp only [l_szStringS, hb2, hb23, hL24, cL]
     rw [hM26]
     exact ⟨rfl, hf19⟩
    ·have hb23p := dec_f hb23
     refine CW.cond_f rfl hb23 (CW.skip (bn (tn (CW.region (sd rfl (yl_move rfl rfl (sd rfl (yl_inc rfl rfl rfl (by omega) (sd rfl (yl_assign rfl rfl (SeqR.done ?_)))))))))))
     refine tn ?_
     have hB27 : B_l_szStringS_0 p_a p_left k4 (x5) = .cont (IntKind.wrap .i64 (x5 - ((p_a.getD k4 d_Str).length : Int))) := by simp only [B_l_szStringS_0, hb2, hb23, cL]
     exact ⟨p_a.length - (k4 + 1), by omega, k4 + 1, IntKind.wrap .i64 (x5 - ((p_a.getD k4 d_Str).length : Int)), rfl, hlt21, (by omega), rfl, rfl, rfl, hf18, hf19, (loopM.cont hlt21 hB27).symm.trans hI13⟩
   ·refine CW.seq (CW.seq (CW.region (sd rfl (yl_move rfl rfl (sd rfl (yl_move rfl rfl (sd rfl (yl_len un22 rfl rfl (sd rfl (yl_lss rfl rfl rfl (dn ?_)))))))))))
    refine CW.cond_f rfl (lt_f hlt21) (CW.exit (tx (tx ?_)))
    have hL28 : loopM (B_l_szStringS_0 p_a p_left) (p_a.length - 0) 0 (IntKind.wrap .i64 (p_left - (p_a.length : Int))) = .done (x5) := hI13.symm.trans (loopM.stop hlt21)
    refine bx (tn (CW.seq (CW.region (sd rfl (yl_move rfl rfl (sd rfl (yl_assign rfl rfl (dn (CW.ret ?_)))))))))
    refine rr rfl (.cons rfl .nil) ?_
    have hM29 : (l_szStringS p_a p_left) = (x5) := by simp only [l_szStringS, hb2, hL28, cL]
    rw [hM29]
    exact ⟨rfl, hf19⟩
theorem c_l_szIdx {w : World} (p_a : DIdx) (p_left : Int) : Cal Tryz.prog 58 #[.agg #[.string (bs (p_a.Name)), .int .i64 (p_a.Col), .int .i64 (p_a.Stage)], .int .i64 (p_left)] w fun v w' => v = .int .i64 ((l_szIdx p_a p_left)) ∧ Ex w w' := by
 refine Cal.of func58 rfl ntmps58 rfl (CW.seq (CW.region (sd rfl (yl_box rfl rfl rfl ?_))))
 intro b1 w2 hs3 hz4 hB5 hE6
 refine sd rfl (yl_assign rfl rfl (dn (CW.seq (CW.region (sd rfl (yl_move rfl rfl (sd rfl (yl_fieldAddr fd101_0 rfl rfl (sd rfl (yl_load1 ty9 rfl rfl ((hB5.cell 0).trans rfl) (sd rfl (yl_slen un9 (a := p_a.Name) rfl rfl ?_))))))))))))
 refine sd rfl (yl_sub rfl rfl rfl (sd rfl (yl_assign rfl rfl (dn (CW.seq (CW.seq (CW.region (sd rfl (yl_move rfl rfl (sd rfl (yl_lss rfl rfl rfl ?_)))))))))))
 refine dn (bcase (decide ((IntKind.wrap .i64 (p_left - (p_a.Name.length : Int))) < 0)) (fun hb7 => ?_) (fun hb7 => ?_))
 ·have hb7p := dec_t hb7
  refine CW.cond_t rfl hb7 (CW.seq (CW.region (sd rfl (yl_assign rfl rfl (dn (CW.ret (tr (rr rfl (.cons rfl .nil) ?_))))))))
  have hM8 : (l_szIdx p_a p_left) = (-1) := by simp only [l_szIdx, hb7, cL]
  rw [hM8]
  exact ⟨rfl, (Ex.trans (Ex.refl w) hE6)⟩
 ·have hb7p := dec_f hb7
  refine CW.cond_f rfl hb7 (CW.skip (tn (CW.seq (CW.region (sd rfl (yl_move rfl rfl (sd rfl (yl_assign rfl rfl (dn ?_)))))))))
  refine CW.ret (rr rfl (.cons rfl .nil) ?_)
  have hM10 : (l_szIdx p_a p_left) = (IntKind.wrap .i64 (p_left - (p_a.Name.length : Int))) := by simp only [l_szIdx, hb7, cL]
  rw [hM10]
  exact ⟨rfl, (Ex.trans (Ex.refl w) hE6)⟩
theorem c_l_szIdxS {A1 : Option Addr} {c1 : Nat} {w : World} (p_a : List DIdx) (p_left : Int) (h1 : RdS w (Iv 0 w.heap.size) (RF e_Idx) 3 A1 p_a.length c1 p_a) : Cal Tryz.prog 24 #[.slice A1 p_a.length c1, .int .i64 (p_left)] w fun v w' => v = .int .i64 ((l_szIdxS p_a p_left)) ∧ Ex w w' := by
 refine Cal.of func24 rfl ntmps24 rfl (CW.seq (CW.region (sd rfl (yl_assign rfl rfl (dn (CW.seq (CW.region (sd rfl (yl_move rfl rfl ?_)))))))))
 refine sd rfl (yl_move rfl rfl (sd rfl (yl_len un23 rfl rfl (sd rfl (yl_sub rfl rfl rfl (sd rfl (yl_assign rfl rfl (dn (CW.seq (CW.seq (CW.region ?_)))))))))))
 refine sd rfl (yl_move rfl rfl (sd rfl (yl_lss rfl rfl rfl (dn (bcase (decide ((IntKind.wrap .i64 (p_left - (p_a.length : Int))) < 0)) (fun hb2 => ?_) (fun hb2 => ?_))))))
 ·have hb2p := dec_t hb2
  refine CW.cond_t rfl hb2 (CW.seq (CW.region (sd rfl (yl_assign rfl rfl (dn (CW.ret (tr (rr rfl (.cons rfl .nil) ?_))))))))
  have hM3 : (l_szIdxS p_a p_left) = (-1) := by simp only [l_szIdxS, hb2, cL]
  rw [hM3]
  exact ⟨rfl, (Ex.refl w)⟩
 ·have hb2p := dec_f hb2
  refine CW.cond_f rfl hb2 (CW.skip (tn (CW.seq (CW.seq (CW.region (sd rfl (yl_assign rfl rfl (dn ?_))))))))
  refine CW.block (CW.loop (fun m6 L7 w8 => ∃ (k4 : Nat) (x5 : Int), m6 = p_a.length - k4 ∧ k4 ≤ p_a.length ∧ w.heap.size ≤ w8.heap.size ∧ lkp L7 0 = some (.slice A1 p_a.length c1) ∧ lkp L7 1 = some (.int .i64 (x5)) ∧ lkp L7 5 = some (.int .i64 ((k4 : Int))) ∧ RdS w8 (Iv 0 w.heap.size) (RF e_Idx) 3 A1 p_a.length c1 p_a ∧ Ex w w8 ∧ loopM (B_l_szIdxS_0 p_a p_left) (p_a.length - k4) k4 (x5) = loopM (B_l_szIdxS_0 p_a p_left) (p_a.length - 0) 0 (IntKind.wrap .i64 (p_left - (p_a.length : Int)))) (p_a.length - 0) ?_ ?_)
  ·exact ⟨0, IntKind.wrap .i64 (p_left - (p_a.length : Int)), rfl, (by omega), Nat.le_refl _, rfl, rfl, rfl, h1, (Ex.refl w), rfl⟩
  ·rintro m9 L10 w11 ⟨k4, x5, rfl, hk12, hsz14, hl15, hl16, hl17, hf18, hf19, hI13⟩
   refine CW.sub (Sub.cons hl15 (Sub.cons hl16 (Sub.cons hl17 (Sub.nil _)))) ?_
   have hf19z := Ex.size hf19
   have hbg20 := RdS.big hf18
   rcases Nat.lt_or_ge k4 p_a.length with hlt21 | hlt21
   ·refine CW.seq (CW.seq (CW.region (sd rfl (yl_move rfl rfl (sd rfl (yl_move rfl rfl (sd rfl (yl_len un23 rfl rfl (sd rfl (yl_lss rfl rfl rfl (dn ?_)))))))))))
    refine CW.cond_t rfl (lt_t hlt21) (CW.skip (tn (CW.seq (CW.block (CW.seq (CW.region (sd rfl (yl_move rfl rfl (sd rfl (yl_move rfl rfl ?_))))))))))
    obtain ⟨eb22, eo22, _, eA22, _, ebl22, _, eR22, eC22⟩ := RdS.aD hf18 d_Idx (i := k4)
    obtain rfl := eR22
    have eC22 : Cells w11 eb22 (eo22 + k4 * 3) [.string (bs ((p_a.getD k4 d_Idx).Name)), .int .i64 ((p_a.getD k4 d_Idx).Col), .int .i64 ((p_a.getD k4 d_Idx).Stage)] := eC22
    refine sd rfl (yl_ixN un23 ty101 rfl rfl rfl eA22 (sd rfl (yl_loadN ty101 rfl rfl eC22 rfl (sd rfl (yl_move rfl rfl (sd rfl (yl_call en58 rfl (oc rfl (oc rfl oz)) (Cal.mono (c_l_szIdx (p_a.getD k4 d_Idx) x5) ?_))))))))
    rintro v24 w23 ⟨rfl, hE25⟩
    have hE25z := Ex.size hE25
    refine sd rfl (yl_assign rfl rfl (dn (CW.seq (CW.region (sd rfl (yl_move rfl rfl (sd rfl (yl_lss rfl rfl rfl (dn ?_)))))))))
    refine bcase (decide ((l_szIdx (p_a.getD k4 d_Idx) x5) < 0)) (fun hb26 => ?_) (fun hb26 => ?_)
    ·have hb26p := dec_t hb26
     refine CW.cond_t rfl hb26 (CW.seq (CW.region (sd rfl (yl_assign rfl rfl (dn (CW.ret (br (tr ?_))))))))
     refine tr ?_
     have hB28 : B_l_szIdxS_0 p_a p_left k4 (x5) = .ret (-1) := by simp only [B_l_szIdxS_0, hb2, hb26, cL]
     have hL27 : loopM (B_l_szIdxS_0 p_a p_left) (p_a.length - 0) 0 (IntKind.wrap .i64 (p_left - (p_a.length : Int))) = .ret (-1) := hI13.symm.trans (loopM.ret hlt21 hB28)
     refine br (tr (rr rfl (.cons rfl .nil) ?_))
     have hM29 : (l_szIdxS p_a p_left) = (-1) := by simp only [l_szIdxS, hb2, hb26, hL27, cL]
     rw [hM29]
     exact ⟨rfl, (Ex.trans hf19 hE25)⟩
    ·have hb26p := dec_f hb26
     refine CW.cond_f rfl hb26 (CW.skip (bn (tn (CW.region (sd rfl (yl_move rfl rfl (sd rfl (yl_inc rfl rfl rfl (by omega) (sd rfl (yl_assign rfl rfl (SeqR.done ?_)))))))))))
     refine tn ?_
     have hB31 : B_l_szIdxS_0 p_a p_left k4 (x5) = .cont ((l_szIdx (p_a.getD k4 d_Idx) x5)) := by simp only [B_l_szIdxS_0, hb2, hb26, cL]
     exact ⟨p_a.length - (k4 + 1), by omega, k4 + 1, (l_szIdx (p_a.getD k4 d_Idx) x5), rfl, hlt21, (by omega), rfl, rfl, rfl, (RdS.ex good_Idx hf18 hE25), (Ex.trans hf19 hE25), (loopM.cont hlt21 hB31).symm.trans hI13⟩
   ·refine CW.seq (CW.seq (CW.region (sd rfl (yl_move rfl rfl (sd rfl (yl_move rfl rfl (sd rfl (yl_len un23 rfl rfl (sd rfl (yl_lss rfl rfl rfl (dn ?_)))))))))))
    refine CW.cond_f rfl (lt_f hlt21) (CW.exit (tx (tx ?_)))
    have hL34 : loopM (B_l_szIdxS_0 p_a p_left) (p_a.length - 0) 0 (IntKind.wrap .i64 (p_left - (p_a.length : Int))) = .done (x5) := hI13.symm.trans (loopM.stop hlt21)
    refine bx (tn (CW.seq (CW.region (sd rfl (yl_move rfl rfl (sd rfl (yl_assign rfl rfl (dn (CW.ret ?_)))))))))
    refine rr rfl (.cons rfl .nil) ?_
    have hM35 : (l_szIdxS p_a p_left) = (x5) := by simp only [l_szIdxS, hb2, hL34, cL]
    rw [hM35]
    exact ⟨rfl, hf19⟩
theorem c_l_szTable {A1 : Option Addr} {c1 : Nat} {A2 : Option Addr} {c2 : Nat} {w : World} (p_a : DTable) (p_left : Int) (h1 : RdS w (Iv 0 w.heap.size) (RF e_Str) 1 A1 p_a.Cols.length c1 p_a.Cols) (h2 : RdS w (Iv 0 w.heap.size) (RF e_Idx) 3 A2 p_a.Idxs.length c2 p_a.Idxs) : Cal Tryz.prog 5 #[.agg #[.string (bs (p_a.Name)), .slice A1 p_a.Cols.length c1, .slice A2 p_a.Idxs.length c2], .int .i64 (p_left)] w fun v w' => v = .int .i64 ((l_szTable p_a p_left)) ∧ Ex w w' := by
 refine Cal.of func5 rfl ntmps5 rfl (CW.seq (CW.region (sd rfl (yl_box rfl rfl rfl ?_))))
 intro b3 w4 hs5 hz6 hB7 hE8
 refine sd rfl (yl_assign rfl rfl (dn (CW.seq (CW.region (sd rfl (yl_move rfl rfl (sd rfl (yl_fieldAddr fd25_0 rfl rfl (sd rfl (yl_load1 ty9 rfl rfl ((hB7.cell 0).trans rfl) (sd rfl (yl_slen un9 (a := p_a.Name) rfl rfl ?_))))))))))))
 refine sd rfl (yl_sub rfl rfl rfl (sd rfl (yl_assign rfl rfl (dn (CW.seq (CW.seq (CW.region (sd rfl (yl_move rfl rfl (sd rfl (yl_lss rfl rfl rfl ?_)))))))))))
 refine dn (bcase (decide ((IntKind.wrap .i64 (p_left - (p_a.Name.length : Int))) < 0)) (fun hb9 => ?_) (fun hb9 => ?_))
 ·have hb9p := dec_t hb9
  refine CW.cond_t rfl hb9 (CW.seq (CW.region (sd rfl (yl_assign rfl rfl (dn (CW.ret (tr (rr rfl (.cons rfl .nil) ?_))))))))
  have hM10 : (l_szTable p_a p_left) = (-1) := by simp only [l_szTable, hb9, cL]
  rw [hM10]
  exact ⟨rfl, (Ex.trans (Ex.refl w) hE8)⟩
 ·have hb9p := dec_f hb9
  refine CW.cond_f rfl hb9 (CW.skip (tn (CW.seq (CW.region (sd rfl (yl_fieldAddr fd25_1 rfl rfl (sd rfl (yl_load1 ty22 rfl rfl ((hB7.cell 1).trans rfl) (sd rfl (yl_move rfl rfl (sd rfl (yl_call en23 rfl (oc rfl (oc rfl oz)) (Cal.mono (c_l_szStringS p_a.Cols (IntKind.wrap .i64 (p_left - (p_a.Name.length : Int))) (RdS.up (RdS.ex good_Str h1 hE8) good_Str)) ?_)))))))))))))
  rintro v14 w13 ⟨rfl, hE15⟩
  refine sd rfl (yl_assign rfl rfl (dn (CW.seq (CW.seq (CW.region (sd rfl (yl_move rfl rfl (sd rfl (yl_lss rfl rfl rfl (SeqR.done ?_))))))))))
  refine tn (bcase (decide ((l_szStringS p_a.Cols (IntKind.wrap .i64 (p_left - (p_a.Name.length : Int)))) < 0)) (fun hb16 => ?_) (fun hb16 => ?_))
  ·have hb16p := dec_t hb16
   refine CW.cond_t rfl hb16 (CW.seq (CW.region (sd rfl (yl_assign rfl rfl (dn (CW.ret (tr (rr rfl (.cons rfl .nil) ?_))))))))
   have hM17 : (l_szTable p_a p_left) = (-1) := by simp only [l_szTable, hb9, hb16, cL]
   rw [hM17]
   exact ⟨rfl, (Ex.trans (Ex.trans (Ex.refl w) hE8) hE15)⟩
  ·have hb16p := dec_f hb16
   refine CW.cond_f rfl hb16 (CW.skip (tn (CW.seq (CW.region (sd rfl (yl_fieldAddr fd25_2 rfl rfl (sd rfl (yl_load1 ty23 rfl rfl (((Box.ex hB7 hE15).cell 2).trans rfl) (sd rfl (yl_move rfl rfl (sd rfl (yl_call en24 rfl (oc rfl (oc rfl oz)) (Cal.mono (c_l_szIdxS p_a.Idxs (l_szStringS p_a.Cols (IntKind.wrap .i64 (p_left - (p_a.Name.length : Int)))) (RdS.up (RdS.ex good_Idx (RdS.ex good_Idx h2 hE8) hE15) good_Idx)) ?_)))))))))))))
   rintro v24 w23 ⟨rfl, hE25⟩
   refine sd rfl (yl_assign rfl rfl (dn (CW.seq (CW.seq (CW.region (sd rfl (yl_move rfl rfl (sd rfl (yl_lss rfl rfl rfl (SeqR.done ?_))))))))))
   refine tn (bcase (decide ((l_szIdxS p_a.Idxs (l_szStringS p_a.Cols (IntKind.wrap .i64 (p_left - (p_a.Name.length : Int))))) < 0)) (fun hb26 => ?_) (fun hb26 => ?_))
   ·have hb26p := dec_t hb26
    refine CW.cond_t rfl hb26 (CW.seq (CW.region (sd rfl (yl_assign rfl rfl (dn (CW.ret (tr (rr rfl (.cons rfl .nil) ?_))))))))
    have hM27 : (l_szTable p_a p_left) = (-1) := by simp only [l_szTable, hb9, hb16, hb26, cL]
    rw [hM27]
    exact ⟨rfl, (Ex.trans (Ex.trans (Ex.trans (Ex.refl w) hE8) hE15) hE25)⟩
   ·have hb26p := dec_f hb26
    refine CW.cond_f rfl hb26 (CW.skip (tn (CW.seq (CW.region (sd rfl (yl_move rfl rfl (sd rfl (yl_assign rfl rfl (dn ?_)))))))))
    refine CW.ret (rr rfl (.cons rfl .nil) ?_)
    have hM31 : (l_szTable p_a p_left) = ((l_szIdxS p_a.Idxs (l_szStringS p_a.Cols (IntKind.wrap .i64 (p_left - (p_a.Name.length : Int)))))) := by simp only [l_szTable, hb9, hb16, hb26, cL]
    rw [hM31]
    exact ⟨rfl, (Ex.trans (Ex.trans (Ex.trans (Ex.refl w) hE8) hE15) hE25)⟩
theorem c_l_szTableS {A1 : Option Addr} {c1 : Nat} {w : World} (p_a : List DTable) (p_left : Int) (h1 : RdS w (Iv 0 w.heap.size) R_Table 3 A1 p_a.length c1 p_a) : Cal Tryz.prog 73 #[.slice A1 p_a.length c1, .int .i64 (p_left)] w fun v w' => v = .int .i64 ((l_szTableS p_a p_left)) ∧ Ex w w' := by
 refine Cal.of func73 rfl ntmps73 rfl (CW.seq (CW.region (sd rfl (yl_assign rfl rfl (dn (CW.seq (CW.region (sd rfl (yl_move rfl rfl ?_)))))))))
 refine sd rfl (yl_move rfl rfl (sd rfl (yl_len un45 rfl rfl (sd rfl (yl_sub rfl rfl rfl (sd rfl (yl_assign rfl rfl (dn (CW.seq (CW.seq (CW.region ?_)))))))))))
 refine sd rfl (yl_move rfl rfl (sd rfl (yl_lss rfl rfl rfl (dn (bcase (decide ((IntKind.wrap .i64 (p_left - (p_a.length : Int))) < 0)) (fun hb2 => ?_) (fun hb2 => ?_))))))
 ·have hb2p := dec_t hb2
  refine CW.cond_t rfl hb2 (CW.seq (CW.region (sd rfl (yl_assign rfl rfl (dn (CW.ret (tr (rr rfl (.cons rfl .nil) ?_))))))))
  have hM3 : (l_szTableS p_a p_left) = (-1) := by simp only [l_szTableS, hb2, cL]
  rw [hM3]
  exact ⟨rfl, (Ex.refl w)⟩
 ·have hb2p := dec_f hb2
  refine CW.cond_f rfl hb2 (CW.skip (tn (CW.seq (CW.seq (CW.region (sd rfl (yl_assign rfl rfl (dn ?_))))))))
  refine CW.block (CW.loop (fun m6 L7 w8 => ∃ (k4 : Nat) (x5 : Int), m6 = p_a.length - k4 ∧ k4 ≤ p_a.length ∧ w.heap.size ≤ w8.heap.size ∧ lkp L7 0 = some (.slice A1 p_a.length c1) ∧ lkp L7 1 = some (.int .i64 (x5)) ∧ lkp L7 5 = some (.int .i64 ((k4 : Int))) ∧ RdS w8 (Iv 0 w.heap.size) R_Table 3 A1 p_a.length c1 p_a ∧ Ex w w8 ∧ loopM (B_l_szTableS_0 p_a p_left) (p_a.length - k4) k4 (x5) = loopM (B_l_szTableS_0 p_a p_left) (p_a.length - 0) 0 (IntKind.wrap .i64 (p_left - (p_a.length : Int)))) (p_a.length - 0) ?_ ?_)
  ·exact ⟨0, IntKind.wrap .i64 (p_left - (p_a.length : Int)), rfl, (by omega), Nat.le_refl _, rfl, rfl, rfl, h1, (Ex.refl w), rfl⟩
  ·rintro m9 L10 w11 ⟨k4, x5, rfl, hk12, hsz14, hl15, hl16, hl17, hf18, hf19, hI13⟩
   refine CW.sub (Sub.cons hl15 (Sub.cons hl16 (Sub.cons hl17 (Sub.nil _)))) ?_
   have hf19z := Ex.size hf19
   have hbg20 := RdS.big hf18
   rcases Nat.lt_or_ge k4 p_a.length with hlt21 | hlt21
   ·refine CW.seq (CW.seq (CW.region (sd rfl (yl_move rfl rfl (sd rfl (yl_move rfl rfl (sd rfl (yl_len un45 rfl rfl (sd rfl (yl_lss rfl rfl rfl (dn ?_)))))))))))
    refine CW.cond_t rfl (lt_t hlt21) (CW.skip (tn (CW.seq (CW.block (CW.seq (CW.region (sd rfl (yl_move rfl rfl (sd rfl (yl_move rfl rfl ?_))))))))))
    obtain ⟨_, _, _, eA22, _, ebl22, _, eR22, eC22⟩ := RdS.aD hf18 d_Table (i := k4)
    obtain ⟨A23, c23, A24, c24, rfl, h23, h24⟩ := eR22
    refine sd rfl (yl_ixN un45 ty25 rfl rfl rfl eA22 (sd rfl (yl_loadN ty25 rfl rfl eC22 rfl (sd rfl (yl_move rfl rfl (sd rfl (yl_call en5 rfl (oc rfl (oc rfl oz)) (Cal.mono (c_l_szTable (p_a.getD k4 d_Table) x5 (RdS.up h23 good_Str) (RdS.up h24 good_Idx)) ?_))))))))
    rintro v26 w25 ⟨rfl, hE27⟩
    have hE27z := Ex.size hE27
    refine sd rfl (yl_assign rfl rfl (dn (CW.seq (CW.region (sd rfl (yl_move rfl rfl (sd rfl (yl_lss rfl rfl rfl (dn ?_)))))))))
    refine bcase (decide ((l_szTable (p_a.getD k4 d_Table) x5) < 0)) (fun hb28 => ?_) (fun hb28 => ?_)
    ·have hb28p := dec_t hb28
     refine CW.cond_t rfl hb28 (CW.seq (CW.region (sd rfl (yl_assign rfl rfl (dn (CW.ret (br (tr ?_))))))))
     refine tr ?_
     have hB30 : B_l_szTableS_0 p_a p_left k4 (x5) = .ret (-1) := by simp only [B_l_szTableS_0, hb2, hb28, cL]
     have hL29 : loopM (B_l_szTableS_0 p_a p_left) (p_a.length - 0) 0 (IntKind.wrap .i64 (p_left - (p_a.length : Int))) = .ret (-1) := hI13.symm.trans (loopM.ret hlt21 hB30)
     refine br (tr (rr rfl (.cons rfl .nil) ?_))
     have hM31 : (l_szTableS p_a p_left) = (-1) := by simp only [l_szTableS, hb2, hb28, hL29, cL]
     rw [hM31]
     exact ⟨rfl, (Ex.trans hf19 hE27)⟩
    ·have hb28p := dec_f hb28
     refine CW.cond_f rfl hb28 (CW.skip (bn (tn (CW.region (sd rfl (yl_move rfl rfl (sd rfl (yl_inc rfl rfl rfl (by omega) (sd rfl (yl_assign rfl rfl (SeqR.done ?_)))))))))))
     refine tn ?_
     have hB33 : B_l_szTableS_0 p_a p_left k4 (x5) = .cont ((l_szTable (p_a.getD k4 d_Table) x5)) := by simp only [B_l_szTableS_0, hb2, hb28, cL]
     exact ⟨p_a.length - (k4 + 1), by omega, k4 + 1, (l_szTable (p_a.getD k4 d_Table) x5), rfl, hlt21, (by omega), rfl, rfl, rfl, (RdS.ex good_Table hf18 hE27), (Ex.trans hf19 hE27), (loopM.cont hlt21 hB33).symm.trans hI13⟩
   ·refine CW.seq (CW.seq (CW.region (sd rfl (yl_move rfl rfl (sd rfl (yl_move rfl rfl (sd rfl (yl_len un45 rfl rfl (sd rfl (yl_lss rfl rfl rfl (dn ?_)))))))))))
    refine CW.cond_f rfl (lt_f hlt21) (CW.exit (tx (tx ?_)))
    have hL36 : loopM (B_l_szTableS_0 p_a p_left) (p_a.length - 0) 0 (IntKind.wrap .i64 (p_left - (p_a.length : Int))) = .done (x5) := hI13.symm.trans (loopM.stop hlt21)
    refine bx (tn (CW.seq (CW.region (sd rfl (yl_move rfl rfl (sd rfl (yl_assign rfl rfl (dn (CW.ret ?_)))))))))
    refine rr rfl (.cons rfl .nil) ?_
    have hM37 : (l_szTableS p_a p_left) = (x5) := by simp only [l_szTableS, hb2, hL36, cL]
    rw [hM37]
    exact ⟨rfl, hf19⟩
theorem c_l_szIntS {A1 : Option Addr} {c1 : Nat} {w : World} (p_a : List Int) (p_left : Int) (h1 : RdS w (Iv 0 w.heap.size) (RF e_Int) 1 A1 p_a.length c1 p_a) : Cal Tryz.prog 74 #[.slice A1 p_a.length c1, .int .i64 (p_left)] w fun v w' => v = .int .i64 ((l_szIntS p_a p_left)) ∧ Ex w w' := by
 refine Cal.of func74 rfl ntmps74 rfl (CW.seq (CW.region (sd rfl (yl_assign rfl rfl (dn (CW.seq (CW.region (sd rfl (yl_move rfl rfl ?_)))))))))
 refine sd rfl (yl_move rfl rfl (sd rfl (yl_len un46 rfl rfl (sd rfl (yl_sub rfl rfl rfl (sd rfl (yl_assign rfl rfl (dn (CW.seq (CW.seq (CW.region ?_)))))))))))
 refine sd rfl (yl_move rfl rfl (sd rfl (yl_lss rfl rfl rfl (dn (bcase (decide ((IntKind.wrap .i64 (p_left - (p_a.length : Int))) < 0)) (fun hb2 => ?_) (fun hb2 => ?_))))))
 ·have hb2p := dec_t hb2
  refine CW.cond_t rfl hb2 (CW.seq (CW.region (sd rfl (yl_assign rfl rfl (dn (CW.ret (tr (rr rfl (.cons rfl .nil) ?_))))))))
  have hM3 : (l_szIntS p_a p_left) = (-1) := by simp only [l_szIntS, hb2, cL]
  rw [hM3]
  exact ⟨rfl, (Ex.refl w)⟩
 ·have hb2p := dec_f hb2
  refine CW.cond_f rfl hb2 (CW.skip (tn (CW.seq (CW.region (sd rfl (yl_move rfl rfl (sd rfl (yl_assign rfl rfl (dn ?_)))))))))
  refine CW.ret (rr rfl (.cons rfl .nil) ?_)
  have hM4 : (l_szIntS p_a p_left) = (IntKind.wrap .i64 (p_left - (p_a.length : Int))) := by simp only [l_szIntS, hb2, cL]
  rw [hM4]
  exact ⟨rfl, (Ex.refl w)⟩
theorem c_l_szShift {A1 : Option Addr} {c1 : Nat} {A2 : Option Addr} {c2 : Nat} {A3 : Option Addr} {c3 : Nat} {w : World} (p_a : DShift) (p_left : Int) (h1 : RdS w (Iv 0 w.heap.size) R_Table 3 A1 p_a.Ways.length c1 p_a.Ways) (h2 : RdS w (Iv 0 w.heap.size) (RF e_Int) 1 A2 p_a.At.length c2 p_a.At) (h3 : RdS w (Iv 0 w.heap.size) (RF e_Write) 3 A3 p_a.Store.length c3 p_a.Store) : Cal Tryz.prog 43 #[.agg #[.string (bs (p_a.Name)), .slice A1 p_a.Ways.length c1, .slice A2 p_a.At.length c2, .slice A3 p_a.Store.length c3], .int .i64 (p_left)] w fun v w' => v = .int .i64 ((l_szShift p_a p_left)) ∧ Ex w w' := by
 refine Cal.of func43 rfl ntmps43 rfl (CW.seq (CW.region (sd rfl (yl_box rfl rfl rfl ?_))))
 intro b4 w5 hs6 hz7 hB8 hE9
 refine sd rfl (yl_assign rfl rfl (dn (CW.seq (CW.region (sd rfl (yl_move rfl rfl (sd rfl (yl_fieldAddr fd48_0 rfl rfl (sd rfl (yl_load1 ty9 rfl rfl ((hB8.cell 0).trans rfl) (sd rfl (yl_slen un9 (a := p_a.Name) rfl rfl ?_))))))))))))
 refine sd rfl (yl_sub rfl rfl rfl (sd rfl (yl_assign rfl rfl (dn (CW.seq (CW.seq (CW.region (sd rfl (yl_move rfl rfl (sd rfl (yl_lss rfl rfl rfl ?_)))))))))))
 refine dn (bcase (decide ((IntKind.wrap .i64 (p_left - (p_a.Name.length : Int))) < 0)) (fun hb10 => ?_) (fun hb10 => ?_))
 ·have hb10p := dec_t hb10
  refine CW.cond_t rfl hb10 (CW.seq (CW.region (sd rfl (yl_assign rfl rfl (dn (CW.ret (tr (rr rfl (.cons rfl .nil) ?_))))))))
  have hM11 : (l_szShift p_a p_left) = (-1) := by simp only [l_szShift, hb10, cL]
  rw [hM11]
  exact ⟨rfl, (Ex.trans (Ex.refl w) hE9)⟩
 ·have hb10p := dec_f hb10
  refine CW.cond_f rfl hb10 (CW.skip (tn (CW.seq (CW.region (sd rfl (yl_fieldAddr fd48_1 rfl rfl (sd rfl (yl_load1 ty45 rfl rfl ((hB8.cell 1).trans rfl) (sd rfl (yl_move rfl rfl (sd rfl (yl_call en73 rfl (oc rfl (oc rfl oz)) (Cal.mono (c_l_szTableS p_a.Ways (IntKind.wrap .i64 (p_left - (p_a.Name.length : Int))) (RdS.up (RdS.ex good_Table h1 hE9) good_Table)) ?_)))))))))))))
  rintro v15 w14 ⟨rfl, hE16⟩
  refine sd rfl (yl_assign rfl rfl (dn (CW.seq (CW.seq (CW.region (sd rfl (yl_move rfl rfl (sd rfl (yl_lss rfl rfl rfl (SeqR.done ?_))))))))))
  refine tn (bcase (decide ((l_szTableS p_a.Ways (IntKind.wrap .i64 (p_left - (p_a.Name.length : Int)))) < 0)) (fun hb17 => ?_) (fun hb17 => ?_))
  ·have hb17p := dec_t hb17
   refine CW.cond_t rfl hb17 (CW.seq (CW.region (sd rfl (yl_assign rfl rfl (dn (CW.ret (tr (rr rfl (.cons rfl .nil) ?_))))))))
   have hM18 : (l_szShift p_a p_left) = (-1) := by simp only [l_szShift, hb10, hb17, cL]
   rw [hM18]
   exact ⟨rfl, (Ex.trans (Ex.trans (Ex.refl w) hE9) hE16)⟩
  ·have hb17p := dec_f hb17
   refine CW.cond_f rfl hb17 (CW.skip (tn (CW.seq (CW.region (sd rfl (yl_fieldAddr fd48_2 rfl rfl ?_))))))
   have q21 := Box.ex hB8 hE16
   refine sd rfl (yl_load1 ty46 rfl rfl ((q21.cell 2).trans rfl) (sd rfl (yl_move rfl rfl (sd rfl (yl_call en74 rfl (oc rfl (oc rfl oz)) (Cal.mono (c_l_szIntS p_a.At (l_szTableS p_a.Ways (IntKind.wrap .i64 (p_left - (p_a.Name.length : Int)))) (RdS.up (RdS.ex good_Int (RdS.ex good_Int h2 hE9) hE16) good_Int)) ?_))))))
   rintro v25 w24 ⟨rfl, hE26⟩
   refine sd rfl (yl_assign rfl rfl (dn (CW.seq (CW.seq (CW.region (sd rfl (yl_move rfl rfl (sd rfl (yl_lss rfl rfl rfl (SeqR.done ?_))))))))))
   refine tn (bcase (decide ((l_szIntS p_a.At (l_szTableS p_a.Ways (IntKind.wrap .i64 (p_left - (p_a.Name.length : Int))))) < 0)) (fun hb27 => ?_) (fun hb27 => ?_))
   ·have hb27p := dec_t hb27
    refine CW.cond_t rfl hb27 (CW.seq (CW.region (sd rfl (yl_assign rfl rfl (dn (CW.ret (tr (rr rfl (.cons rfl .nil) ?_))))))))
    have hM28 : (l_szShift p_a p_left) = (-1) := by simp only [l_szShift, hb10, hb17, hb27, cL]
    rw [hM28]
    exact ⟨rfl, (Ex.trans (Ex.trans (Ex.trans (Ex.refl w) hE9) hE16) hE26)⟩
   ·have hb27p := dec_f hb27
    refine CW.cond_f rfl hb27 (CW.skip (tn (CW.seq (CW.region (sd rfl (yl_fieldAddr fd48_3 rfl rfl (sd rfl (yl_load1 ty26 rfl rfl (((Box.ex q21 hE26).cell 3).trans rfl) (sd rfl (yl_move rfl rfl (sd rfl (yl_call en6 rfl (oc rfl (oc rfl oz)) (Cal.mono (c_l_szWriteS p_a.Store (l_szIntS p_a.At (l_szTableS p_a.Ways (IntKind.wrap .i64 (p_left - (p_a.Name.length : Int))))) (RdS.up (RdS.ex good_Write (RdS.ex good_Write (RdS.ex good_Write h3 hE9) hE16) hE26) good_Write)) ?_)))))))))))))
    rintro v37 w36 ⟨rfl, hE38⟩
    refine sd rfl (yl_assign rfl rfl (dn (CW.seq (CW.seq (CW.region (sd rfl (yl_move rfl rfl (sd rfl (yl_lss rfl rfl rfl (SeqR.done ?_))))))))))
    refine tn (bcase (decide ((l_szWriteS p_a.Store (l_szIntS p_a.At (l_szTableS p_a.Ways (IntKind.wrap .i64 (p_left - (p_a.Name.length : Int)))))) < 0)) (fun hb39 => ?_) (fun hb39 => ?_))
    ·have hb39p := dec_t hb39
     refine CW.cond_t rfl hb39 (CW.seq (CW.region (sd rfl (yl_assign rfl rfl (dn (CW.ret (tr (rr rfl (.cons rfl .nil) ?_))))))))
     have hM40 : (l_szShift p_a p_left) = (-1) := by simp only [l_szShift, hb10, hb17, hb27, hb39, cL]
     rw [hM40]
     exact ⟨rfl, (Ex.trans (Ex.trans (Ex.trans (Ex.trans (Ex.refl w) hE9) hE16) hE26) hE38)⟩
    ·have hb39p := dec_f hb39
     refine CW.cond_f rfl hb39 (CW.skip (tn (CW.seq (CW.region (sd rfl (yl_move rfl rfl (sd rfl (yl_assign rfl rfl (dn ?_)))))))))
     refine CW.ret (rr rfl (.cons rfl .nil) ?_)
     have hM45 : (l_szShift p_a p_left) = ((l_szWriteS p_a.Store (l_szIntS p_a.At (l_szTableS p_a.Ways (IntKind.wrap .i64 (p_left - (p_a.Name.length : Int))))))) := by simp only [l_szShift, hb10, hb17, hb27, hb39, cL]
     rw [hM45]
     exact ⟨rfl, (Ex.trans (Ex.trans (Ex.trans (Ex.trans (Ex.refl w) hE9) hE16) hE26) hE38)⟩
theorem c_l_szFill {w : World} (p_a : DFill) (p_left : Int) : Cal Tryz.prog 44 #[.agg #[.string (bs (p_a.Last)), .bool (p_a.Over)], .int .i64 (p_left)] w fun v w' => v = .int .i64 ((l_szFill p_a p_left)) ∧ Ex w w' := by
 refine Cal.of func44 rfl ntmps44 rfl (CW.seq (CW.region (sd rfl (yl_box rfl rfl rfl ?_))))
 intro b1 w2 hs3 hz4 hB5 hE6
 refine sd rfl (yl_assign rfl rfl (dn (CW.seq (CW.region (sd rfl (yl_move rfl rfl (sd rfl (yl_fieldAddr fd50_0 rfl rfl (sd rfl (yl_load1 ty9 rfl rfl ((hB5.cell 0).trans rfl) (sd rfl (yl_slen un9 (a := p_a.Last) rfl rfl ?_))))))))))))
 refine sd rfl (yl_sub rfl rfl rfl (sd rfl (yl_assign rfl rfl (dn (CW.seq (CW.seq (CW.region (sd rfl (yl_move rfl rfl (sd rfl (yl_lss rfl rfl rfl ?_)))))))))))
 refine dn (bcase (decide ((IntKind.wrap .i64 (p_left - (p_a.Last.length : Int))) < 0)) (fun hb7 => ?_) (fun hb7 => ?_))
 ·have hb7p := dec_t hb7
  refine CW.cond_t rfl hb7 (CW.seq (CW.region (sd rfl (yl_assign rfl rfl (dn (CW.ret (tr (rr rfl (.cons rfl .nil) ?_))))))))
  have hM8 : (l_szFill p_a p_left) = (-1) := by simp only [l_szFill, hb7, cL]
  rw [hM8]
  exact ⟨rfl, (Ex.trans (Ex.refl w) hE6)⟩
 ·have hb7p := dec_f hb7
  refine CW.cond_f rfl hb7 (CW.skip (tn (CW.seq (CW.region (sd rfl (yl_move rfl rfl (sd rfl (yl_assign rfl rfl (dn ?_)))))))))
  refine CW.ret (rr rfl (.cons rfl .nil) ?_)
  have hM10 : (l_szFill p_a p_left) = (IntKind.wrap .i64 (p_left - (p_a.Last.length : Int))) := by simp only [l_szFill, hb7, cL]
  rw [hM10]
  exact ⟨rfl, (Ex.trans (Ex.refl w) hE6)⟩
theorem c_l_szWork {A1 : Option Addr} {c1 : Nat} {A2 : Option Addr} {c2 : Nat} {A3 : Option Addr} {c3 : Nat} {w : World} (p_a : DWork) (p_left : Int) (h1 : RdS w (Iv 0 w.heap.size) R_Table 3 A1 p_a.Shift.Ways.length c1 p_a.Shift.Ways) (h2 : RdS w (Iv 0 w.heap.size) (RF e_Int) 1 A2 p_a.Shift.At.length c2 p_a.Shift.At) (h3 : RdS w (Iv 0 w.heap.size) (RF e_Write) 3 A3 p_a.Shift.Store.length c3 p_a.Shift.Store) : Cal Tryz.prog 18 #[.agg #[.string (bs (p_a.Shift.Name)), .slice A1 p_a.Shift.Ways.length c1, .slice A2 p_a.Shift.At.length c2, .slice A3 p_a.Shift.Store.length c3, .string (bs (p_a.Up.Last)), .bool (p_a.Up.Over), .string (bs (p_a.Down.Last)), .bool (p_a.Down.Over)], .int .i64 (p_left)] w fun v w' => v = .int .i64 ((l_szWork p_a p_left)) ∧ Ex w w' := by
 refine Cal.of func18 rfl ntmps18 rfl (CW.seq (CW.region (sd rfl (yl_box rfl rfl rfl ?_))))
 intro b4 w5 hs6 hz7 hB8 hE9
 refine sd rfl (yl_assign rfl rfl (dn (CW.seq (CW.region (sd rfl (yl_fieldAddr fd52_0 rfl rfl (sd rfl (yl_loadN ty48 rfl rfl (hB8.cells (n := 4) rfl) rfl (sd rfl (yl_move rfl rfl (sd rfl (yl_call en43 rfl (oc rfl (oc rfl oz)) (Cal.mono (c_l_szShift p_a.Shift p_left (RdS.up (RdS.ex good_Table h1 hE9) good_Table) (RdS.up (RdS.ex good_Int h2 hE9) good_Int) (RdS.up (RdS.ex good_Write h3 hE9) good_Write)) ?_)))))))))))))
 rintro v14 w13 ⟨rfl, hE15⟩
 refine sd rfl (yl_assign rfl rfl (dn (CW.seq (CW.seq (CW.region (sd rfl (yl_move rfl rfl (sd rfl (yl_lss rfl rfl rfl (SeqR.done ?_))))))))))
 refine tn (bcase (decide ((l_szShift p_a.Shift p_left) < 0)) (fun hb16 => ?_) (fun hb16 => ?_))
 ·have hb16p := dec_t hb16
  refine CW.cond_t rfl hb16 (CW.seq (CW.region (sd rfl (yl_assign rfl rfl (dn (CW.ret (tr (rr rfl (.cons rfl .nil) ?_))))))))
  have hM17 : (l_szWork p_a p_left) = (-1) := by simp only [l_szWork, hb16, cL]
  rw [hM17]
  exact ⟨rfl, (Ex.trans (Ex.trans (Ex.refl w) hE9) hE15)⟩
 ·have hb16p := dec_f hb16
  refine CW.cond_f rfl hb16 (CW.skip (tn (CW.seq (CW.region (sd rfl (yl_fieldAddr fd52_1 rfl rfl ?_))))))
  have q20 := Box.ex hB8 hE15
  refine sd rfl (yl_loadN ty50 rfl rfl (q20.cells (n := 2) rfl) rfl (sd rfl (yl_move rfl rfl (sd rfl (yl_call en44 rfl (oc rfl (oc rfl oz)) (Cal.mono (c_l_szFill p_a.Up (l_szShift p_a.Shift p_left)) ?_))))))
  rintro v22 w21 ⟨rfl, hE23⟩
  refine sd rfl (yl_assign rfl rfl (dn (CW.seq (CW.seq (CW.region (sd rfl (yl_move rfl rfl (sd rfl (yl_lss rfl rfl rfl (SeqR.done ?_))))))))))
  refine tn (bcase (decide ((l_szFill p_a.Up (l_szShift p_a.Shift p_left)) < 0)) (fun hb24 => ?_) (fun hb24 => ?_))
  ·have hb24p := dec_t hb24
   refine CW.cond_t rfl hb24 (CW.seq (CW.region (sd rfl (yl_assign rfl rfl (dn (CW.ret (tr (rr rfl (.cons rfl .nil) ?_))))))))
   have hM25 : (l_szWork p_a p_left) = (-1) := by simp only [l_szWork, hb16, hb24, cL]
   rw [hM25]
   exact ⟨rfl, (Ex.trans (Ex.trans (Ex.trans (Ex.refl w) hE9) hE15) hE23)⟩
  ·have hb24p := dec_f hb24
   refine CW.cond_f rfl hb24 (CW.skip (tn (CW.seq (CW.region (sd rfl (yl_fieldAddr fd52_2 rfl rfl (sd rfl (yl_loadN ty50 rfl rfl ((Box.ex q20 hE23).cells (n := 2) rfl) rfl (sd rfl (yl_move rfl rfl (sd rfl (yl_call en44 rfl (oc rfl (oc rfl oz)) (Cal.mono (c_l_szFill p_a.Down (l_szFill p_a.Up (l_szShift p_a.Shift p_left))) ?_)))))))))))))
   rintro v31 w30 ⟨rfl, hE32⟩
   refine sd rfl (yl_assign rfl rfl (dn (CW.seq (CW.seq (CW.region (sd rfl (yl_move rfl rfl (sd rfl (yl_lss rfl rfl rfl (SeqR.done ?_))))))))))
   refine tn (bcase (decide ((l_szFill p_a.Down (l_szFill p_a.Up (l_szShift p_a.Shift p_left))) < 0)) (fun hb33 => ?_) (fun hb33 => ?_))
   ·have hb33p := dec_t hb33
    refine CW.cond_t rfl hb33 (CW.seq (CW.region (sd rfl (yl_assign rfl rfl (dn (CW.ret (tr (rr rfl (.cons rfl .nil) ?_))))))))
    have hM34 : (l_szWork p_a p_left) = (-1) := by simp only [l_szWork, hb16, hb24, hb33, cL]
    rw [hM34]
    exact ⟨rfl, (Ex.trans (Ex.trans (Ex.trans (Ex.trans (Ex.refl w) hE9) hE15) hE23) hE32)⟩
   ·have hb33p := dec_f hb33
    refine CW.cond_f rfl hb33 (CW.skip (tn (CW.seq (CW.region (sd rfl (yl_move rfl rfl (sd rfl (yl_assign rfl rfl (dn ?_)))))))))
    refine CW.ret (rr rfl (.cons rfl .nil) ?_)
    have hM39 : (l_szWork p_a p_left) = ((l_szFill p_a.Down (l_szFill p_a.Up (l_szShift p_a.Shift p_left)))) := by simp only [l_szWork, hb16, hb24, hb33, cL]
    rw [hM39]
    exact ⟨rfl, (Ex.trans (Ex.trans (Ex.trans (Ex.trans (Ex.refl w) hE9) hE15) hE23) hE32)⟩
theorem c_s_l1In {w : World} (p_n : Int) (p_lo : Int) (p_hi : Int) : Cal Tryz.prog 61 #[.int .i64 (p_n), .int .i64 (p_lo), .int .i64 (p_hi)] w fun v w' => v = .bool ((s_l1In p_n p_lo p_hi)) ∧ Ex w w' := by
 refine Cal.of func61 rfl ntmps61 rfl (CW.seq (CW.region (sd rfl (yl_assign rfl rfl (dn (CW.seq (CW.region (sd rfl (yl_move rfl rfl ?_)))))))))
 refine sd rfl (yl_move rfl rfl (sd rfl (yl_geq rfl rfl rfl (sd rfl (yl_move rfl rfl (bcase (decide (p_lo ≤ p_n)) (fun hb1 => ?_) (fun hb1 => ?_)))))))
 ·have hb1p := dec_t hb1
  refine sy rfl rfl hb1 (yl_move rfl rfl (sy rfl rfl hb1 (yl_move rfl rfl (sy rfl rfl hb1 (yl_leq rfl rfl rfl (sd rfl (yl_pick_t rfl rfl hb1 rfl (sd rfl (yl_assign rfl rfl (dn (CW.ret (rr rfl (.cons rfl .nil) ?_))))))))))))
  have hM2 : (s_l1In p_n p_lo p_hi) = (decide (p_n ≤ p_hi)) := by simp only [s_l1In, hb1, cL]
  rw [hM2]
  exact ⟨rfl, (Ex.refl w)⟩
 ·have hb1p := dec_f hb1
  refine sz rfl rfl hb1 (sz rfl rfl hb1 (sz rfl rfl hb1 (sd rfl (yl_pick_f rfl rfl hb1 rfl (sd rfl (yl_assign rfl rfl (dn (CW.ret (rr rfl (.cons rfl .nil) ?_)))))))))
  have hM3 : (s_l1In p_n p_lo p_hi) = (false) := by simp only [s_l1In, hb1, cL]
  rw [hM3]
  exact ⟨rfl, (Ex.refl w)⟩
theorem c_s_l3Bytes {w : World} (p_s : Str) (p_more : Str) (o1 : okS p_s) (o2 : okS p_more) : Cal Tryz.prog 136 #[.string (bs (p_s)), .string (bs (p_more))] w fun v w' => v = .bool ((s_l3Bytes p_s p_more)) ∧ Ex w w' := by
 have hol3 : p_s.length ≤ 1073741824 := o1
 have hol4 : p_more.length ≤ 1073741824 := o2
 refine Cal.of func136 rfl ntmps136 rfl (CW.seq (CW.region (sd rfl (yl_assign rfl rfl (dn (CW.seq (CW.seq (CW.region ?_))))))))
 refine sd rfl (yl_assign rfl rfl (dn (CW.block (CW.loop (fun m6 L7 w8 => ∃ (k5 : Nat), m6 = p_s.length - k5 ∧ k5 ≤ p_s.length ∧ w.heap.size ≤ w8.heap.size ∧ lkp L7 0 = some (.string (bs (p_s))) ∧ lkp L7 1 = some (.string (bs (p_more))) ∧ lkp L7 5 = some (.int .i64 ((k5 : Int))) ∧ Ex w w8 ∧ loopM (B_s_l3Bytes_0 p_s p_more) (p_s.length - k5) k5 () = loopM (B_s_l3Bytes_0 p_s p_more) (p_s.length - 0) 0 ()) (p_s.length - 0) ?_ ?_))))
 ·exact ⟨0, rfl, (by omega), Nat.le_refl _, rfl, rfl, rfl, (Ex.refl w), rfl⟩
 ·rintro m9 L10 w11 ⟨k5, rfl, hk12, hsz14, hl15, hl16, hl17, hf18, hI13⟩
  refine CW.sub (Sub.cons hl15 (Sub.cons hl16 (Sub.cons hl17 (Sub.nil _)))) ?_
  have hf18z := Ex.size hf18
  have hbg19 : p_s.length ≤ 1073741824 := o1
  rcases Nat.lt_or_ge k5 p_s.length with hlt20 | hlt20
  ·refine CW.seq (CW.seq (CW.region (sd rfl (yl_move rfl rfl (sd rfl (yl_move rfl rfl (sd rfl (yl_slen un9 (a := p_s) rfl rfl (sd rfl (yl_lss rfl rfl rfl (dn ?_)))))))))))
   refine CW.cond_t rfl (lt_t hlt20) (CW.skip (tn (CW.seq (CW.block (CW.seq (CW.region (sd rfl (yl_move rfl rfl (sd rfl (yl_move rfl rfl ?_))))))))))
   refine sd rfl (yl_sindexN un9 (a := p_s) rfl rfl rfl (by first | omega | assumption | (simp only [wI] at *; omega)) (sd rfl (yl_geq rfl rfl rfl (sd rfl (yl_move rfl rfl (bcase (decide (97 ≤ ((p_s.getD k5 0).toNat : Int))) (fun hb21 => ?_) (fun hb21 => ?_)))))))
   ·have hb21p := dec_t hb21
    refine sy rfl rfl hb21 (yl_move rfl rfl (sy rfl rfl hb21 (yl_move rfl rfl (sy rfl rfl hb21 (yl_sindexN un9 (a := p_s) rfl rfl rfl (by first | omega | assumption | (simp only [wI] at *; omega)) (sy rfl rfl hb21 (yl_leq rfl rfl rfl (sd rfl (yl_pick_t rfl rfl hb21 rfl (sd rfl (yl_move rfl rfl (bcase (decide (((p_s.getD k5 0).toNat : Int) ≤ 122)) (fun hb22 => ?_) (fun hb22 => ?_)))))))))))))
    ·have hb22p := dec_t hb22
     refine sz rfl rfl hb22 (sz rfl rfl hb22 (sz rfl rfl hb22 (sz rfl rfl hb22 (sz rfl rfl hb22 (sq rfl rfl (sq rfl rfl (sq rfl rfl (sq rfl rfl ?_))))))))
     refine sz rfl rfl hb22 (sd rfl (yl_pick_t rfl rfl hb22 rfl (sd rfl (yl_assign rfl rfl (dn (CW.seq (CW.seq (CW.region (sd rfl (yl_assign rfl rfl ?_))))))))))
     refine dn (CW.block (CW.loop (fun m25 L26 w27 => ∃ (k23 : Nat) (x24 : Bool), m25 = p_more.length - k23 ∧ k23 ≤ p_more.length ∧ w11.heap.size ≤ w27.heap.size ∧ lkp L26 0 = some (.string (bs (p_s))) ∧ lkp L26 1 = some (.string (bs (p_more))) ∧ lkp L26 5 = some (.int .i64 ((k5 : Int))) ∧ lkp L26 6 = some (.bool (x24)) ∧ lkp L26 7 = some (.int .i64 ((k23 : Int))) ∧ lkp L26 19 = some (.string (bs (p_s))) ∧ lkp L26 20 = some (.int .i64 ((k5 : Int))) ∧ lkp L26 21 = some (.int .u8 (((p_s.getD k5 0).toNat : Int))) ∧ lkp L26 22 = some (.bool (decide (((p_s.getD k5 0).toNat : Int) ≤ 122))) ∧ lkp L26 25 = some (undef) ∧ lkp L26 26 = some (undef) ∧ lkp L26 27 = some (undef) ∧ lkp L26 28 = some (undef) ∧ lkp L26 29 = some (undef) ∧ lkp L26 30 = some (undef) ∧ lkp L26 31 = some (undef) ∧ lkp L26 32 = some (undef) ∧ lkp L26 33 = some (undef) ∧ lkp L26 34 = some (undef) ∧ Ex w w27 ∧ loopM (B_s_l3Bytes_1 p_s p_more k5) (p_more.length - k23) k23 (x24) = loopM (B_s_l3Bytes_1 p_s p_more k5) (p_more.length - 0) 0 (true)) (p_more.length - 0) ?_ ?_))
     ·exact ⟨0, true, rfl, (by omega), Nat.le_refl _, rfl, rfl, rfl, rfl, rfl, rfl, rfl, rfl, rfl, rfl, rfl, rfl, rfl, rfl, rfl, rfl, rfl, rfl, rfl, hf18, rfl⟩
     ·rintro m28 L29 w30 ⟨k23, x24, rfl, hk31, hsz33, hl34, hl35, hl36, hl37, hl38, hl39, hl40, hl41, hl42, hl43, hl44, hl45, hl46, hl47, hl48, hl49, hl50, hl51, hl52, hf53, hI32⟩
      refine CW.sub (Sub.cons hl34 (Sub.cons hl35 (Sub.cons hl36 (Sub.cons hl37 (Sub.cons hl38 (Sub.cons hl39 (Sub.cons hl40 (Sub.cons hl41 (Sub.cons hl42 (Sub.cons hl43 (Sub.cons hl44 (Sub.cons hl45 (Sub.cons hl46 (Sub.cons hl47 (Sub.cons hl48 (Sub.cons hl49 (Sub.cons hl50 (Sub.cons hl51 (Sub.cons hl52 (Sub.nil _)))))))))))))))))))) ?_
      have hf53z := Ex.size hf53
      have hbg54 : p_more.length ≤ 1073741824 := o2
      rcases Nat.lt_or_ge k23 p_more.length with hlt55 | hlt55
      ·refine CW.seq (CW.seq (CW.region (sd rfl (yl_move rfl rfl (sd rfl (yl_move rfl rfl (sd rfl (yl_slen un9 (a := p_more) rfl rfl (sd rfl (yl_lss rfl rfl rfl (dn ?_)))))))))))
       refine CW.cond_t rfl (lt_t hlt55) (CW.skip (tn (CW.seq (CW.block (bcase (x24) (fun hb56 => ?_) (fun hb56 => ?_))))))
       ·refine CW.drawsI 11 (vgetI ([.bool (x24), .bool (x24), undef, undef, undef, undef, undef, undef, undef, .bool (true), .bool (true)].map DetI)) Tryz.follows rfl rfl rfl rfl rfl rfl (vgetI_stable (stD _)) ⟨?_, ?_, ?_, ?_, ?_, ?_, ?_, ?_, ?_, ?_, ?_, trivial⟩ ?_
        ·exact oI rfl fun h => yl_move rfl (h.old 6 _ rfl rfl) kI
        ·exact oI rfl fun h => yl_move rfl (h.dt 0 42 rfl rfl rfl) kI
        ·exact oS rfl rfl rfl rfl rfl hb56
        ·exact oS rfl rfl rfl rfl rfl hb56
        ·exact oS rfl rfl rfl rfl rfl hb56
        ·exact oS rfl rfl rfl rfl rfl hb56
        ·exact oS rfl rfl rfl rfl rfl hb56
        ·exact oS rfl rfl rfl rfl rfl hb56
        ·exact oS rfl rfl rfl rfl rfl hb56
        ·exact oI rfl fun h => yl_pick_t rfl (h.dt 1 43 rfl rfl rfl) hb56 rfl kI
        ·exact oI rfl fun h => yl_assign rfl (h.dt 9 51 rfl rfl rfl) kI
        ·intro fl116 fh117 L113 w114 hp115
         have hE118 := hp115.ex
         have hE118z := Ex.size hE118
         refine SeqR.done (bn (tn (CW.sub (Sub.cons (d := 0) (hp115.old 0 _ rfl rfl) (Sub.cons (d := 1) (hp115.old 1 _ rfl rfl) (Sub.cons (d := 5) (hp115.old 5 _ rfl rfl) (Sub.cons (d := 6) (hp115.nt 10 6 rfl rfl rfl) (Sub.cons (d := 7) (hp115.old 7 _ rfl rfl) (Sub.cons (d := 19) (hp115.old 19 _ rfl rfl) (Sub.cons (d := 20) (hp115.old 20 _ rfl rfl) (Sub.cons (d := 21) (hp115.old 21 _ rfl rfl) (Sub.cons (d := 22) (hp115.old 22 _ rfl rfl) (Sub.cons (d := 25) (hp115.old 25 _ rfl rfl) (Sub.cons (d := 26) (hp115.old 26 _ rfl rfl) (Sub.cons (d := 27) (hp115.old 27 _ rfl rfl) (Sub.cons (d := 28) (hp115.old 28 _ rfl rfl) (Sub.cons (d := 29) (hp115.old 29 _ rfl rfl) (Sub.cons (d := 30) (hp115.old 30 _ rfl rfl) (Sub.cons (d := 31) (hp115.old 31 _ rfl rfl) (Sub.cons (d := 32) (hp115.old 32 _ rfl rfl) (Sub.cons (d := 33) (hp115.old 33 _ rfl rfl) (Sub.cons (d := 34) (hp115.old 34 _ rfl rfl) (Sub.cons (d := 44) (hp115.nt 2 44 rfl rfl rfl) (Sub.cons (d := 45) (hp115.nt 3 45 rfl rfl rfl) (Sub.cons (d := 46) (hp115.nt 4 46 rfl rfl rfl) (Sub.cons (d := 47) (hp115.nt 5 47 rfl rfl rfl) (Sub.cons (d := 48) (hp115.nt 6 48 rfl rfl rfl) (Sub.cons (d := 49) (hp115.nt 7 49 rfl rfl rfl) (Sub.cons (d := 50) (hp115.nt 8 50 rfl rfl rfl) (Sub.nil _))))))))))))))))))))))))))) (CW.region (sd rfl (yl_move rfl rfl (sd rfl (yl_inc rfl rfl rfl (by omega) (sd rfl (yl_assign rfl rfl (SeqR.done ?_)))))))))))
         refine tn ?_
         have hB145 : B_s_l3Bytes_1 p_s p_more k5 k23 (x24) = .cont (true) := by simp only [B_s_l3Bytes_1, hb21, hb22, hb56, cL]
         exact ⟨p_more.length - (k23 + 1), by omega, k23 + 1, true, rfl, hlt55, (by omega), rfl, rfl, rfl, rfl, rfl, rfl, rfl, rfl, rfl, rfl, rfl, rfl, rfl, rfl, rfl, rfl, rfl, rfl, rfl, (Ex.trans hf53 hE118), (loopM.cont hlt55 hB145).symm.trans hI32⟩
       ·refine CW.drawsI 11 (vgetI ([.bool (x24), .bool (x24), .string (bs (p_s)), .int .i64 ((k5 : Int)), .int .u8 (((p_s.getD k5 0).toNat : Int)), .string (bs (p_more)), .int .i64 ((k23 : Int)), .int .u8 (((p_more.getD k23 0).toNat : Int)), .bool (decide (((p_s.getD k5 0).toNat : Int) = ((p_more.getD k23 0).toNat : Int))), .bool (decide (((p_s.getD k5 0).toNat : Int) = ((p_more.getD k23 0).toNat : Int))), .bool (decide (((p_s.getD k5 0).toNat : Int) = ((p_more.getD k23 0).toNat : Int)))].map DetI)) Tryz.follows rfl rfl rfl rfl rfl rfl (vgetI_stable (stD _)) ⟨?_, ?_, ?_, ?_, ?_, ?_, ?_, ?_, ?_, ?_, ?_, trivial⟩ ?_
        ·exact oI rfl fun h => yl_move rfl (h.old 6 _ rfl rfl) kI
        ·exact oI rfl fun h => yl_move rfl (h.dt 0 42 rfl rfl rfl) kI
        ·exact oW rfl rfl rfl rfl hb56 fun h => yl_move rfl (h.old 0 _ rfl rfl) kI
        ·exact oW rfl rfl rfl rfl hb56 fun h => yl_move rfl (h.old 5 _ rfl rfl) kI
        ·intro L169 w170 hi171
         have hE172 := hi171.ex
         have hE172z := Ex.size hE172
         exact OpR.want rfl rfl (hi171.dt 1 43 rfl rfl rfl) hb56 (Yl.sameI (yl_sindexN un9 (a := p_s) rfl (hi171.dt 2 44 rfl rfl rfl) (hi171.dt 3 45 rfl rfl rfl) (by first | omega | assumption | (simp only [wI] at *; omega)) kI))
        ·exact oW rfl rfl rfl rfl hb56 fun h => yl_move rfl (h.old 1 _ rfl rfl) kI
        ·exact oW rfl rfl rfl rfl hb56 fun h => yl_move rfl (h.old 7 _ rfl rfl) kI
        ·intro L188 w189 hi190
         have hE191 := hi190.ex
         have hE191z := Ex.size hE191
         exact OpR.want rfl rfl (hi190.dt 1 43 rfl rfl rfl) hb56 (Yl.sameI (yl_sindexN un9 (a := p_more) rfl (hi190.dt 5 47 rfl rfl rfl) (hi190.dt 6 48 rfl rfl rfl) (by first | omega | assumption | (simp only [wI] at *; omega)) kI))
        ·exact oW rfl rfl rfl rfl hb56 fun h => yl_eql rfl (h.dt 4 46 rfl rfl rfl) (h.dt 7 49 rfl rfl rfl) kI
        ·exact oI rfl fun h => yl_pick_f rfl (h.dt 1 43 rfl rfl rfl) hb56 (h.dt 8 50 rfl rfl rfl) kI
        ·exact oI rfl fun h => yl_assign rfl (h.dt 9 51 rfl rfl rfl) kI
        ·intro fl216 fh217 L213 w214 hp215
         have hE218 := hp215.ex
         have hE218z := Ex.size hE218
         refine SeqR.done (bn (tn (CW.sub (Sub.cons (d := 0) (hp215.old 0 _ rfl rfl) (Sub.cons (d := 1) (hp215.old 1 _ rfl rfl) (Sub.cons (d := 5) (hp215.old 5 _ rfl rfl) (Sub.cons (d := 6) (hp215.nt 10 6 rfl rfl rfl) (Sub.cons (d := 7) (hp215.old 7 _ rfl rfl) (Sub.cons (d := 19) (hp215.old 19 _ rfl rfl) (Sub.cons (d := 20) (hp215.old 20 _ rfl rfl) (Sub.cons (d := 21) (hp215.old 21 _ rfl rfl) (Sub.cons (d := 22) (hp215.old 22 _ rfl rfl) (Sub.cons (d := 25) (hp215.old 25 _ rfl rfl) (Sub.cons (d := 26) (hp215.old 26 _ rfl rfl) (Sub.cons (d := 27) (hp215.old 27 _ rfl rfl) (Sub.cons (d := 28) (hp215.old 28 _ rfl rfl) (Sub.cons (d := 29) (hp215.old 29 _ rfl rfl) (Sub.cons (d := 30) (hp215.old 30 _ rfl rfl) (Sub.cons (d := 31) (hp215.old 31 _ rfl rfl) (Sub.cons (d := 32) (hp215.old 32 _ rfl rfl) (Sub.cons (d := 33) (hp215.old 33 _ rfl rfl) (Sub.cons (d := 34) (hp215.old 34 _ rfl rfl) (Sub.cons (d := 44) (hp215.nt 2 44 rfl rfl rfl) (Sub.cons (d := 45) (hp215.nt 3 45 rfl rfl rfl) (Sub.cons (d := 46) (hp215.nt 4 46 rfl rfl rfl) (Sub.cons (d := 47) (hp215.nt 5 47 rfl rfl rfl) (Sub.cons (d := 48) (hp215.nt 6 48 rfl rfl rfl) (Sub.cons (d := 49) (hp215.nt 7 49 rfl rfl rfl) (Sub.cons (d := 50) (hp215.nt 8 50 rfl rfl rfl) (Sub.nil _))))))))))))))))))))))))))) (CW.region (sd rfl (yl_move rfl rfl (sd rfl (yl_inc rfl rfl rfl (by omega) (sd rfl (yl_assign rfl rfl (SeqR.done ?_)))))))))))
         refine tn ?_
         have hB245 : B_s_l3Bytes_1 p_s p_more k5 k23 (x24) = .cont (decide (((p_s.getD k5 0).toNat : Int) = ((p_more.getD k23 0).toNat : Int))) := by simp only [B_s_l3Bytes_1, hb21, hb22, hb56, cL]
         exact ⟨p_more.length - (k23 + 1), by omega, k23 + 1, decide (((p_s.getD k5 0).toNat : Int) = ((p_more.getD k23 0).toNat : Int)), rfl, hlt55, (by omega), rfl, rfl, rfl, rfl, rfl, rfl, rfl, rfl, rfl, rfl, rfl, rfl, rfl, rfl, rfl, rfl, rfl, rfl, rfl, (Ex.trans hf53 hE218), (loopM.cont hlt55 hB245).symm.trans hI32⟩
      ·refine CW.seq (CW.seq (CW.region (sd rfl (yl_move rfl rfl (sd rfl (yl_move rfl rfl (sd rfl (yl_slen un9 (a := p_more) rfl rfl (sd rfl (yl_lss rfl rfl rfl (dn ?_)))))))))))
       refine CW.cond_f rfl (lt_f hlt55) (CW.exit (tx (tx ?_)))
       have hL247 : loopM (B_s_l3Bytes_1 p_s p_more k5) (p_more.length - 0) 0 (true) = .done (x24) := hI32.symm.trans (loopM.stop hlt55)
       refine bx (tn (CW.seq (CW.region (sd rfl (yl_move rfl rfl (sd rfl (yl_not rfl rfl (dn (bcase (x24) (fun hb248 => ?_) (fun hb248 => ?_))))))))))
       ·refine CW.cond_f rfl (not_t hb248) (CW.skip (bn (tn (CW.region (sd rfl (yl_move rfl rfl (sd rfl (yl_inc rfl rfl rfl (by omega) (sd rfl (yl_assign rfl rfl (SeqR.done ?_)))))))))))
        refine tn ?_
        have hB249 : B_s_l3Bytes_0 p_s p_more k5 () = .cont () := by simp only [B_s_l3Bytes_0, hb21, hb22, hb248, hL247, cL]
        exact ⟨p_s.length - (k5 + 1), by omega, k5 + 1, rfl, hlt20, (by omega), rfl, rfl, rfl, hf53, (loopM.cont hlt20 hB249).symm.trans hI13⟩
       ·refine CW.cond_t rfl (not_f hb248) (CW.seq (CW.region (sd rfl (yl_assign rfl rfl (dn (CW.ret (br (tr ?_))))))))
        refine tr ?_
        have hB251 : B_s_l3Bytes_0 p_s p_more k5 () = .ret false := by simp only [B_s_l3Bytes_0, hb21, hb22, hb248, hL247, cL]
        have hL250 : loopM (B_s_l3Bytes_0 p_s p_more) (p_s.length - 0) 0 () = .ret false := hI13.symm.trans (loopM.ret hlt20 hB251)
        refine br (tr (rr rfl (.cons rfl .nil) ?_))
        have hM252 : (s_l3Bytes p_s p_more) = (false) := by simp only [s_l3Bytes, hb21, hb22, hb248, hL247, hL250, cL]
        rw [hM252]
        exact ⟨rfl, hf53⟩
    ·have hb22p := dec_f hb22
     refine sy rfl rfl hb22 (yl_move rfl rfl (sy rfl rfl hb22 (yl_move rfl rfl (sy rfl rfl hb22 (yl_sindexN un9 (a := p_s) rfl rfl rfl (by first | omega | assumption | (simp only [wI] at *; omega)) (sy rfl rfl hb22 (yl_geq rfl rfl rfl (sy rfl rfl hb22 (yl_move rfl rfl (bcase (decide (48 ≤ ((p_s.getD k5 0).toNat : Int))) (fun hb253 => ?_) (fun hb253 => ?_)))))))))))
     ·have hb253p := dec_t hb253
      refine sy rfl rfl hb253 (yl_move rfl rfl (sy rfl rfl hb253 (yl_move rfl rfl (sy rfl rfl hb253 (yl_sindexN un9 (a := p_s) rfl rfl rfl (by first | omega | assumption | (simp only [wI] at *; omega)) (sy rfl rfl hb253 (yl_leq rfl rfl rfl (sy rfl rfl hb22 (yl_pick_t rfl rfl hb253 rfl (sd rfl (yl_pick_f rfl rfl hb22 rfl (sd rfl (yl_assign rfl rfl (dn ?_))))))))))))))
      refine CW.seq (CW.seq (CW.region (sd rfl (yl_assign rfl rfl (dn (CW.block (CW.loop (fun m256 L257 w258 => ∃ (k254 : Nat) (x255 : Bool), m256 = p_more.length - k254 ∧ k254 ≤ p_more.length ∧ w11.heap.size ≤ w258.heap.size ∧ lkp L257 0 = some (.string (bs (p_s))) ∧ lkp L257 1 = some (.string (bs (p_more))) ∧ lkp L257 5 = some (.int .i64 ((k5 : Int))) ∧ lkp L257 6 = some (.bool (x255)) ∧ lkp L257 7 = some (.int .i64 ((k254 : Int))) ∧ lkp L257 19 = some (.string (bs (p_s))) ∧ lkp L257 20 = some (.int .i64 ((k5 : Int))) ∧ lkp L257 21 = some (.int .u8 (((p_s.getD k5 0).toNat : Int))) ∧ lkp L257 22 = some (.bool (decide (((p_s.getD k5 0).toNat : Int) ≤ 122))) ∧ lkp L257 25 = some (.string (bs (p_s))) ∧ lkp L257 26 = some (.int .i64 ((k5 : Int))) ∧ lkp L257 27 = some (.int .u8 (((p_s.getD k5 0).toNat : Int))) ∧ lkp L257 28 = some (.bool (decide (48 ≤ ((p_s.getD k5 0).toNat : Int)))) ∧ lkp L257 29 = some (.bool (decide (48 ≤ ((p_s.getD k5 0).toNat : Int)))) ∧ lkp L257 30 = some (.string (bs (p_s))) ∧ lkp L257 31 = some (.int .i64 ((k5 : Int))) ∧ lkp L257 32 = some (.int .u8 (((p_s.getD k5 0).toNat : Int))) ∧ lkp L257 33 = some (.bool (decide (((p_s.getD k5 0).toNat : Int) ≤ 57))) ∧ lkp L257 34 = some (.bool (decide (((p_s.getD k5 0).toNat : Int) ≤ 57))) ∧ Ex w w258 ∧ loopM (B_s_l3Bytes_1 p_s p_more k5) (p_more.length - k254) k254 (x255) = loopM (B_s_l3Bytes_1 p_s p_more k5) (p_more.length - 0) 0 (decide (((p_s.getD k5 0).toNat : Int) ≤ 57))) (p_more.length - 0) ?_ ?_)))))))
      ·exact ⟨0, decide (((p_s.getD k5 0).toNat : Int) ≤ 57), rfl, (by omega), Nat.le_refl _, rfl, rfl, rfl, rfl, rfl, rfl, rfl, rfl, rfl, rfl, rfl, rfl, rfl, rfl, rfl, rfl, rfl, rfl, rfl, hf18, rfl⟩
      ·rintro m259 L260 w261 ⟨k254, x255, rfl, hk262, hsz264, hl265, hl266, hl267, hl268, hl269, hl270, hl271, hl272, hl273, hl274, hl275, hl276, hl277, hl278, hl279, hl280, hl281, hl282, hl283, hf284, hI263⟩
       refine CW.sub (Sub.cons hl265 (Sub.cons hl266 (Sub.cons hl267 (Sub.cons hl268 (Sub.cons hl269 (Sub.cons hl270 (Sub.cons hl271 (Sub.cons hl272 (Sub.cons hl273 (Sub.cons hl274 (Sub.cons hl275 (Sub.cons hl276 (Sub.cons hl277 (Sub.cons hl278 (Sub.cons hl279 (Sub.cons hl280 (Sub.cons hl281 (Sub.cons hl282 (Sub.cons hl283 (Sub.nil _)))))))))))))))))))) ?_
       have hf284z := Ex.size hf284
       have hbg285 : p_more.length ≤ 1073741824 := o2
       rcases Nat.lt_or_ge k254 p_more.length with hlt286 | hlt286
       ·refine CW.seq (CW.seq (CW.region (sd rfl (yl_move rfl rfl (sd rfl (yl_move rfl rfl (sd rfl (yl_slen un9 (a := p_more) rfl rfl (sd rfl (yl_lss rfl rfl rfl (dn ?_)))))))))))
        refine CW.cond_t rfl (lt_t hlt286) (CW.skip (tn (CW.seq (CW.block (bcase (x255) (fun hb287 => ?_) (fun hb287 => ?_))))))
        ·refine CW.drawsI 11 (vgetI ([.bool (x255), .bool (x255), undef, undef, undef, undef, undef, undef, undef, .bool (true), .bool (true)].map DetI)) Tryz.follows rfl rfl rfl rfl rfl rfl (vgetI_stable (stD _)) ⟨?_, ?_, ?_, ?_, ?_, ?_, ?_, ?_, ?_, ?_, ?_, trivial⟩ ?_
         ·exact oI rfl fun h => yl_move rfl (h.old 6 _ rfl rfl) kI
         ·exact oI rfl fun h => yl_move rfl (h.dt 0 42 rfl rfl rfl) kI
         ·exact oS rfl rfl rfl rfl rfl hb287
         ·exact oS rfl rfl rfl rfl rfl hb287
         ·exact oS rfl rfl rfl rfl rfl hb287
         ·exact oS rfl rfl rfl rfl rfl hb287
         ·exact oS rfl rfl rfl rfl rfl hb287
         ·exact oS rfl rfl rfl rfl rfl hb287
         ·exact oS rfl rfl rfl rfl rfl hb287
         ·exact oI rfl fun h => yl_pick_t rfl (h.dt 1 43 rfl rfl rfl) hb287 rfl kI
         ·exact oI rfl fun h => yl_assign rfl (h.dt 9 51 rfl rfl rfl) kI
         ·intro fl347 fh348 L344 w345 hp346
          have hE349 := hp346.ex
          have hE349z := Ex.size hE349
          refine SeqR.done (bn (tn (CW.sub (Sub.cons (d := 0) (hp346.old 0 _ rfl rfl) (Sub.cons (d := 1) (hp346.old 1 _ rfl rfl) (Sub.cons (d := 5) (hp346.old 5 _ rfl rfl) (Sub.cons (d := 6) (hp346.nt 10 6 rfl rfl rfl) (Sub.cons (d := 7) (hp346.old 7 _ rfl rfl) (Sub.cons (d := 19) (hp346.old 19 _ rfl rfl) (Sub.cons (d := 20) (hp346.old 20 _ rfl rfl) (Sub.cons (d := 21) (hp346.old 21 _ rfl rfl) (Sub.cons (d := 22) (hp346.old 22 _ rfl rfl) (Sub.cons (d := 25) (hp346.old 25 _ rfl rfl) (Sub.cons (d := 26) (hp346.old 26 _ rfl rfl) (Sub.cons (d := 27) (hp346.old 27 _ rfl rfl) (Sub.cons (d := 28) (hp346.old 28 _ rfl rfl) (Sub.cons (d := 29) (hp346.old 29 _ rfl rfl) (Sub.cons (d := 30) (hp346.old 30 _ rfl rfl) (Sub.cons (d := 31) (hp346.old 31 _ rfl rfl) (Sub.cons (d := 32) (hp346.old 32 _ rfl rfl) (Sub.cons (d := 33) (hp346.old 33 _ rfl rfl) (Sub.cons (d := 34) (hp346.old 34 _ rfl rfl) (Sub.cons (d := 44) (hp346.nt 2 44 rfl rfl rfl) (Sub.cons (d := 45) (hp346.nt 3 45 rfl rfl rfl) (Sub.cons (d := 46) (hp346.nt 4 46 rfl rfl rfl) (Sub.cons (d := 47) (hp346.nt 5 47 rfl rfl rfl) (Sub.cons (d := 48) (hp346.nt 6 48 rfl rfl rfl) (Sub.cons (d := 49) (hp346.nt 7 49 rfl rfl rfl) (Sub.cons (d := 50) (hp346.nt 8 50 rfl rfl rfl) (Sub.nil _))))))))))))))))))))))))))) (CW.region (sd rfl (yl_move rfl rfl (sd rfl (yl_inc rfl rfl rfl (by omega) (sd rfl (yl_assign rfl rfl (SeqR.done ?_)))))))))))
          refine tn ?_
          have hB376 : B_s_l3Bytes_1 p_s p_more k5 k254 (x255) = .cont (true) := by simp only [B_s_l3Bytes_1, hb21, hb22, hb253, hb287, cL]
          exact ⟨p_more.length - (k254 + 1), by omega, k254 + 1, true, rfl, hlt286, (by omega), rfl, rfl, rfl, rfl, rfl, rfl, rfl, rfl, rfl, rfl, rfl, rfl, rfl, rfl, rfl, rfl, rfl, rfl, rfl, (Ex.trans hf284 hE349), (loopM.cont hlt286 hB376).symm.trans hI263⟩
        ·refine CW.drawsI 11 (vgetI ([.bool (x255), .bool (x255), .string (bs (p_s)), .int .i64 ((k5 : Int)), .int .u8 (((p_s.getD k5 0).toNat : Int)), .string (bs (p_more)), .int .i64 ((k254 : Int)), .int .u8 (((p_more.getD k254 0).toNat : Int)), .bool (decide (((p_s.getD k5 0).toNat : Int) = ((p_more.getD k254 0).toNat : Int))), .bool (decide (((p_s.getD k5 0).toNat : Int) = ((p_more.getD k254 0).toNat : Int))), .bool (decide (((p_s.getD k5 0).toNat : Int) = ((p_more.getD k254 0).toNat : Int)))].map DetI)) Tryz.follows rfl rfl rfl rfl rfl rfl (vgetI_stable (stD _)) ⟨?_, ?_, ?_, ?_, ?_, ?_, ?_, ?_, ?_, ?_, ?_, trivial⟩ ?_
         ·exact oI rfl fun h => yl_move rfl (h.old 6 _ rfl rfl) kI
         ·exact oI rfl fun h => yl_move rfl (h.dt 0 42 rfl rfl rfl) kI
         ·exact oW rfl rfl rfl rfl hb287 fun h => yl_move rfl (h.old 0 _ rfl rfl) kI
         ·exact oW rfl rfl rfl rfl hb287 fun h => yl_move rfl (h.old 5 _ rfl rfl) kI
         ·intro L400 w401 hi402
          have hE403 := hi402.ex
          have hE403z := Ex.size hE403
          exact OpR.want rfl rfl (hi402.dt 1 43 rfl rfl rfl) hb287 (Yl.sameI (yl_sindexN un9 (a := p_s) rfl (hi402.dt 2 44 rfl rfl rfl) (hi402.dt 3 45 rfl rfl rfl) (by first | omega | assumption | (simp only [wI] at *; omega)) kI))
         ·exact oW rfl rfl rfl rfl hb287 fun h => yl_move rfl (h.old 1 _ rfl rfl) kI
         ·exact oW rfl rfl rfl rfl hb287 fun h => yl_move rfl (h.old 7 _ rfl rfl) kI
         ·intro L419 w420 hi421
          have hE422 := hi421.ex
          have hE422z := Ex.size hE422
          exact OpR.want rfl rfl (hi421.dt 1 43 rfl rfl rfl) hb287 (Yl.sameI (yl_sindexN un9 (a := p_more) rfl (hi421.dt 5 47 rfl rfl rfl) (hi421.dt 6 48 rfl rfl rfl) (by first | omega | assumption | (simp only [wI] at *; omega)) kI))
         ·exact oW rfl rfl rfl rfl hb287 fun h => yl_eql rfl (h.dt 4 46 rfl rfl rfl) (h.dt 7 49 rfl rfl rfl) kI
         ·exact oI rfl fun h => yl_pick_f rfl (h.dt 1 43 rfl rfl rfl) hb287 (h.dt 8 50 rfl rfl rfl) kI
         ·exact oI rfl fun h => yl_assign rfl (h.dt 9 51 rfl rfl rfl) kI
         ·intro fl447 fh448 L444 w445 hp446
          have hE449 := hp446.ex
          have hE449z := Ex.size hE449
          refine SeqR.done (bn (tn (CW.sub (Sub.cons (d := 0) (hp446.old 0 _ rfl rfl) (Sub.cons (d := 1) (hp446.old 1 _ rfl rfl) (Sub.cons (d := 5) (hp446.old 5 _ rfl rfl) (Sub.cons (d := 6) (hp446.nt 10 6 rfl rfl rfl) (Sub.cons (d := 7) (hp446.old 7 _ rfl rfl) (Sub.cons (d := 19) (hp446.old 19 _ rfl rfl) (Sub.cons (d := 20) (hp446.old 20 _ rfl rfl) (Sub.cons (d := 21) (hp446.old 21 _ rfl rfl) (Sub.cons (d := 22) (hp446.old 22 _ rfl rfl) (Sub.cons (d := 25) (hp446.old 25 _ rfl rfl) (Sub.cons (d := 26) (hp446.old 26 _ rfl rfl) (Sub.cons (d := 27) (hp446.old 27 _ rfl rfl) (Sub.cons (d := 28) (hp446.old 28 _ rfl rfl) (Sub.cons (d := 29) (hp446.old 29 _ rfl rfl) (Sub.cons (d := 30) (hp446.old 30 _ rfl rfl) (Sub.cons (d := 31) (hp446.old 31 _ rfl rfl) (Sub.cons (d := 32) (hp446.old 32 _ rfl rfl) (Sub.cons (d := 33) (hp446.old 33 _ rfl rfl) (Sub.cons (d := 34) (hp446.old 34 _ rfl rfl) (Sub.cons (d := 44) (hp446.nt 2 44 rfl rfl rfl) (Sub.cons (d := 45) (hp446.nt 3 45 rfl rfl rfl) (Sub.cons (d := 46) (hp446.nt 4 46 rfl rfl rfl) (Sub.cons (d := 47) (hp446.nt 5 47 rfl rfl rfl) (Sub.cons (d := 48) (hp446.nt 6 48 rfl rfl rfl) (Sub.cons (d := 49) (hp446.nt 7 49 rfl rfl rfl) (Sub.cons (d := 50) (hp446.nt 8 50 rfl rfl rfl) (Sub.nil _))))))))))))))))))))))))))) (CW.region (sd rfl (yl_move rfl rfl (sd rfl (yl_inc rfl rfl rfl (by omega) (sd rfl (yl_assign rfl rfl (SeqR.done ?_)))))))))))
          refine tn ?_
          have hB476 : B_s_l3Bytes_1 p_s p_more k5 k254 (x255) = .cont (decide (((p_s.getD k5 0).toNat : Int) = ((p_more.getD k254 0).toNat : Int))) := by simp only [B_s_l3Bytes_1, hb21, hb22, hb253, hb287, cL]
          exact ⟨p_more.length - (k254 + 1), by omega, k254 + 1, decide (((p_s.getD k5 0).toNat : Int) = ((p_more.getD k254 0).toNat : Int)), rfl, hlt286, (by omega), rfl, rfl, rfl, rfl, rfl, rfl, rfl, rfl, rfl, rfl, rfl, rfl, rfl, rfl, rfl, rfl, rfl, rfl, rfl, (Ex.trans hf284 hE449), (loopM.cont hlt286 hB476).symm.trans hI263⟩
       ·refine CW.seq (CW.seq (CW.region (sd rfl (yl_move rfl rfl (sd rfl (yl_move rfl rfl (sd rfl (yl_slen un9 (a := p_more) rfl rfl (sd rfl (yl_lss rfl rfl rfl (dn ?_)))))))))))
        refine CW.cond_f rfl (lt_f hlt286) (CW.exit (tx (tx ?_)))
        have hL478 : loopM (B_s_l3Bytes_1 p_s p_more k5) (p_more.length - 0) 0 (decide (((p_s.getD k5 0).toNat : Int) ≤ 57)) = .done (x255) := hI263.symm.trans (loopM.stop hlt286)
        refine bx (tn (CW.seq (CW.region (sd rfl (yl_move rfl rfl (sd rfl (yl_not rfl rfl (dn (bcase (x255) (fun hb479 => ?_) (fun hb479 => ?_))))))))))
        ·refine CW.cond_f rfl (not_t hb479) (CW.skip (bn (tn (CW.region (sd rfl (yl_move rfl rfl (sd rfl (yl_inc rfl rfl rfl (by omega) (sd rfl (yl_assign rfl rfl (SeqR.done ?_)))))))))))
         refine tn ?_
         have hB480 : B_s_l3Bytes_0 p_s p_more k5 () = .cont () := by simp only [B_s_l3Bytes_0, hb21, hb22, hb253, hb479, hL478, cL]
         exact ⟨p_s.length - (k5 + 1), by omega, k5 + 1, rfl, hlt20, (by omega), rfl, rfl, rfl, hf284, (loopM.cont hlt20 hB480).symm.trans hI13⟩
        ·refine CW.cond_t rfl (not_f hb479) (CW.seq (CW.region (sd rfl (yl_assign rfl rfl (dn (CW.ret (br (tr ?_))))))))
         refine tr ?_
         have hB482 : B_s_l3Bytes_0 p_s p_more k5 () = .ret false := by simp only [B_s_l3Bytes_0, hb21, hb22, hb253, hb479, hL478, cL]
         have hL481 : loopM (B_s_l3Bytes_0 p_s p_more) (p_s.length - 0) 0 () = .ret false := hI13.symm.trans (loopM.ret hlt20 hB482)
         refine br (tr (rr rfl (.cons rfl .nil) ?_))
         have hM483 : (s_l3Bytes p_s p_more) = (false) := by simp only [s_l3Bytes, hb21, hb22, hb253, hb479, hL478, hL481, cL]
         rw [hM483]
         exact ⟨rfl, hf284⟩
     ·have hb253p := dec_f hb253
      refine sz rfl rfl hb253 (sz rfl rfl hb253 (sz rfl rfl hb253 (sz rfl rfl hb253 (sy rfl rfl hb22 (yl_pick_f rfl rfl hb253 rfl (sd rfl (yl_pick_f rfl rfl hb22 rfl (sd rfl (yl_assign rfl rfl (dn ?_))))))))))
      refine CW.seq (CW.seq (CW.region (sd rfl (yl_assign rfl rfl (dn (CW.block (CW.loop (fun m486 L487 w488 => ∃ (k484 : Nat) (x485 : Bool), m486 = p_more.length - k484 ∧ k484 ≤ p_more.length ∧ w11.heap.size ≤ w488.heap.size ∧ lkp L487 0 = some (.string (bs (p_s))) ∧ lkp L487 1 = some (.string (bs (p_more))) ∧ lkp L487 5 = some (.int .i64 ((k5 : Int))) ∧ lkp L487 6 = some (.bool (x485)) ∧ lkp L487 7 = some (.int .i64 ((k484 : Int))) ∧ lkp L487 19 = some (.string (bs (p_s))) ∧ lkp L487 20 = some (.int .i64 ((k5 : Int))) ∧ lkp L487 21 = some (.int .u8 (((p_s.getD k5 0).toNat : Int))) ∧ lkp L487 22 = some (.bool (decide (((p_s.getD k5 0).toNat : Int) ≤ 122))) ∧ lkp L487 25 = some (.string (bs (p_s))) ∧ lkp L487 26 = some (.int .i64 ((k5 : Int))) ∧ lkp L487 27 = some (.int .u8 (((p_s.getD k5 0).toNat : Int))) ∧ lkp L487 28 = some (.bool (decide (48 ≤ ((p_s.getD k5 0).toNat : Int)))) ∧ lkp L487 29 = some (.bool (decide (48 ≤ ((p_s.getD k5 0).toNat : Int)))) ∧ lkp L487 30 = some (undef) ∧ lkp L487 31 = some (undef) ∧ lkp L487 32 = some (undef) ∧ lkp L487 33 = some (undef) ∧ lkp L487 34 = some (.bool (false)) ∧ Ex w w488 ∧ loopM (B_s_l3Bytes_1 p_s p_more k5) (p_more.length - k484) k484 (x485) = loopM (B_s_l3Bytes_1 p_s p_more k5) (p_more.length - 0) 0 (false)) (p_more.length - 0) ?_ ?_)))))))
      ·exact ⟨0, false, rfl, (by omega), Nat.le_refl _, rfl, rfl, rfl, rfl, rfl, rfl, rfl, rfl, rfl, rfl, rfl, rfl, rfl, rfl, rfl, rfl, rfl, rfl, rfl, hf18, rfl⟩
      ·rintro m489 L490 w491 ⟨k484, x485, rfl, hk492, hsz494, hl495, hl496, hl497, hl498, hl499, hl500, hl501, hl502, hl503, hl504, hl505, hl506, hl507, hl508, hl509, hl510, hl511, hl512, hl513, hf514, hI493⟩
       refine CW.sub (Sub.cons hl495 (Sub.cons hl496 (Sub.cons hl497 (Sub.cons hl498 (Sub.cons hl499 (Sub.cons hl500 (Sub.cons hl501 (Sub.cons hl502 (Sub.cons hl503 (Sub.cons hl504 (Sub.cons hl505 (Sub.cons hl506 (Sub.cons hl507 (Sub.cons hl508 (Sub.cons hl509 (Sub.cons hl510 (Sub.cons hl511 (Sub.cons hl512 (Sub.cons hl513 (Sub.nil _)))))))))))))))))))) ?_
       have hf514z := Ex.size hf514
       have hbg515 : p_more.length ≤ 1073741824 := o2
       rcases Nat.lt_or_ge k484 p_more.length with hlt516 | hlt516
       ·refine CW.seq (CW.seq (CW.region (sd rfl (yl_move rfl rfl (sd rfl (yl_move rfl rfl (sd rfl (yl_slen un9 (a := p_more) rfl rfl (sd rfl (yl_lss rfl rfl rfl (dn ?_)))))))))))
        refine CW.cond_t rfl (lt_t hlt516) (CW.skip (tn (CW.seq (CW.block (bcase (x485) (fun hb517 => ?_) (fun hb517 => ?_))))))
        ·refine CW.drawsI 11 (vgetI ([.bool (x485), .bool (x485), undef, undef, undef, undef, undef, undef, undef, .bool (true), .bool (true)].map DetI)) Tryz.follows rfl rfl rfl rfl rfl rfl (vgetI_stable (stD _)) ⟨?_, ?_, ?_, ?_, ?_, ?_, ?_, ?_, ?_, ?_, ?_, trivial⟩ ?_
         ·exact oI rfl fun h => yl_move rfl (h.old 6 _ rfl rfl) kI
         ·exact oI rfl fun h => yl_move rfl (h.dt 0 42 rfl rfl rfl) kI
         ·exact oS rfl rfl rfl rfl rfl hb517
         ·exact oS rfl rfl rfl rfl rfl hb517
         ·exact oS rfl rfl rfl rfl rfl hb517
         ·exact oS rfl rfl rfl rfl rfl hb517
         ·exact oS rfl rfl rfl rfl rfl hb517
         ·exact oS rfl rfl rfl rfl rfl hb517
         ·exact oS rfl rfl rfl rfl rfl hb517
         ·exact oI rfl fun h => yl_pick_t rfl (h.dt 1 43 rfl rfl rfl) hb517 rfl kI
         ·exact oI rfl fun h => yl_assign rfl (h.dt 9 51 rfl rfl rfl) kI
         ·intro fl577 fh578 L574 w575 hp576
          have hE579 := hp576.ex
          have hE579z := Ex.size hE579
          refine SeqR.done (bn (tn (CW.sub (Sub.cons (d := 0) (hp576.old 0 _ rfl rfl) (Sub.cons (d := 1) (hp576.old 1 _ rfl rfl) (Sub.cons (d := 5) (hp576.old 5 _ rfl rfl) (Sub.cons (d := 6) (hp576.nt 10 6 rfl rfl rfl) (Sub.cons (d := 7) (hp576.old 7 _ rfl rfl) (Sub.cons (d := 19) (hp576.old 19 _ rfl rfl) (Sub.cons (d := 20) (hp576.old 20 _ rfl rfl) (Sub.cons (d := 21) (hp576.old 21 _ rfl rfl) (Sub.cons (d := 22) (hp576.old 22 _ rfl rfl) (Sub.cons (d := 25) (hp576.old 25 _ rfl rfl) (Sub.cons (d := 26) (hp576.old 26 _ rfl rfl) (Sub.cons (d := 27) (hp576.old 27 _ rfl rfl) (Sub.cons (d := 28) (hp576.old 28 _ rfl rfl) (Sub.cons (d := 29) (hp576.old 29 _ rfl rfl) (Sub.cons (d := 30) (hp576.old 30 _ rfl rfl) (Sub.cons (d := 31) (hp576.old 31 _ rfl rfl) (Sub.cons (d := 32) (hp576.old 32 _ rfl rfl) (Sub.cons (d := 33) (hp576.old 33 _ rfl rfl) (Sub.cons (d := 34) (hp576.old 34 _ rfl rfl) (Sub.cons (d := 44) (hp576.nt 2 44 rfl rfl rfl) (Sub.cons (d := 45) (hp576.nt 3 45 rfl rfl rfl) (Sub.cons (d := 46) (hp576.nt 4 46 rfl rfl rfl) (Sub.cons (d := 47) (hp576.nt 5 47 rfl rfl rfl) (Sub.cons (d := 48) (hp576.nt 6 48 rfl rfl rfl) (Sub.cons (d := 49) (hp576.nt 7 49 rfl rfl rfl) (Sub.cons (d := 50) (hp576.nt 8 50 rfl rfl rfl) (Sub.nil _))))))))))))))))))))))))))) (CW.region (sd rfl (yl_move rfl rfl (sd rfl (yl_inc rfl rfl rfl (by omega) (sd rfl (yl_assign rfl rfl (SeqR.done ?_)))))))))))
          refine tn ?_
          have hB606 : B_s_l3Bytes_1 p_s p_more k5 k484 (x485) = .cont (true) := by simp only [B_s_l3Bytes_1, hb21, hb22, hb253, hb517, cL]
          exact ⟨p_more.length - (k484 + 1), by omega, k484 + 1, true, rfl, hlt516, (by omega), rfl, rfl, rfl, rfl, rfl, rfl, rfl, rfl, rfl, rfl, rfl, rfl, rfl, rfl, rfl, rfl, rfl, rfl, rfl, (Ex.trans hf514 hE579), (loopM.cont hlt516 hB606).symm.trans hI493⟩
        ·refine CW.drawsI 11 (vgetI ([.bool (x485), .bool (x485), .string (bs (p_s)), .int .i64 ((k5 : Int)), .int .u8 (((p_s.getD k5 0).toNat : Int)), .string (bs (p_more)), .int .i64 ((k484 : Int)), .int .u8 (((p_more.getD k484 0).toNat : Int)), .bool (decide (((p_s.getD k5 0).toNat : Int) = ((p_more.getD k484 0).toNat : Int))), .bool (decide (((p_s.getD k5 0).toNat : Int) = ((p_more.getD k484 0).toNat : Int))), .bool (decide (((p_s.getD k5 0).toNat : Int) = ((p_more.getD k484 0).toNat : Int)))].map DetI)) Tryz.follows rfl rfl rfl rfl rfl rfl (vgetI_stable (stD _)) ⟨?_, ?_, ?_, ?_, ?_, ?_, ?_, ?_, ?_, ?_, ?_, trivial⟩ ?_
         ·exact oI rfl fun h => yl_move rfl (h.old 6 _ rfl rfl) kI
         ·exact oI rfl fun h => yl_move rfl (h.dt 0 42 rfl rfl rfl) kI
         ·exact oW rfl rfl rfl rfl hb517 fun h => yl_move rfl (h.old 0 _ rfl rfl) kI
         ·exact oW rfl rfl rfl rfl hb517 fun h => yl_move rfl (h.old 5 _ rfl rfl) kI
         ·intro L630 w631 hi632
          have hE633 := hi632.ex
          have hE633z := Ex.size hE633
          exact OpR.want rfl rfl (hi632.dt 1 43 rfl rfl rfl) hb517 (Yl.sameI (yl_sindexN un9 (a := p_s) rfl (hi632.dt 2 44 rfl rfl rfl) (hi632.dt 3 45 rfl rfl rfl) (by first | omega | assumption | (simp only [wI] at *; omega)) kI))
         ·exact oW rfl rfl rfl rfl hb517 fun h => yl_move rfl (h.old 1 _ rfl rfl) kI
         ·exact oW rfl rfl rfl rfl hb517 fun h => yl_move rfl (h.old 7 _ rfl rfl) kI
         ·intro L649 w650 hi651
          have hE652 := hi651.ex
          have hE652z := Ex.size hE652
          exact OpR.want rfl rfl (hi651.dt 1 43 rfl rfl rfl) hb517 (Yl.sameI (yl_sindexN un9 (a := p_more) rfl (hi651.dt 5 47 rfl rfl rfl) (hi651.dt 6 48 rfl rfl rfl) (by first | omega | assumption | (simp only [wI] at *; omega)) kI))
         ·exact oW rfl rfl rfl rfl hb517 fun h => yl_eql rfl (h.dt 4 46 rfl rfl rfl) (h.dt 7 49 rfl rfl rfl) kI
         ·exact oI rfl fun h => yl_pick_f rfl (h.dt 1 43 rfl rfl rfl) hb517 (h.dt 8 50 rfl rfl rfl) kI
         ·exact oI rfl fun h => yl_assign rfl (h.dt 9 51 rfl rfl rfl) kI
         ·intro fl677 fh678 L674 w675 hp676
          have hE679 := hp676.ex
          have hE679z := Ex.size hE679
          refine SeqR.done (bn (tn (CW.sub (Sub.cons (d := 0) (hp676.old 0 _ rfl rfl) (Sub.cons (d := 1) (hp676.old 1 _ rfl rfl) (Sub.cons (d := 5) (hp676.old 5 _ rfl rfl) (Sub.cons (d := 6) (hp676.nt 10 6 rfl rfl rfl) (Sub.cons (d := 7) (hp676.old 7 _ rfl rfl) (Sub.cons (d := 19) (hp676.old 19 _ rfl rfl) (Sub.cons (d := 20) (hp676.old 20 _ rfl rfl) (Sub.cons (d := 21) (hp676.old 21 _ rfl rfl) (Sub.cons (d := 22) (hp676.old 22 _ rfl rfl) (Sub.cons (d := 25) (hp676.old 25 _ rfl rfl) (Sub.cons (d := 26) (hp676.old 26 _ rfl rfl) (Sub.cons (d := 27) (hp676.old 27 _ rfl rfl) (Sub.cons (d := 28) (hp676.old 28 _ rfl rfl) (Sub.cons (d := 29) (hp676.old 29 _ rfl rfl) (Sub.cons (d := 30) (hp676.old 30 _ rfl rfl) (Sub.cons (d := 31) (hp676.old 31 _ rfl rfl) (Sub.cons (d := 32) (hp676.old 32 _ rfl rfl) (Sub.cons (d := 33) (hp676.old 33 _ rfl rfl) (Sub.cons (d := 34) (hp676.old 34 _ rfl rfl) (Sub.cons (d := 44) (hp676.nt 2 44 rfl rfl rfl) (Sub.cons (d := 45) (hp676.nt 3 45 rfl rfl rfl) (Sub.cons (d := 46) (hp676.nt 4 46 rfl rfl rfl) (Sub.cons (d := 47) (hp676.nt 5 47 rfl rfl rfl) (Sub.cons (d := 48) (hp676.nt 6 48 rfl rfl rfl) (Sub.cons (d := 49) (hp676.nt 7 49 rfl rfl rfl) (Sub.cons (d := 50) (hp676.nt 8 50 rfl rfl rfl) (Sub.nil _))))))))))))))))))))))))))) (CW.region (sd rfl (yl_move rfl rfl (sd rfl (yl_inc rfl rfl rfl (by omega) (sd rfl (yl_assign rfl rfl (SeqR.done ?_)))))))))))
          refine tn ?_
          have hB706 : B_s_l3Bytes_1 p_s p_more k5 k484 (x485) = .cont (decide (((p_s.getD k5 0).toNat : Int) = ((p_more.getD k484 0).toNat : Int))) := by simp only [B_s_l3Bytes_1, hb21, hb22, hb253, hb517, cL]
          exact ⟨p_more.length - (k484 + 1), by omega, k484 + 1, decide (((p_s.getD k5 0).toNat : Int) = ((p_more.getD k484 0).toNat : Int)), rfl, hlt516, (by omega), rfl, rfl, rfl, rfl, rfl, rfl, rfl, rfl, rfl, rfl, rfl, rfl, rfl, rfl, rfl, rfl, rfl, rfl, rfl, (Ex.trans hf514 hE679), (loopM.cont hlt516 hB706).symm.trans hI493⟩
       ·refine CW.seq (CW.seq (CW.region (sd rfl (yl_move rfl rfl (sd rfl (yl_move rfl rfl (sd rfl (yl_slen un9 (a := p_more) rfl rfl (sd rfl (yl_lss rfl rfl rfl (dn ?_)))))))))))
        refine CW.cond_f rfl (lt_f hlt516) (CW.exit (tx (tx ?_)))
        have hL708 : loopM (B_s_l3Bytes_1 p_s p_more k5) (p_more.length - 0) 0 (false) = .done (x485) := hI493.symm.trans (loopM.stop hlt516)
        refine bx (tn (CW.seq (CW.region (sd rfl (yl_move rfl rfl (sd rfl (yl_not rfl rfl (dn (bcase (x485) (fun hb709 => ?_) (fun hb709 => ?_))))))))))
        ·refine CW.cond_f rfl (not_t hb709) (CW.skip (bn (tn (CW.region (sd rfl (yl_move rfl rfl (sd rfl (yl_inc rfl rfl rfl (by omega) (sd rfl (yl_assign rfl rfl (SeqR.done ?_)))))))))))
         refine tn ?_
         have hB710 : B_s_l3Bytes_0 p_s p_more k5 () = .cont () := by simp only [B_s_l3Bytes_0, hb21, hb22, hb253, hb709, hL708, cL]
         exact ⟨p_s.length - (k5 + 1), by omega, k5 + 1, rfl, hlt20, (by omega), rfl, rfl, rfl, hf514, (loopM.cont hlt20 hB710).symm.trans hI13⟩
        ·refine CW.cond_t rfl (not_f hb709) (CW.seq (CW.region (sd rfl (yl_assign rfl rfl (dn (CW.ret (br (tr ?_))))))))
         refine tr ?_
         have hB712 : B_s_l3Bytes_0 p_s p_more k5 () = .ret false := by simp only [B_s_l3Bytes_0, hb21, hb22, hb253, hb709, hL708, cL]
         have hL711 : loopM (B_s_l3Bytes_0 p_s p_more) (p_s.length - 0) 0 () = .ret false := hI13.symm.trans (loopM.ret hlt20 hB712)
         refine br (tr (rr rfl (.cons rfl .nil) ?_))
         have hM713 : (s_l3Bytes p_s p_more) = (false) := by simp only [s_l3Bytes, hb21, hb22, hb253, hb709, hL708, hL711, cL]
         rw [hM713]
         exact ⟨rfl, hf514⟩
   ·have hb21p := dec_f hb21
    refine sz rfl rfl hb21 (sz rfl rfl hb21 (sz rfl rfl hb21 (sz rfl rfl hb21 (sd rfl (yl_pick_f rfl rfl hb21 rfl (sd rfl (yl_move rfl rfl (sy rfl rfl rfl (yl_move rfl rfl (sy rfl rfl rfl (yl_move rfl rfl (sy rfl rfl rfl (yl_sindexN un9 (a := p_s) rfl rfl rfl (by first | omega | assumption | (simp only [wI] at *; omega)) ?_)))))))))))))
    refine sy rfl rfl rfl (yl_geq rfl rfl rfl (sy rfl rfl rfl (yl_move rfl rfl (bcase (decide (48 ≤ ((p_s.getD k5 0).toNat : Int))) (fun hb714 => ?_) (fun hb714 => ?_)))))
    ·have hb714p := dec_t hb714
     refine sy rfl rfl hb714 (yl_move rfl rfl (sy rfl rfl hb714 (yl_move rfl rfl (sy rfl rfl hb714 (yl_sindexN un9 (a := p_s) rfl rfl rfl (by first | omega | assumption | (simp only [wI] at *; omega)) (sy rfl rfl hb714 (yl_leq rfl rfl rfl (sy rfl rfl rfl (yl_pick_t rfl rfl hb714 rfl (sd rfl (yl_pick_f rfl rfl rfl rfl (sd rfl (yl_assign rfl rfl (dn ?_))))))))))))))
     refine CW.seq (CW.seq (CW.region (sd rfl (yl_assign rfl rfl (dn (CW.block (CW.loop (fun m717 L718 w719 => ∃ (k715 : Nat) (x716 : Bool), m717 = p_more.length - k715 ∧ k715 ≤ p_more.length ∧ w11.heap.size ≤ w719.heap.size ∧ lkp L718 0 = some (.string (bs (p_s))) ∧ lkp L718 1 = some (.string (bs (p_more))) ∧ lkp L718 5 = some (.int .i64 ((k5 : Int))) ∧ lkp L718 6 = some (.bool (x716)) ∧ lkp L718 7 = some (.int .i64 ((k715 : Int))) ∧ lkp L718 19 = some (undef) ∧ lkp L718 20 = some (undef) ∧ lkp L718 21 = some (undef) ∧ lkp L718 22 = some (undef) ∧ lkp L718 25 = some (.string (bs (p_s))) ∧ lkp L718 26 = some (.int .i64 ((k5 : Int))) ∧ lkp L718 27 = some (.int .u8 (((p_s.getD k5 0).toNat : Int))) ∧ lkp L718 28 = some (.bool (decide (48 ≤ ((p_s.getD k5 0).toNat : Int)))) ∧ lkp L718 29 = some (.bool (decide (48 ≤ ((p_s.getD k5 0).toNat : Int)))) ∧ lkp L718 30 = some (.string (bs (p_s))) ∧ lkp L718 31 = some (.int .i64 ((k5 : Int))) ∧ lkp L718 32 = some (.int .u8 (((p_s.getD k5 0).toNat : Int))) ∧ lkp L718 33 = some (.bool (decide (((p_s.getD k5 0).toNat : Int) ≤ 57))) ∧ lkp L718 34 = some (.bool (decide (((p_s.getD k5 0).toNat : Int) ≤ 57))) ∧ Ex w w719 ∧ loopM (B_s_l3Bytes_1 p_s p_more k5) (p_more.length - k715) k715 (x716) = loopM (B_s_l3Bytes_1 p_s p_more k5) (p_more.length - 0) 0 (decide (((p_s.getD k5 0).toNat : Int) ≤ 57))) (p_more.length - 0) ?_ ?_)))))))
     ·exact ⟨0, decide (((p_s.getD k5 0).toNat : Int) ≤ 57), rfl, (by omega), Nat.le_refl _, rfl, rfl, rfl, rfl, rfl, rfl, rfl, rfl, rfl, rfl, rfl, rfl, rfl, rfl, rfl, rfl, rfl, rfl, rfl, hf18, rfl⟩
     ·rintro m720 L721 w722 ⟨k715, x716, rfl, hk723, hsz725, hl726, hl727, hl728, hl729, hl730, hl731, hl732, hl733, hl734, hl735, hl736, hl737, hl738, hl739, hl740, hl741, hl742, hl743, hl744, hf745, hI724⟩
      refine CW.sub (Sub.cons hl726 (Sub.cons hl727 (Sub.cons hl728 (Sub.cons hl729 (Sub.cons hl730 (Sub.cons hl731 (Sub.cons hl732 (Sub.cons hl733 (Sub.cons hl734 (Sub.cons hl735 (Sub.cons hl736 (Sub.cons hl737 (Sub.cons hl738 (Sub.cons hl739 (Sub.cons hl740 (Sub.cons hl741 (Sub.cons hl742 (Sub.cons hl743 (Sub.cons hl744 (Sub.nil _)))))))))))))))))))) ?_
      have hf745z := Ex.size hf745
      have hbg746 : p_more.length ≤ 1073741824 := o2
      rcases Nat.lt_or_ge k715 p_more.length with hlt747 | hlt747
      ·refine CW.seq (CW.seq (CW.region (sd rfl (yl_move rfl rfl (sd rfl (yl_move rfl rfl (sd rfl (yl_slen un9 (a := p_more) rfl rfl (sd rfl (yl_lss rfl rfl rfl (dn ?_)))))))))))
       refine CW.cond_t rfl (lt_t hlt747) (CW.skip (tn (CW.seq (CW.block (bcase (x716) (fun hb748 => ?_) (fun hb748 => ?_))))))
       ·refine CW.drawsI 11 (vgetI ([.bool (x716), .bool (x716), undef, undef, undef, undef, undef, undef, undef, .bool (true), .bool (true)].map DetI)) Tryz.follows rfl rfl rfl rfl rfl rfl (vgetI_stable (stD _)) ⟨?_, ?_, ?_, ?_, ?_, ?_, ?_, ?_, ?_, ?_, ?_, trivial⟩ ?_
        ·exact oI rfl fun h => yl_move rfl (h.old 6 _ rfl rfl) kI
        ·exact oI rfl fun h => yl_move rfl (h.dt 0 42 rfl rfl rfl) kI
        ·exact oS rfl rfl rfl rfl rfl hb748
        ·exact oS rfl rfl rfl rfl rfl hb748
        ·exact oS rfl rfl rfl rfl rfl hb748
        ·exact oS rfl rfl rfl rfl rfl hb748
        ·exact oS rfl rfl rfl rfl rfl hb748
        ·exact oS rfl rfl rfl rfl rfl hb748
        ·exact oS rfl rfl rfl rfl rfl hb748
        ·exact oI rfl fun h => yl_pick_t rfl (h.dt 1 43 rfl rfl rfl) hb748 rfl kI
        ·exact oI rfl fun h => yl_assign rfl (h.dt 9 51 rfl rfl rfl) kI
        ·intro fl808 fh809 L805 w806 hp807
         have hE810 := hp807.ex
         have hE810z := Ex.size hE810
         refine SeqR.done (bn (tn (CW.sub (Sub.cons (d := 0) (hp807.old 0 _ rfl rfl) (Sub.cons (d := 1) (hp807.old 1 _ rfl rfl) (Sub.cons (d := 5) (hp807.old 5 _ rfl rfl) (Sub.cons (d := 6) (hp807.nt 10 6 rfl rfl rfl) (Sub.cons (d := 7) (hp807.old 7 _ rfl rfl) (Sub.cons (d := 19) (hp807.old 19 _ rfl rfl) (Sub.cons (d := 20) (hp807.old 20 _ rfl rfl) (Sub.cons (d := 21) (hp807.old 21 _ rfl rfl) (Sub.cons (d := 22) (hp807.old 22 _ rfl rfl) (Sub.cons (d := 25) (hp807.old 25 _ rfl rfl) (Sub.cons (d := 26) (hp807.old 26 _ rfl rfl) (Sub.cons (d := 27) (hp807.old 27 _ rfl rfl) (Sub.cons (d := 28) (hp807.old 28 _ rfl rfl) (Sub.cons (d := 29) (hp807.old 29 _ rfl rfl) (Sub.cons (d := 30) (hp807.old 30 _ rfl rfl) (Sub.cons (d := 31) (hp807.old 31 _ rfl rfl) (Sub.cons (d := 32) (hp807.old 32 _ rfl rfl) (Sub.cons (d := 33) (hp807.old 33 _ rfl rfl) (Sub.cons (d := 34) (hp807.old 34 _ rfl rfl) (Sub.cons (d := 44) (hp807.nt 2 44 rfl rfl rfl) (Sub.cons (d := 45) (hp807.nt 3 45 rfl rfl rfl) (Sub.cons (d := 46) (hp807.nt 4 46 rfl rfl rfl) (Sub.cons (d := 47) (hp807.nt 5 47 rfl rfl rfl) (Sub.cons (d := 48) (hp807.nt 6 48 rfl rfl rfl) (Sub.cons (d := 49) (hp807.nt 7 49 rfl rfl rfl) (Sub.cons (d := 50) (hp807.nt 8 50 rfl rfl rfl) (Sub.nil _))))))))))))))))))))))))))) (CW.region (sd rfl (yl_move rfl rfl (sd rfl (yl_inc rfl rfl rfl (by omega) (sd rfl (yl_assign rfl rfl (SeqR.done ?_)))))))))))
         refine tn ?_
         have hB837 : B_s_l3Bytes_1 p_s p_more k5 k715 (x716) = .cont (true) := by simp only [B_s_l3Bytes_1, hb21, hb714, hb748, cL]
         exact ⟨p_more.length - (k715 + 1), by omega, k715 + 1, true, rfl, hlt747, (by omega), rfl, rfl, rfl, rfl, rfl, rfl, rfl, rfl, rfl, rfl, rfl, rfl, rfl, rfl, rfl, rfl, rfl, rfl, rfl, (Ex.trans hf745 hE810), (loopM.cont hlt747 hB837).symm.trans hI724⟩
       ·refine CW.drawsI 11 (vgetI ([.bool (x716), .bool (x716), .string (bs (p_s)), .int .i64 ((k5 : Int)), .int .u8 (((p_s.getD k5 0).toNat : Int)), .string (bs (p_more)), .int .i64 ((k715 : Int)), .int .u8 (((p_more.getD k715 0).toNat : Int)), .bool (decide (((p_s.getD k5 0).toNat : Int) = ((p_more.getD k715 0).toNat : Int))), .bool (decide (((p_s.getD k5 0).toNat : Int) = ((p_more.getD k715 0).toNat : Int))), .bool (decide (((p_s.getD k5 0).toNat : Int) = ((p_more.getD k715 0).toNat : Int)))].map DetI)) Tryz.follows rfl rfl rfl rfl rfl rfl (vgetI_stable (stD _)) ⟨?_, ?_, ?_, ?_, ?_, ?_, ?_, ?_, ?_, ?_, ?_, trivial⟩ ?_
        ·exact oI rfl fun h => yl_move rfl (h.old 6 _ rfl rfl) kI
        ·exact oI rfl fun h => yl_move rfl (h.dt 0 42 rfl rfl rfl) kI
        ·exact oW rfl rfl rfl rfl hb748 fun h => yl_move rfl (h.old 0 _ rfl rfl) kI
        ·exact oW rfl rfl rfl rfl hb748 fun h => yl_move rfl (h.old 5 _ rfl rfl) kI
        ·intro L861 w862 hi863
         have hE864 := hi863.ex
         have hE864z := Ex.size hE864
         exact OpR.want rfl rfl (hi863.dt 1 43 rfl rfl rfl) hb748 (Yl.sameI (yl_sindexN un9 (a := p_s) rfl (hi863.dt 2 44 rfl rfl rfl) (hi863.dt 3 45 rfl rfl rfl) (by first | omega | assumption | (simp only [wI] at *; omega)) kI))
        ·exact oW rfl rfl rfl rfl hb748 fun h => yl_move rfl (h.old 1 _ rfl rfl) kI
        ·exact oW rfl rfl rfl rfl hb748 fun h => yl_move rfl (h.old 7 _ rfl rfl) kI
        ·intro L880 w881 hi882
         have hE883 := hi882.ex
         have hE883z := Ex.size hE883
         exact OpR.want rfl rfl (hi882.dt 1 43 rfl rfl rfl) hb748 (Yl.sameI (yl_sindexN un9 (a := p_more) rfl (hi882.dt 5 47 rfl rfl rfl) (hi882.dt 6 48 rfl rfl rfl) (by first | omega | assumption | (simp only [wI] at *; omega)) kI))
        ·exact oW rfl rfl rfl rfl hb748 fun h => yl_eql rfl (h.dt 4 46 rfl rfl rfl) (h.dt 7 49 rfl rfl rfl) kI
        ·exact oI rfl fun h => yl_pick_f rfl (h.dt 1 43 rfl rfl rfl) hb748 (h.dt 8 50 rfl rfl rfl) kI
        ·exact oI rfl fun h => yl_assign rfl (h.dt 9 51 rfl rfl rfl) kI
        ·intro fl908 fh909 L905 w906 hp907
         have hE910 := hp907.ex
         have hE910z := Ex.size hE910
         refine SeqR.done (bn (tn (CW.sub (Sub.cons (d := 0) (hp907.old 0 _ rfl rfl) (Sub.cons (d := 1) (hp907.old 1 _ rfl rfl) (Sub.cons (d := 5) (hp907.old 5 _ rfl rfl) (Sub.cons (d := 6) (hp907.nt 10 6 rfl rfl rfl) (Sub.cons (d := 7) (hp907.old 7 _ rfl rfl) (Sub.cons (d := 19) (hp907.old 19 _ rfl rfl) (Sub.cons (d := 20) (hp907.old 20 _ rfl rfl) (Sub.cons (d := 21) (hp907.old 21 _ rfl rfl) (Sub.cons (d := 22) (hp907.old 22 _ rfl rfl) (Sub.cons (d := 25) (hp907.old 25 _ rfl rfl) (Sub.cons (d := 26) (hp907.old 26 _ rfl rfl) (Sub.cons (d := 27) (hp907.old 27 _ rfl rfl) (Sub.cons (d := 28) (hp907.old 28 _ rfl rfl) (Sub.cons (d := 29) (hp907.old 29 _ rfl rfl) (Sub.cons (d := 30) (hp907.old 30 _ rfl rfl) (Sub.cons (d := 31) (hp907.old 31 _ rfl rfl) (Sub.cons (d := 32) (hp907.old 32 _ rfl rfl) (Sub.cons (d := 33) (hp907.old 33 _ rfl rfl) (Sub.cons (d := 34) (hp907.old 34 _ rfl rfl) (Sub.cons (d := 44) (hp907.nt 2 44 rfl rfl rfl) (Sub.cons (d := 45) (hp907.nt 3 45 rfl rfl rfl) (Sub.cons (d := 46) (hp907.nt 4 46 rfl rfl rfl) (Sub.cons (d := 47) (hp907.nt 5 47 rfl rfl rfl) (Sub.cons (d := 48) (hp907.nt 6 48 rfl rfl rfl) (Sub.cons (d := 49) (hp907.nt 7 49 rfl rfl rfl) (Sub.cons (d := 50) (hp907.nt 8 50 rfl rfl rfl) (Sub.nil _))))))))))))))))))))))))))) (CW.region (sd rfl (yl_move rfl rfl (sd rfl (yl_inc rfl rfl rfl (by omega) (sd rfl (yl_assign rfl rfl (SeqR.done ?_)))))))))))
         refine tn ?_
         have hB937 : B_s_l3Bytes_1 p_s p_more k5 k715 (x716) = .cont (decide (((p_s.getD k5 0).toNat : Int) = ((p_more.getD k715 0).toNat : Int))) := by simp only [B_s_l3Bytes_1, hb21, hb714, hb748, cL]
         exact ⟨p_more.length - (k715 + 1), by omega, k715 + 1, decide (((p_s.getD k5 0).toNat : Int) = ((p_more.getD k715 0).toNat : Int)), rfl, hlt747, (by omega), rfl, rfl, rfl, rfl, rfl, rfl, rfl, rfl, rfl, rfl, rfl, rfl, rfl, rfl, rfl, rfl, rfl, rfl, rfl, (Ex.trans hf745 hE910), (loopM.cont hlt747 hB937).symm.trans hI724⟩
      ·refine CW.seq (CW.seq (CW.region (sd rfl (yl_move rfl rfl (sd rfl (yl_move rfl rfl (sd rfl (yl_slen un9 (a := p_more) rfl rfl (sd rfl (yl_lss rfl rfl rfl (dn ?_)))))))))))
       refine CW.cond_f rfl (lt_f hlt747) (CW.exit (tx (tx ?_)))
       have hL939 : loopM (B_s_l3Bytes_1 p_s p_more k5) (p_more.length - 0) 0 (decide (((p_s.getD k5 0).toNat : Int) ≤ 57)) = .done (x716) := hI724.symm.trans (loopM.stop hlt747)
       refine bx (tn (CW.seq (CW.region (sd rfl (yl_move rfl rfl (sd rfl (yl_not rfl rfl (dn (bcase (x716) (fun hb940 => ?_) (fun hb940 => ?_))))))))))
       ·refine CW.cond_f rfl (not_t hb940) (CW.skip (bn (tn (CW.region (sd rfl (yl_move rfl rfl (sd rfl (yl_inc rfl rfl rfl (by omega) (sd rfl (yl_assign rfl rfl (SeqR.done ?_)))))))))))
        refine tn ?_
        have hB941 : B_s_l3Bytes_0 p_s p_more k5 () = .cont () := by simp only [B_s_l3Bytes_0, hb21, hb714, hb940, hL939, cL]
        exact ⟨p_s.length - (k5 + 1), by omega, k5 + 1, rfl, hlt20, (by omega), rfl, rfl, rfl, hf745, (loopM.cont hlt20 hB941).symm.trans hI13⟩
       ·refine CW.cond_t rfl (not_f hb940) (CW.seq (CW.region (sd rfl (yl_assign rfl rfl (dn (CW.ret (br (tr ?_))))))))
        refine tr ?_
        have hB943 : B_s_l3Bytes_0 p_s p_more k5 () = .ret false := by simp only [B_s_l3Bytes_0, hb21, hb714, hb940, hL939, cL]
        have hL942 : loopM (B_s_l3Bytes_0 p_s p_more) (p_s.length - 0) 0 () = .ret false := hI13.symm.trans (loopM.ret hlt20 hB943)
        refine br (tr (rr rfl (.cons rfl .nil) ?_))
        have hM944 : (s_l3Bytes p_s p_more) = (false) := by simp only [s_l3Bytes, hb21, hb714, hb940, hL939, hL942, cL]
        rw [hM944]
        exact ⟨rfl, hf745⟩
    ·have hb714p := dec_f hb714
     refine sz rfl rfl hb714 (sz rfl rfl hb714 (sz rfl rfl hb714 (sz rfl rfl hb714 (sy rfl rfl rfl (yl_pick_f rfl rfl hb714 rfl (sd rfl (yl_pick_f rfl rfl rfl rfl (sd rfl (yl_assign rfl rfl (dn ?_))))))))))
     refine CW.seq (CW.seq (CW.region (sd rfl (yl_assign rfl rfl (dn (CW.block (CW.loop (fun m947 L948 w949 => ∃ (k945 : Nat) (x946 : Bool), m947 = p_more.length - k945 ∧ k945 ≤ p_more.length ∧ w11.heap.size ≤ w949.heap.size ∧ lkp L948 0 = some (.string (bs (p_s))) ∧ lkp L948 1 = some (.string (bs (p_more))) ∧ lkp L948 5 = some (.int .i64 ((k5 : Int))) ∧ lkp L948 6 = some (.bool (x946)) ∧ lkp L948 7 = some (.int .i64 ((k945 : Int))) ∧ lkp L948 19 = some (undef) ∧ lkp L948 20 = some (undef) ∧ lkp L948 21 = some (undef) ∧ lkp L948 22 = some (undef) ∧ lkp L948 25 = some (.string (bs (p_s))) ∧ lkp L948 26 = some (.int .i64 ((k5 : Int))) ∧ lkp L948 27 = some (.int .u8 (((p_s.getD k5 0).toNat : Int))) ∧ lkp L948 28 = some (.bool (decide (48 ≤ ((p_s.getD k5 0).toNat : Int)))) ∧ lkp L948 29 = some (.bool (decide (48 ≤ ((p_s.getD k5 0).toNat : Int)))) ∧ lkp L948 30 = some (undef) ∧ lkp L948 31 = some (undef) ∧ lkp L948 32 = some (undef) ∧ lkp L948 33 = some (undef) ∧ lkp L948 34 = some (.bool (false)) ∧ Ex w w949 ∧ loopM (B_s_l3Bytes_1 p_s p_more k5) (p_more.length - k945) k945 (x946) = loopM (B_s_l3Bytes_1 p_s p_more k5) (p_more.length - 0) 0 (false)) (p_more.length - 0) ?_ ?_)))))))
     ·exact ⟨0, false, rfl, (by omega), Nat.le_refl _, rfl, rfl, rfl, rfl, rfl, rfl, rfl, rfl, rfl, rfl, rfl, rfl, rfl, rfl, rfl, rfl, rfl, rfl, rfl, hf18, rfl⟩
     ·rintro m950 L951 w952 ⟨k945, x946, rfl, hk953, hsz955, hl956, hl957, hl958, hl959, hl960, hl961, hl962, hl963, hl964, hl965, hl966, hl967, hl968, hl969, hl970, hl971, hl972, hl973, hl974, hf975, hI954⟩
      refine CW.sub (Sub.cons hl956 (Sub.cons hl957 (Sub.cons hl958 (Sub.cons hl959 (Sub.cons hl960 (Sub.cons hl961 (Sub.cons hl962 (Sub.cons hl963 (Sub.cons hl964 (Sub.cons hl965 (Sub.cons hl966 (Sub.cons hl967 (Sub.cons hl968 (Sub.cons hl969 (Sub.cons hl970 (Sub.cons hl971 (Sub.cons hl972 (Sub.cons hl973 (Sub.cons hl974 (Sub.nil _)))))))))))))))))))) ?_
      have hf975z := Ex.size hf975
      have hbg976 : p_more.length ≤ 1073741824 := o2
      rcases Nat.lt_or_ge k945 p_more.length with hlt977 | hlt977
      ·refine CW.seq (CW.seq (CW.region (sd rfl (yl_move rfl rfl (sd rfl (yl_move rfl rfl (sd rfl (yl_slen un9 (a := p_more) rfl rfl (sd rfl (yl_lss rfl rfl rfl (dn ?_)))))))))))
       refine CW.cond_t rfl (lt_t hlt977) (CW.skip (tn (CW.seq (CW.block (bcase (x946) (fun hb978 => ?_) (fun hb978 => ?_))))))
       ·refine CW.drawsI 11 (vgetI ([.bool (x946), .bool (x946), undef, undef, undef, undef, undef, undef, undef, .bool (true), .bool (true)].map DetI)) Tryz.follows rfl rfl rfl rfl rfl rfl (vgetI_stable (stD _)) ⟨?_, ?_, ?_, ?_, ?_, ?_, ?_, ?_, ?_, ?_, ?_, trivial⟩ ?_
        ·exact oI rfl fun h => yl_move rfl (h.old 6 _ rfl rfl) kI
        ·exact oI rfl fun h => yl_move rfl (h.dt 0 42 rfl rfl rfl) kI
        ·exact oS rfl rfl rfl rfl rfl hb978
        ·exact oS rfl rfl rfl rfl rfl hb978
        ·exact oS rfl rfl rfl rfl rfl hb978
        ·exact oS rfl rfl rfl rfl rfl hb978
        ·exact oS rfl rfl rfl rfl rfl hb978
        ·exact oS rfl rfl rfl rfl rfl hb978
        ·exact oS rfl rfl rfl rfl rfl hb978
        ·exact oI rfl fun h => yl_pick_t rfl (h.dt 1 43 rfl rfl rfl) hb978 rfl kI
        ·exact oI rfl fun h => yl_assign rfl (h.dt 9 51 rfl rfl rfl) kI
        ·intro fl1038 fh1039 L1035 w1036 hp1037
         have hE1040 := hp1037.ex
         have hE1040z := Ex.size hE1040
         refine SeqR.done (bn (tn (CW.sub (Sub.cons (d := 0) (hp1037.old 0 _ rfl rfl) (Sub.cons (d := 1) (hp1037.old 1 _ rfl rfl) (Sub.cons (d := 5) (hp1037.old 5 _ rfl rfl) (Sub.cons (d := 6) (hp1037.nt 10 6 rfl rfl rfl) (Sub.cons (d := 7) (hp1037.old 7 _ rfl rfl) (Sub.cons (d := 19) (hp1037.old 19 _ rfl rfl) (Sub.cons (d := 20) (hp1037.old 20 _ rfl rfl) (Sub.cons (d := 21) (hp1037.old 21 _ rfl rfl) (Sub.cons (d := 22) (hp1037.old 22 _ rfl rfl) (Sub.cons (d := 25) (hp1037.old 25 _ rfl rfl) (Sub.cons (d := 26) (hp1037.old 26 _ rfl rfl) (Sub.cons (d := 27) (hp1037.old 27 _ rfl rfl) (Sub.cons (d := 28) (hp1037.old 28 _ rfl rfl) (Sub.cons (d := 29) (hp1037.old 29 _ rfl rfl) (Sub.cons (d := 30) (hp1037.old 30 _ rfl rfl) (Sub.cons (d := 31) (hp1037.old 31 _ rfl rfl) (Sub.cons (d := 32) (hp1037.old 32 _ rfl rfl) (Sub.cons (d := 33) (hp1037.old 33 _ rfl rfl) (Sub.cons (d := 34) (hp1037.old 34 _ rfl rfl) (Sub.cons (d := 44) (hp1037.nt 2 44 rfl rfl rfl) (Sub.cons (d := 45) (hp1037.nt 3 45 rfl rfl rfl) (Sub.cons (d := 46) (hp1037.nt 4 46 rfl rfl rfl) (Sub.cons (d := 47) (hp1037.nt 5 47 rfl rfl rfl) (Sub.cons (d := 48) (hp1037.nt 6 48 rfl rfl rfl) (Sub.cons (d := 49) (hp1037.nt 7 49 rfl rfl rfl) (Sub.cons (d := 50) (hp1037.nt 8 50 rfl rfl rfl) (Sub.nil _))))))))))))))))))))))))))) (CW.region (sd rfl (yl_move rfl rfl (sd rfl (yl_inc rfl rfl rfl (by omega) (sd rfl (yl_assign rfl rfl (SeqR.done ?_)))))))))))
         refine tn ?_
         have hB1067 : B_s_l3Bytes_1 p_s p_more k5 k945 (x946) = .cont (true) := by simp only [B_s_l3Bytes_1, hb21, hb714, hb978, cL]
         exact ⟨p_more.length - (k945 + 1), by omega, k945 + 1, true, rfl, hlt977, (by omega), rfl, rfl, rfl, rfl, rfl, rfl, rfl, rfl, rfl, rfl, rfl, rfl, rfl, rfl, rfl, rfl, rfl, rfl, rfl, (Ex.trans hf975 hE1040), (loopM.cont hlt977 hB1067).symm.trans hI954⟩
       ·refine CW.drawsI 11 (vgetI ([.bool (x946), .bool (x946), .string (bs (p_s)), .int .i64 ((k5 : Int)), .int .u8 (((p_s.getD k5 0).toNat : Int)), .string (bs (p_more)), .int .i64 ((k945 : Int)), .int .u8 (((p_more.getD k945 0).toNat : Int)), .bool (decide (((p_s.getD k5 0).toNat : Int) = ((p_more.getD k945 0).toNat : Int))), .bool (decide (((p_s.getD k5 0).toNat : Int) = ((p_more.getD k945 0).toNat : Int))), .bool (decide (((p_s.getD k5 0).toNat : Int) = ((p_more.getD k945 0).toNat : Int)))].map DetI)) Tryz.follows rfl rfl rfl rfl rfl rfl (vgetI_stable (stD _)) ⟨?_, ?_, ?_, ?_, ?_, ?_, ?_, ?_, ?_, ?_, ?_, trivial⟩ ?_
        ·exact oI rfl fun h => yl_move rfl (h.old 6 _ rfl rfl) kI
        ·exact oI rfl fun h => yl_move rfl (h.dt 0 42 rfl rfl rfl) kI
        ·exact oW rfl rfl rfl rfl hb978 fun h => yl_move rfl (h.old 0 _ rfl rfl) kI
        ·exact oW rfl rfl rfl rfl hb978 fun h => yl_move rfl (h.old 5 _ rfl rfl) kI
        ·intro L1091 w1092 hi1093
         have hE1094 := hi1093.ex
         have hE1094z := Ex.size hE1094
         exact OpR.want rfl rfl (hi1093.dt 1 43 rfl rfl rfl) hb978 (Yl.sameI (yl_sindexN un9 (a := p_s) rfl (hi1093.dt 2 44 rfl rfl rfl) (hi1093.dt 3 45 rfl rfl rfl) (by first | omega | assumption | (simp only [wI] at *; omega)) kI))
        ·exact oW rfl rfl rfl rfl hb978 fun h => yl_move rfl (h.old 1 _ rfl rfl) kI
        ·exact oW rfl rfl rfl rfl hb978 fun h => yl_move rfl (h.old 7 _ rfl rfl) kI
        ·intro L1110 w1111 hi1112
         have hE1113 := hi1112.ex
         have hE1113z := Ex.size hE1113
         exact OpR.want rfl rfl (hi1112.dt 1 43 rfl rfl rfl) hb978 (Yl.sameI (yl_sindexN un9 (a := p_more) rfl (hi1112.dt 5 47 rfl rfl rfl) (hi1112.dt 6 48 rfl rfl rfl) (by first | omega | assumption | (simp only [wI] at *; omega)) kI))
        ·exact oW rfl rfl rfl rfl hb978 fun h => yl_eql rfl (h.dt 4 46 rfl rfl rfl) (h.dt 7 49 rfl rfl rfl) kI
        ·exact oI rfl fun h => yl_pick_f rfl (h.dt 1 43 rfl rfl rfl) hb978 (h.dt 8 50 rfl rfl rfl) kI
        ·exact oI rfl fun h => yl_assign rfl (h.dt 9 51 rfl rfl rfl) kI
        ·intro fl1138 fh1139 L1135 w1136 hp1137
         have hE1140 := hp1137.ex
         have hE1140z := Ex.size hE1140
         refine SeqR.done (bn (tn (CW.sub (Sub.cons (d := 0) (hp1137.old 0 _ rfl rfl) (Sub.cons (d := 1) (hp1137.old 1 _ rfl rfl) (Sub.cons (d := 5) (hp1137.old 5 _ rfl rfl) (Sub.cons (d := 6) (hp1137.nt 10 6 rfl rfl rfl) (Sub.cons (d := 7) (hp1137.old 7 _ rfl rfl) (Sub.cons (d := 19) (hp1137.old 19 _ rfl rfl) (Sub.cons (d := 20) (hp1137.old 20 _ rfl rfl) (Sub.cons (d := 21) (hp1137.old 21 _ rfl rfl) (Sub.cons (d := 22) (hp1137.old 22 _ rfl rfl) (Sub.cons (d := 25) (hp1137.old 25 _ rfl rfl) (Sub.cons (d := 26) (hp1137.old 26 _ rfl rfl) (Sub.cons (d := 27) (hp1137.old 27 _ rfl rfl) (Sub.cons (d := 28) (hp1137.old 28 _ rfl rfl) (Sub.cons (d := 29) (hp1137.old 29 _ rfl rfl) (Sub.cons (d := 30) (hp1137.old 30 _ rfl rfl) (Sub.cons (d := 31) (hp1137.old 31 _ rfl rfl) (Sub.cons (d := 32) (hp1137.old 32 _ rfl rfl) (Sub.cons (d := 33) (hp1137.old 33 _ rfl rfl) (Sub.cons (d := 34) (hp1137.old 34 _ rfl rfl) (Sub.cons (d := 44) (hp1137.nt 2 44 rfl rfl rfl) (Sub.cons (d := 45) (hp1137.nt 3 45 rfl rfl rfl) (Sub.cons (d := 46) (hp1137.nt 4 46 rfl rfl rfl) (Sub.cons (d := 47) (hp1137.nt 5 47 rfl rfl rfl) (Sub.cons (d := 48) (hp1137.nt 6 48 rfl rfl rfl) (Sub.cons (d := 49) (hp1137.nt 7 49 rfl rfl rfl) (Sub.cons (d := 50) (hp1137.nt 8 50 rfl rfl rfl) (Sub.nil _))))))))))))))))))))))))))) (CW.region (sd rfl (yl_move rfl rfl (sd rfl (yl_inc rfl rfl rfl (by omega) (sd rfl (yl_assign rfl rfl (SeqR.done ?_)))))))))))
         refine tn ?_
         have hB1167 : B_s_l3Bytes_1 p_s p_more k5 k945 (x946) = .cont (decide (((p_s.getD k5 0).toNat : Int) = ((p_more.getD k945 0).toNat : Int))) := by simp only [B_s_l3Bytes_1, hb21, hb714, hb978, cL]
         exact ⟨p_more.length - (k945 + 1), by omega, k945 + 1, decide (((p_s.getD k5 0).toNat : Int) = ((p_more.getD k945 0).toNat : Int)), rfl, hlt977, (by omega), rfl, rfl, rfl, rfl, rfl, rfl, rfl, rfl, rfl, rfl, rfl, rfl, rfl, rfl, rfl, rfl, rfl, rfl, rfl, (Ex.trans hf975 hE1140), (loopM.cont hlt977 hB1167).symm.trans hI954⟩
      ·refine CW.seq (CW.seq (CW.region (sd rfl (yl_move rfl rfl (sd rfl (yl_move rfl rfl (sd rfl (yl_slen un9 (a := p_more) rfl rfl (sd rfl (yl_lss rfl rfl rfl (dn ?_)))))))))))
       refine CW.cond_f rfl (lt_f hlt977) (CW.exit (tx (tx ?_)))
       have hL1169 : loopM (B_s_l3Bytes_1 p_s p_more k5) (p_more.length - 0) 0 (false) = .done (x946) := hI954.symm.trans (loopM.stop hlt977)
       refine bx (tn (CW.seq (CW.region (sd rfl (yl_move rfl rfl (sd rfl (yl_not rfl rfl (dn (bcase (x946) (fun hb1170 => ?_) (fun hb1170 => ?_))))))))))
       ·refine CW.cond_f rfl (not_t hb1170) (CW.skip (bn (tn (CW.region (sd rfl (yl_move rfl rfl (sd rfl (yl_inc rfl rfl rfl (by omega) (sd rfl (yl_assign rfl rfl (SeqR.done ?_)))))))))))
        refine tn ?_
        have hB1171 : B_s_l3Bytes_0 p_s p_more k5 () = .cont () := by simp only [B_s_l3Bytes_0, hb21, hb714, hb1170, hL1169, cL]
        exact ⟨p_s.length - (k5 + 1), by omega, k5 + 1, rfl, hlt20, (by omega), rfl, rfl, rfl, hf975, (loopM.cont hlt20 hB1171).symm.trans hI13⟩
       ·refine CW.cond_t rfl (not_f hb1170) (CW.seq (CW.region (sd rfl (yl_assign rfl rfl (dn (CW.ret (br (tr ?_))))))))
        refine tr ?_
        have hB1173 : B_s_l3Bytes_0 p_s p_more k5 () = .ret false := by simp only [B_s_l3Bytes_0, hb21, hb714, hb1170, hL1169, cL]
        have hL1172 : loopM (B_s_l3Bytes_0 p_s p_more) (p_s.length - 0) 0 () = .ret false := hI13.symm.trans (loopM.ret hlt20 hB1173)
        refine br (tr (rr rfl (.cons rfl .nil) ?_))
        have hM1174 : (s_l3Bytes p_s p_more) = (false) := by simp only [s_l3Bytes, hb21, hb714, hb1170, hL1169, hL1172, cL]
        rw [hM1174]
        exact ⟨rfl, hf975⟩
  ·refine CW.seq (CW.seq (CW.region (sd rfl (yl_move rfl rfl (sd rfl (yl_move rfl rfl (sd rfl (yl_slen un9 (a := p_s) rfl rfl (sd rfl (yl_lss rfl rfl rfl (dn ?_)))))))))))
   refine CW.cond_f rfl (lt_f hlt20) (CW.exit (tx (tx ?_)))
   have hL1175 : loopM (B_s_l3Bytes_0 p_s p_more) (p_s.length - 0) 0 () = .done () := hI13.symm.trans (loopM.stop hlt20)
   refine bx (tn (CW.seq (CW.region (sd rfl (yl_assign rfl rfl (dn (CW.ret (rr rfl (.cons rfl .nil) ?_))))))))
   have hM1176 : (s_l3Bytes p_s p_more) = (true) := by simp only [s_l3Bytes, hL1175, cL]
   rw [hM1176]
   exact ⟨rfl, hf18⟩
theorem c_s_l3Key {w : World} (p_s : Str) (o1 : okS p_s) : Cal Tryz.prog 107 #[.string (bs (p_s))] w fun v w' => v = .bool ((s_l3Key p_s)) ∧ Ex w w' := by
 refine Cal.of func107 rfl ntmps107 rfl (CW.seq (CW.region (sd rfl (yl_assign rfl rfl (dn (CW.seq (CW.region (sd rfl (yl_move rfl rfl ?_)))))))))
 refine sd rfl (yl_slen un9 (a := p_s) rfl rfl (sd rfl (yl_call en61 rfl (oc rfl (oc rfl (oc rfl oz))) (Cal.mono (c_s_l1In (p_s.length : Int) 1 12) ?_))))
 rintro v4 w3 ⟨rfl, hE5⟩
 refine sd rfl (yl_move rfl rfl (bcase (s_l1In (p_s.length : Int) 1 12) (fun hb6 => ?_) (fun hb6 => ?_)))
 ·have hb6p := f_l1In hb6
  refine sy rfl rfl hb6 (yl_move rfl rfl (sy rfl rfl hb6 (yl_call en136 rfl (oc rfl (oc rfl oz)) (Cal.mono (c_s_l3Bytes p_s ([46, 47] : Str) o1 (okS.lit rfl)) ?_))))
  rintro v8 w7 ⟨rfl, hE9⟩
  refine sd rfl (yl_pick_t rfl rfl hb6 rfl (sd rfl (yl_assign rfl rfl (dn (CW.ret (rr rfl (.cons rfl .nil) ?_))))))
  have hM10 : (s_l3Key p_s) = ((s_l3Bytes p_s ([46, 47] : Str))) := by simp only [s_l3Key, hb6, cL]
  rw [hM10]
  exact ⟨rfl, (Ex.trans (Ex.trans (Ex.refl w) hE5) hE9)⟩
 ·refine sz rfl rfl hb6 (sz rfl rfl hb6 (sd rfl (yl_pick_f rfl rfl hb6 rfl (sd rfl (yl_assign rfl rfl (dn (CW.ret (rr rfl (.cons rfl .nil) ?_))))))))
  have hM13 : (s_l3Key p_s) = (false) := by simp only [s_l3Key, hb6, cL]
  rw [hM13]
  exact ⟨rfl, (Ex.trans (Ex.refl w) hE5)⟩
theorem c_s_l3Val {w : World} (p_s : Str) (o1 : okS p_s) : Cal Tryz.prog 126 #[.string (bs (p_s))] w fun v w' => v = .bool ((s_l3Val p_s)) ∧ Ex w w' := by
 refine Cal.of func126 rfl ntmps126 rfl (CW.seq (CW.region (sd rfl (yl_assign rfl rfl (dn (CW.seq (CW.region (sd rfl (yl_move rfl rfl ?_)))))))))
 refine sd rfl (yl_slen un9 (a := p_s) rfl rfl (sd rfl (yl_leq rfl rfl rfl (sd rfl (yl_move rfl rfl (bcase (decide ((p_s.length : Int) ≤ 24)) (fun hb3 => ?_) (fun hb3 => ?_)))))))
 ·have hb3p := dec_t hb3
  refine sy rfl rfl hb3 (yl_move rfl rfl (sy rfl rfl hb3 (yl_call en136 rfl (oc rfl (oc rfl oz)) (Cal.mono (c_s_l3Bytes p_s ([46, 45, 44, 95] : Str) o1 (okS.lit rfl)) ?_))))
  rintro v5 w4 ⟨rfl, hE6⟩
  refine sd rfl (yl_pick_t rfl rfl hb3 rfl (sd rfl (yl_assign rfl rfl (dn (CW.ret (rr rfl (.cons rfl .nil) ?_))))))
  have hM7 : (s_l3Val p_s) = ((s_l3Bytes p_s ([46, 45, 44, 95] : Str))) := by simp only [s_l3Val, hb3, cL]
  rw [hM7]
  exact ⟨rfl, (Ex.trans (Ex.refl w) hE6)⟩
 ·have hb3p := dec_f hb3
  refine sz rfl rfl hb3 (sz rfl rfl hb3 (sd rfl (yl_pick_f rfl rfl hb3 rfl (sd rfl (yl_assign rfl rfl (dn (CW.ret (rr rfl (.cons rfl .nil) ?_))))))))
  have hM9 : (s_l3Val p_s) = (false) := by simp only [s_l3Val, hb3, cL]
  rw [hM9]
  exact ⟨rfl, (Ex.refl w)⟩
theorem c_s_l3Write {w : World} (p_key : Str) (p_val : Str) (p_gone : Bool) (o1 : okS p_key) (o2 : okS p_val) : Cal Tryz.prog 94 #[.string (bs (p_key)), .string (bs (p_val)), .bool (p_gone)] w fun v w' => v = .bool ((s_l3Write p_key p_val p_gone)) ∧ Ex w w' := by
 refine Cal.of func94 rfl ntmps94 rfl (CW.seq (CW.region (sd rfl (yl_assign rfl rfl (dn (CW.seq (CW.region (sd rfl (yl_move rfl rfl ?_)))))))))
 refine sd rfl (yl_call en107 rfl (oc rfl oz) (Cal.mono (c_s_l3Key p_key o1) ?_))
 rintro v6 w5 ⟨rfl, hE7⟩
 refine sd rfl (yl_move rfl rfl (bcase (s_l3Key p_key) (fun hb8 => ?_) (fun hb8 => ?_)))
 ·refine sy rfl rfl hb8 (yl_move rfl rfl (sy rfl rfl hb8 (yl_call en126 rfl (oc rfl oz) (Cal.mono (c_s_l3Val p_val o2) ?_))))
  rintro v10 w9 ⟨rfl, hE11⟩
  refine sd rfl (yl_pick_t rfl rfl hb8 rfl (sd rfl (yl_move rfl rfl (bcase (s_l3Val p_val) (fun hb12 => ?_) (fun hb12 => ?_)))))
  ·refine sy rfl rfl hb12 (yl_move rfl rfl (sy rfl rfl hb12 (yl_not rfl rfl (sy rfl rfl hb12 (yl_move rfl rfl (bcase (p_gone) (fun hb13 => ?_) (fun hb13 => ?_)))))))
   ·refine sy rfl rfl (not_t hb13) (yl_move rfl rfl (sy rfl rfl (not_t hb13) (yl_seql (a := p_val) (b := ([] : Str)) rfl rfl rfl (sy rfl rfl hb12 (yl_pick_f rfl rfl (not_t hb13) rfl (sd rfl (yl_pick_t rfl rfl hb12 rfl (sd rfl (yl_assign rfl rfl (dn (CW.ret (rr rfl (.cons rfl .nil) ?_))))))))))))
    have hM14 : (s_l3Write p_key p_val p_gone) = (p_val == ([] : Str)) := by simp only [s_l3Write, hb8, hb12, hb13, cL]
    rw [hM14]
    exact ⟨rfl, (Ex.trans (Ex.trans (Ex.refl w) hE7) hE11)⟩
   ·refine sz rfl rfl (not_f hb13) (sz rfl rfl (not_f hb13) (sy rfl rfl hb12 (yl_pick_t rfl rfl (not_f hb13) rfl (sd rfl (yl_pick_t rfl rfl hb12 rfl (sd rfl (yl_assign rfl rfl (dn (CW.ret (rr rfl (.cons rfl .nil) ?_))))))))))
    have hM17 : (s_l3Write p_key p_val p_gone) = (true) := by simp only [s_l3Write, hb8, hb12, hb13, cL]
    rw [hM17]
    exact ⟨rfl, (Ex.trans (Ex.trans (Ex.refl w) hE7) hE11)⟩
  ·refine sz rfl rfl hb12 (sz rfl rfl hb12 (sz rfl rfl hb12 (sq rfl rfl (sq rfl rfl (sz rfl rfl hb12 (sd rfl (yl_pick_f rfl rfl hb12 rfl (sd rfl (yl_assign rfl rfl (SeqR.done ?_))))))))))
   refine tn (CW.ret (rr rfl (.cons rfl .nil) ?_))
   have hM20 : (s_l3Write p_key p_val p_gone) = (false) := by simp only [s_l3Write, hb8, hb12, cL]
   rw [hM20]
   exact ⟨rfl, (Ex.trans (Ex.trans (Ex.refl w) hE7) hE11)⟩
 ·refine sz rfl rfl hb8 (sz rfl rfl hb8 (sd rfl (yl_pick_f rfl rfl hb8 rfl (sd rfl (yl_move rfl rfl (sz rfl rfl rfl (sz rfl rfl rfl (sz rfl rfl rfl (sq rfl rfl (sq rfl rfl ?_))))))))))
  refine sz rfl rfl rfl (sd rfl (yl_pick_f rfl rfl rfl rfl (sd rfl (yl_assign rfl rfl (dn (CW.ret (rr rfl (.cons rfl .nil) ?_)))))))
  have hM23 : (s_l3Write p_key p_val p_gone) = (false) := by simp only [s_l3Write, hb8, cL]
  rw [hM23]
  exact ⟨rfl, (Ex.trans (Ex.refl w) hE7)⟩
theorem c_s_l3Writes {A1 : Option Addr} {c1 : Nat} {w : World} (p_l : List DWrite) (h1 : RdS w (Iv 0 w.heap.size) (RF e_Write) 3 A1 p_l.length c1 p_l) (o2 : (okL ok_Write) p_l) : Cal Tryz.prog 62 #[.slice A1 p_l.length c1] w fun v w' => v = .bool ((s_l3Writes p_l)) ∧ Ex w w' := by
 have hol3 := o2.1
 refine Cal.of func62 rfl ntmps62 rfl (CW.seq (CW.region (sd rfl (yl_assign rfl rfl (dn (CW.seq (CW.seq (CW.region ?_))))))))
 refine sd rfl (yl_move rfl rfl (sd rfl (yl_len un36 rfl rfl (sd rfl (yl_move rfl rfl (dn (CW.block (CW.loop (fun m24 L25 w26 => ∃ (k4 : Nat), m24 = p_l.length - k4 ∧ k4 ≤ p_l.length ∧ w.heap.size ≤ w26.heap.size ∧ lkp L25 0 = some (.slice A1 p_l.length c1) ∧ lkp L25 5 = some (.slice A1 p_l.length c1) ∧ lkp L25 6 = some (.int .i64 ((p_l.length : Int))) ∧ lkp L25 7 = some (.int .i64 ((k4 : Int))) ∧ RdS w26 (Iv 0 w.heap.size) (RF e_Write) 3 A1 p_l.length c1 p_l ∧ Ex w w26 ∧ loopM (B_s_l3Writes_0 p_l) (p_l.length - k4) k4 () = loopM (B_s_l3Writes_0 p_l) (p_l.length - 0) 0 ()) (p_l.length - 0) ?_ ?_))))))))
 ·exact ⟨0, rfl, (by omega), Nat.le_refl _, rfl, rfl, rfl, rfl, h1, (Ex.refl w), rfl⟩
 ·rintro m27 L28 w29 ⟨k4, rfl, hk30, hsz32, hl33, hl34, hl35, hl36, hf37, hf38, hI31⟩
  refine CW.sub (Sub.cons hl33 (Sub.cons hl34 (Sub.cons hl35 (Sub.cons hl36 (Sub.nil _))))) ?_
  have hf38z := Ex.size hf38
  have hbg39 := RdS.big hf37
  rcases Nat.lt_or_ge k4 p_l.length with hlt40 | hlt40
  ·refine CW.seq (CW.region (sd rfl (yl_lss rfl rfl rfl (dn (CW.seq (CW.cond_t rfl (lt_t hlt40) (CW.skip (tn ?_))))))))
   refine CW.seq (CW.block (CW.seq (CW.region (sd rfl (yl_move rfl rfl ?_)))))
   obtain ⟨eb41, eo41, _, eA41, _, ebl41, _, eR41, eC41⟩ := RdS.aD hf37 d_Write (i := k4)
   obtain rfl := eR41
   have eC41 : Cells w29 eb41 (eo41 + k4 * 3) [.string (bs ((p_l.getD k4 d_Write).Key)), .string (bs ((p_l.getD k4 d_Write).Val)), .bool ((p_l.getD k4 d_Write).Gone)] := eC41
   refine sd rfl (yl_ixN un36 ty75 rfl rfl rfl eA41 (sd rfl (yl_loadN ty75 rfl rfl eC41 rfl (sd rfl (yl_alloc ty75 (cs := [.string (bs (([] : Str))), .string (bs (([] : Str))), .bool (false)]) rfl rfl ?_)))))
   intro b42 w43 hs44 hz45 hB46 hE47
   refine sd rfl (yl_assign rfl rfl (SeqR.u rfl rfl (yl_store (vs := [.string (bs ((p_l.getD k4 d_Write).Key)), .string (bs ((p_l.getD k4 d_Write).Val)), .bool ((p_l.getD k4 d_Write).Gone)]) ty75 rfl rfl rfl rfl rfl rfl hB46 (Nat.le_of_ble_eq_true rfl) ?_)))
   intro w48 hB49 hO50
   have hB49 : Box w48 b42 75 [.string (bs ((p_l.getD k4 d_Write).Key)), .string (bs ((p_l.getD k4 d_Write).Val)), .bool ((p_l.getD k4 d_Write).Gone)] := hB49
   have hO50z := hO50.size
   refine dn (CW.seq (bcase (s_l3Write ((p_l.getD k4 d_Write).Key) ((p_l.getD k4 d_Write).Val) ((p_l.getD k4 d_Write).Gone)) (fun hb52 => ?_) (fun hb52 => ?_)))
   ·refine bcase (decide (0 < (k4 : Int))) (fun hb54 => ?_) (fun hb54 => ?_)
    ·have hb54p := dec_t hb54
     have q57 := RdS.only good_Write (RdS.ex good_Write hf37 hE47) hO50 (by simp only [Iv]; omega)
     obtain ⟨eb58, eo58, _, eA58, _, ebl58, _, eR58, eC58⟩ := RdS.atD q57 d_Write (i := (IntKind.wrap .i64 ((k4 : Int) - 1)).toNat) (by first | omega | assumption | (simp only [wI] at *; omega))
     obtain rfl := eR58
     have eC58 : Cells w48 eb58 (eo58 + ((IntKind.wrap .i64 ((k4 : Int) - 1)).toNat) * 3) [.string (bs ((p_l.getD ((IntKind.wrap .i64 ((k4 : Int) - 1)).toNat) d_Write).Key)), .string (bs ((p_l.getD ((IntKind.wrap .i64 ((k4 : Int) - 1)).toNat) d_Write).Val)), .bool ((p_l.getD ((IntKind.wrap .i64 ((k4 : Int) - 1)).toNat) d_Write).Gone)] := eC58
     refine CW.drawsI 23 (vgetI ([.pointer (some ⟨b42, 0 + 0, none⟩), .string (bs ((p_l.getD k4 d_Write).Key)), .pointer (some ⟨b42, 0 + 1, none⟩), .string (bs ((p_l.getD k4 d_Write).Val)), .pointer (some ⟨b42, 0 + 2, none⟩), .bool ((p_l.getD k4 d_Write).Gone), .bool ((s_l3Write ((p_l.getD k4 d_Write).Key) ((p_l.getD k4 d_Write).Val) ((p_l.getD k4 d_Write).Gone))), .bool (!(s_l3Write ((p_l.getD k4 d_Write).Key) ((p_l.getD k4 d_Write).Val) ((p_l.getD k4 d_Write).Gone))), .bool (!(s_l3Write ((p_l.getD k4 d_Write).Key) ((p_l.getD k4 d_Write).Val) ((p_l.getD k4 d_Write).Gone))), .int .i64 ((k4 : Int)), .bool (decide (0 < (k4 : Int))), .bool (decide (0 < (k4 : Int))), .slice A1 p_l.length c1, .int .i64 ((k4 : Int)), .int .i64 (IntKind.wrap .i64 ((k4 : Int) - 1)), .pointer (some ⟨eb58, eo58 + ((IntKind.wrap .i64 ((k4 : Int) - 1)).toNat) * 3, none⟩), .pointer (some ⟨eb58, eo58 + ((IntKind.wrap .i64 ((k4 : Int) - 1)).toNat) * 3 + 0, none⟩), .string (bs ((p_l.getD ((IntKind.wrap .i64 ((k4 : Int) - 1)).toNat) d_Write).Key)), .pointer (some ⟨b42, 0 + 0, none⟩), .string (bs ((p_l.getD k4 d_Write).Key)), .bool (!(sLt ((p_l.getD ((IntKind.wrap .i64 ((k4 : Int) - 1)).toNat) d_Write).Key) ((p_l.getD k4 d_Write).Key))), .bool (!(sLt ((p_l.getD ((IntKind.wrap .i64 ((k4 : Int) - 1)).toNat) d_Write).Key) ((p_l.getD k4 d_Write).Key))), .bool (!(sLt ((p_l.getD ((IntKind.wrap .i64 ((k4 : Int) - 1)).toNat) d_Write).Key) ((p_l.getD k4 d_Write).Key)))].map DetI)) Tryz.follows rfl rfl rfl rfl rfl rfl (vgetI_stable (stD _)) ⟨?_, ?_, ?_, ?_, ?_, ?_, ?_, ?_, ?_, ?_, ?_, ?_, ?_, ?_, ?_, ?_, ?_, ?_, ?_, ?_, ?_, ?_, ?_, trivial⟩ ?_
     ·exact oI rfl fun h => yl_fieldAddr fd75_0 rfl (h.old 4 _ rfl rfl) kI
     ·exact oI rfl fun h => yl_load1 ty9 rfl (h.dt 0 12 rfl rfl rfl) (((Box.ex hB49 h.ex).cell 0).trans rfl) kI
     ·exact oI rfl fun h => yl_fieldAddr fd75_1 rfl (h.old 4 _ rfl rfl) kI
     ·exact oI rfl fun h => yl_load1 ty9 rfl (h.dt 2 14 rfl rfl rfl) (((Box.ex hB49 h.ex).cell 1).trans rfl) kI
     ·exact oI rfl fun h => yl_fieldAddr fd75_2 rfl (h.old 4 _ rfl rfl) kI
     ·exact oI rfl fun h => yl_load1 ty4 rfl (h.dt 4 16 rfl rfl rfl) (((Box.ex hB49 h.ex).cell 2).trans rfl) kI
     ·intro L92 w93 hi94
      exact OpR.op' rfl (yl_call en94 rfl (oc (hi94.dt 1 13 rfl rfl rfl) (oc (hi94.dt 3 15 rfl rfl rfl) (oc (hi94.dt 5 17 rfl rfl rfl) oz))) (Cal.mono (c_s_l3Write ((p_l.getD k4 d_Write).Key) ((p_l.getD k4 d_Write).Val) ((p_l.getD k4 d_Write).Gone) ((okL.getD o2 ok_d_Write _).1) ((okL.getD o2 ok_d_Write _).2)) fun _ _ h => h))
     ·exact oI rfl fun h => yl_not rfl (h.dt 6 18 rfl rfl rfl) kI
     ·exact oI rfl fun h => yl_move rfl (h.dt 7 19 rfl rfl rfl) kI
     ·exact oW rfl rfl rfl rfl (not_t hb52) fun h => yl_move rfl (h.old 3 _ rfl rfl) kI
     ·exact oW rfl rfl rfl rfl (not_t hb52) fun h => yl_gtr rfl (h.dt 9 21 rfl rfl rfl) rfl kI
     ·exact oW rfl rfl rfl rfl (not_t hb52) fun h => yl_move rfl (h.dt 10 22 rfl rfl rfl) kI
     ·exact oW rfl rfl rfl rfl hb54 fun h => yl_move rfl (h.old 0 _ rfl rfl) kI
     ·exact oW rfl rfl rfl rfl hb54 fun h => yl_move rfl (h.old 3 _ rfl rfl) kI
     ·exact oW rfl rfl rfl rfl hb54 fun h => yl_sub rfl (h.dt 13 25 rfl rfl rfl) rfl kI
     ·intro L148 w149 hi150
      have hE151 := hi150.ex
      have hE151z := Ex.size hE151
      exact OpR.want rfl rfl (hi150.dt 11 23 rfl rfl rfl) hb54 (Yl.sameI (yl_indexAddr un36 ty75 rfl (hi150.dt 12 24 rfl rfl rfl) (hi150.dt 14 26 rfl rfl rfl) eA58 (by first | omega | assumption | (simp only [wI] at *; omega)) (by first | omega | assumption | (simp only [wI] at *; omega)) kI))
     ·exact oW rfl rfl rfl rfl hb54 fun h => yl_fieldAddr fd75_0 rfl (h.dt 15 27 rfl rfl rfl) kI
     ·exact oW rfl rfl rfl rfl hb54 fun h => yl_load1 ty9 rfl (h.dt 16 28 rfl rfl rfl) ((Cells.ex eC58 h.ex) 0 _ rfl) kI
     ·exact oW rfl rfl rfl rfl hb54 fun h => yl_fieldAddr fd75_0 rfl (h.old 4 _ rfl rfl) kI
     ·exact oW rfl rfl rfl rfl hb54 fun h => yl_load1 ty9 rfl (h.dt 18 30 rfl rfl rfl) (((Box.ex hB49 h.ex).cell 0).trans rfl) kI
     ·exact oW rfl rfl rfl rfl hb54 fun h => yl_sgeq (a := ((p_l.getD ((IntKind.wrap .i64 ((k4 : Int) - 1)).toNat) d_Write).Key)) (b := ((p_l.getD k4 d_Write).Key)) rfl (h.dt 17 29 rfl rfl rfl) (h.dt 19 31 rfl rfl rfl) kI
     ·exact oW rfl rfl rfl rfl (not_t hb52) fun h => yl_pick_t rfl (h.dt 11 23 rfl rfl rfl) hb54 (h.dt 20 32 rfl rfl rfl) kI
     ·exact oI rfl fun h => yl_pick_f rfl (h.dt 8 20 rfl rfl rfl) (not_t hb52) (h.dt 21 33 rfl rfl rfl) kI
     ·intro fl204 fh205 L201 w202 hp203
      have hE206 := hp203.ex
      have hE206z := Ex.size hE206
      refine dn (CW.sub (Sub.cons (d := 0) (hp203.old 0 _ rfl rfl) (Sub.cons (d := 5) (hp203.old 5 _ rfl rfl) (Sub.cons (d := 6) (hp203.old 6 _ rfl rfl) (Sub.cons (d := 7) (hp203.old 7 _ rfl rfl) (Sub.cons (d := 21) (hp203.nt 9 21 rfl rfl rfl) (Sub.cons (d := 22) (hp203.nt 10 22 rfl rfl rfl) (Sub.cons (d := 23) (hp203.nt 11 23 rfl rfl rfl) (Sub.cons (d := 24) (hp203.nt 12 24 rfl rfl rfl) (Sub.cons (d := 25) (hp203.nt 13 25 rfl rfl rfl) (Sub.cons (d := 26) (hp203.nt 14 26 rfl rfl rfl) (Sub.cons (d := 27) (hp203.nt 15 27 rfl rfl rfl) (Sub.cons (d := 28) (hp203.nt 16 28 rfl rfl rfl) (Sub.cons (d := 29) (hp203.nt 17 29 rfl rfl rfl) (Sub.cons (d := 30) (hp203.nt 18 30 rfl rfl rfl) (Sub.cons (d := 31) (hp203.nt 19 31 rfl rfl rfl) (Sub.cons (d := 32) (hp203.nt 20 32 rfl rfl rfl) (Sub.cons (d := 33) (hp203.nt 21 33 rfl rfl rfl) (Sub.cons (d := 34) (hp203.nt 22 34 rfl rfl rfl) (Sub.nil _))))))))))))))))))) (bcase (sLt ((p_l.getD ((IntKind.wrap .i64 ((k4 : Int) - 1)).toNat) d_Write).Key) ((p_l.getD k4 d_Write).Key)) (fun hb225 => ?_) (fun hb225 => ?_)))
      ·refine CW.cond_f rfl (not_t hb225) (CW.skip (bn (tn (CW.region (sd rfl (yl_inc rfl rfl rfl (by omega) (sd rfl (yl_move rfl rfl (dn ?_)))))))))
       have hB226 : B_s_l3Writes_0 p_l k4 () = .cont () := by simp only [B_s_l3Writes_0, hb52, hb54, hb225, cL]
       exact ⟨p_l.length - (k4 + 1), by omega, k4 + 1, rfl, hlt40, (by omega), rfl, rfl, rfl, rfl, (RdS.ex good_Write q57 hE206), (Ex.trans (Below.only (Ex.trans hf38 hE47) hO50 (by omega)) hE206), (loopM.cont hlt40 hB226).symm.trans hI31⟩
      ·refine CW.cond_t rfl (not_f hb225) (CW.seq (CW.region (sd rfl (yl_assign rfl rfl (dn (CW.ret (br (tr ?_))))))))
       refine tr ?_
       have hB232 : B_s_l3Writes_0 p_l k4 () = .ret false := by simp only [B_s_l3Writes_0, hb52, hb54, hb225, cL]
       have hL231 : loopM (B_s_l3Writes_0 p_l) (p_l.length - 0) 0 () = .ret false := hI31.symm.trans (loopM.ret hlt40 hB232)
       refine br (tr (rr rfl (.cons rfl .nil) ?_))
       have hM233 : (s_l3Writes p_l) = (false) := by simp only [s_l3Writes, hb52, hb54, hb225, hL231, cL]
       rw [hM233]
       exact ⟨rfl, (Ex.trans (Below.only (Ex.trans hf38 hE47) hO50 (by omega)) hE206)⟩
    ·have hb54p := dec_f hb54
     refine CW.drawsI 23 (vgetI ([.pointer (some ⟨b42, 0 + 0, none⟩), .string (bs ((p_l.getD k4 d_Write).Key)), .pointer (some ⟨b42, 0 + 1, none⟩), .string (bs ((p_l.getD k4 d_Write).Val)), .pointer (some ⟨b42, 0 + 2, none⟩), .bool ((p_l.getD k4 d_Write).Gone), .bool ((s_l3Write ((p_l.getD k4 d_Write).Key) ((p_l.getD k4 d_Write).Val) ((p_l.getD k4 d_Write).Gone))), .bool (!(s_l3Write ((p_l.getD k4 d_Write).Key) ((p_l.getD k4 d_Write).Val) ((p_l.getD k4 d_Write).Gone))), .bool (!(s_l3Write ((p_l.getD k4 d_Write).Key) ((p_l.getD k4 d_Write).Val) ((p_l.getD k4 d_Write).Gone))), .int .i64 ((k4 : Int)), .bool (decide (0 < (k4 : Int))), .bool (decide (0 < (k4 : Int))), undef, undef, undef, undef, undef, undef, undef, undef, undef, .bool (false), .bool (false)].map DetI)) Tryz.follows rfl rfl rfl rfl rfl rfl (vgetI_stable (stD _)) ⟨?_, ?_, ?_, ?_, ?_, ?_, ?_, ?_, ?_, ?_, ?_, ?_, ?_, ?_, ?_, ?_, ?_, ?_, ?_, ?_, ?_, ?_, ?_, trivial⟩ ?_
     ·exact oI rfl fun h => yl_fieldAddr fd75_0 rfl (h.old 4 _ rfl rfl) kI
     ·exact oI rfl fun h => yl_load1 ty9 rfl (h.dt 0 12 rfl rfl rfl) (((Box.ex hB49 h.ex).cell 0).trans rfl) kI
     ·exact oI rfl fun h => yl_fieldAddr fd75_1 rfl (h.old 4 _ rfl rfl) kI
     ·exact oI rfl fun h => yl_load1 ty9 rfl (h.dt 2 14 rfl rfl rfl) (((Box.ex hB49 h.ex).cell 1).trans rfl) kI
     ·exact oI rfl fun h => yl_fieldAddr fd75_2 rfl (h.old 4 _ rfl rfl) kI
     ·exact oI rfl fun h => yl_load1 ty4 rfl (h.dt 4 16 rfl rfl rfl) (((Box.ex hB49 h.ex).cell 2).trans rfl) kI
     ·intro L271 w272 hi273
      exact OpR.op' rfl (yl_call en94 rfl (oc (hi273.dt 1 13 rfl rfl rfl) (oc (hi273.dt 3 15 rfl rfl rfl) (oc (hi273.dt 5 17 rfl rfl rfl) oz))) (Cal.mono (c_s_l3Write ((p_l.getD k4 d_Write).Key) ((p_l.getD k4 d_Write).Val) ((p_l.getD k4 d_Write).Gone) ((okL.getD o2 ok_d_Write _).1) ((okL.getD o2 ok_d_Write _).2)) fun _ _ h => h))
     ·exact oI rfl fun h => yl_not rfl (h.dt 6 18 rfl rfl rfl) kI
     ·exact oI rfl fun h => yl_move rfl (h.dt 7 19 rfl rfl rfl) kI
     ·exact oW rfl rfl rfl rfl (not_t hb52) fun h => yl_move rfl (h.old 3 _ rfl rfl) kI
     ·exact oW rfl rfl rfl rfl (not_t hb52) fun h => yl_gtr rfl (h.dt 9 21 rfl rfl rfl) rfl kI
     ·exact oW rfl rfl rfl rfl (not_t hb52) fun h => yl_move rfl (h.dt 10 22 rfl rfl rfl) kI
     ·exact oS rfl rfl rfl rfl rfl hb54
     ·exact oS rfl rfl rfl rfl rfl hb54
     ·exact oS rfl rfl rfl rfl rfl hb54
     ·exact oS rfl rfl rfl rfl rfl hb54
     ·exact oS rfl rfl rfl rfl rfl hb54
     ·exact oS rfl rfl rfl rfl rfl hb54
     ·exact oS rfl rfl rfl rfl rfl hb54
     ·exact oS rfl rfl rfl rfl rfl hb54
     ·exact oS rfl rfl rfl rfl rfl hb54
     ·exact oW rfl rfl rfl rfl (not_t hb52) fun h => yl_pick_f rfl (h.dt 11 23 rfl rfl rfl) hb54 rfl kI
     ·exact oI rfl fun h => yl_pick_f rfl (h.dt 8 20 rfl rfl rfl) (not_t hb52) (h.dt 21 33 rfl rfl rfl) kI
     ·intro fl370 fh371 L367 w368 hp369
      have hE372 := hp369.ex
      have hE372z := Ex.size hE372
      refine dn (CW.sub (Sub.cons (d := 0) (hp369.old 0 _ rfl rfl) (Sub.cons (d := 5) (hp369.old 5 _ rfl rfl) (Sub.cons (d := 6) (hp369.old 6 _ rfl rfl) (Sub.cons (d := 7) (hp369.old 7 _ rfl rfl) (Sub.cons (d := 21) (hp369.nt 9 21 rfl rfl rfl) (Sub.cons (d := 22) (hp369.nt 10 22 rfl rfl rfl) (Sub.cons (d := 23) (hp369.nt 11 23 rfl rfl rfl) (Sub.cons (d := 24) (hp369.nt 12 24 rfl rfl rfl) (Sub.cons (d := 25) (hp369.nt 13 25 rfl rfl rfl) (Sub.cons (d := 26) (hp369.nt 14 26 rfl rfl rfl) (Sub.cons (d := 27) (hp369.nt 15 27 rfl rfl rfl) (Sub.cons (d := 28) (hp369.nt 16 28 rfl rfl rfl) (Sub.cons (d := 29) (hp369.nt 17 29 rfl rfl rfl) (Sub.cons (d := 30) (hp369.nt 18 30 rfl rfl rfl) (Sub.cons (d := 31) (hp369.nt 19 31 rfl rfl rfl) (Sub.cons (d := 32) (hp369.nt 20 32 rfl rfl rfl) (Sub.cons (d := 33) (hp369.nt 21 33 rfl rfl rfl) (Sub.cons (d := 34) (hp369.nt 22 34 rfl rfl rfl) (Sub.nil _))))))))))))))))))) (CW.cond_f rfl rfl (CW.skip (bn (tn (CW.region (sd rfl (yl_inc rfl rfl rfl (by omega) ?_))))))))
      refine sd rfl (yl_move rfl rfl (dn ?_))
      have hB391 : B_s_l3Writes_0 p_l k4 () = .cont () := by simp only [B_s_l3Writes_0, hb52, hb54, cL]
      exact ⟨p_l.length - (k4 + 1), by omega, k4 + 1, rfl, hlt40, (by omega), rfl, rfl, rfl, rfl, (RdS.ex good_Write (RdS.only good_Write (RdS.ex good_Write hf37 hE47) hO50 (by simp only [Iv]; omega)) hE372), (Ex.trans (Below.only (Ex.trans hf38 hE47) hO50 (by omega)) hE372), (loopM.cont hlt40 hB391).symm.trans hI31⟩
   ·refine CW.drawsI 23 (vgetI ([.pointer (some ⟨b42, 0 + 0, none⟩), .string (bs ((p_l.getD k4 d_Write).Key)), .pointer (some ⟨b42, 0 + 1, none⟩), .string (bs ((p_l.getD k4 d_Write).Val)), .pointer (some ⟨b42, 0 + 2, none⟩), .bool ((p_l.getD k4 d_Write).Gone), .bool ((s_l3Write ((p_l.getD k4 d_Write).Key) ((p_l.getD k4 d_Write).Val) ((p_l.getD k4 d_Write).Gone))), .bool (!(s_l3Write ((p_l.getD k4 d_Write).Key) ((p_l.getD k4 d_Write).Val) ((p_l.getD k4 d_Write).Gone))), .bool (!(s_l3Write ((p_l.getD k4 d_Write).Key) ((p_l.getD k4 d_Write).Val) ((p_l.getD k4 d_Write).Gone))), undef, undef, undef, undef, undef, undef, undef, undef, undef, undef, undef, undef, undef, .bool (true)].map DetI)) Tryz.follows rfl rfl rfl rfl rfl rfl (vgetI_stable (stD _)) ⟨?_, ?_, ?_, ?_, ?_, ?_, ?_, ?_, ?_, ?_, ?_, ?_, ?_, ?_, ?_, ?_, ?_, ?_, ?_, ?_, ?_, ?_, ?_, trivial⟩ ?_
    ·exact oI rfl fun h => yl_fieldAddr fd75_0 rfl (h.old 4 _ rfl rfl) kI
    ·exact oI rfl fun h => yl_load1 ty9 rfl (h.dt 0 12 rfl rfl rfl) (((Box.ex hB49 h.ex).cell 0).trans rfl) kI
    ·exact oI rfl fun h => yl_fieldAddr fd75_1 rfl (h.old 4 _ rfl rfl) kI
    ·exact oI rfl fun h => yl_load1 ty9 rfl (h.dt 2 14 rfl rfl rfl) (((Box.ex hB49 h.ex).cell 1).trans rfl) kI
    ·exact oI rfl fun h => yl_fieldAddr fd75_2 rfl (h.old 4 _ rfl rfl) kI
    ·exact oI rfl fun h => yl_load1 ty4 rfl (h.dt 4 16 rfl rfl rfl) (((Box.ex hB49 h.ex).cell 2).trans rfl) kI
    ·intro L432 w433 hi434
     exact OpR.op' rfl (yl_call en94 rfl (oc (hi434.dt 1 13 rfl rfl rfl) (oc (hi434.dt 3 15 rfl rfl rfl) (oc (hi434.dt 5 17 rfl rfl rfl) oz))) (Cal.mono (c_s_l3Write ((p_l.getD k4 d_Write).Key) ((p_l.getD k4 d_Write).Val) ((p_l.getD k4 d_Write).Gone) ((okL.getD o2 ok_d_Write _).1) ((okL.getD o2 ok_d_Write _).2)) fun _ _ h => h))
    ·exact oI rfl fun h => yl_not rfl (h.dt 6 18 rfl rfl rfl) kI
    ·exact oI rfl fun h => yl_move rfl (h.dt 7 19 rfl rfl rfl) kI
    ·exact oS rfl rfl rfl rfl rfl (not_f hb52)
    ·exact oS rfl rfl rfl rfl rfl (not_f hb52)
    ·exact oS rfl rfl rfl rfl rfl (not_f hb52)
    ·exact oU rfl rfl rfl rfl rfl
    ·exact oU rfl rfl rfl rfl rfl
    ·exact oU rfl rfl rfl rfl rfl
    ·exact oU rfl rfl rfl rfl rfl
    ·exact oU rfl rfl rfl rfl rfl
    ·exact oU rfl rfl rfl rfl rfl
    ·exact oU rfl rfl rfl rfl rfl
    ·exact oU rfl rfl rfl rfl rfl
    ·exact oU rfl rfl rfl rfl rfl
    ·exact oS rfl rfl rfl rfl rfl (not_f hb52)
    ·exact oI rfl fun h => yl_pick_t rfl (h.dt 8 20 rfl rfl rfl) (not_f hb52) rfl kI
    ·intro fl526 fh527 L523 w524 hp525
     have hE528 := hp525.ex
     have hE528z := Ex.size hE528
     refine dn (CW.sub (Sub.cons (d := 0) (hp525.old 0 _ rfl rfl) (Sub.cons (d := 5) (hp525.old 5 _ rfl rfl) (Sub.cons (d := 6) (hp525.old 6 _ rfl rfl) (Sub.cons (d := 7) (hp525.old 7 _ rfl rfl) (Sub.cons (d := 21) (hp525.nt 9 21 rfl rfl rfl) (Sub.cons (d := 22) (hp525.nt 10 22 rfl rfl rfl) (Sub.cons (d := 23) (hp525.nt 11 23 rfl rfl rfl) (Sub.cons (d := 24) (hp525.nt 12 24 rfl rfl rfl) (Sub.cons (d := 25) (hp525.nt 13 25 rfl rfl rfl) (Sub.cons (d := 26) (hp525.nt 14 26 rfl rfl rfl) (Sub.cons (d := 27) (hp525.nt 15 27 rfl rfl rfl) (Sub.cons (d := 28) (hp525.nt 16 28 rfl rfl rfl) (Sub.cons (d := 29) (hp525.nt 17 29 rfl rfl rfl) (Sub.cons (d := 30) (hp525.nt 18 30 rfl rfl rfl) (Sub.cons (d := 31) (hp525.nt 19 31 rfl rfl rfl) (Sub.cons (d := 32) (hp525.nt 20 32 rfl rfl rfl) (Sub.cons (d := 33) (hp525.nt 21 33 rfl rfl rfl) (Sub.cons (d := 34) (hp525.nt 22 34 rfl rfl rfl) (Sub.nil _))))))))))))))))))) (CW.cond_t rfl rfl (CW.seq (CW.region (sd rfl (yl_assign rfl rfl (dn ?_)))))))
     refine CW.ret (br (tr (tr ?_)))
     have hB548 : B_s_l3Writes_0 p_l k4 () = .ret false := by simp only [B_s_l3Writes_0, hb52, cL]
     have hL547 : loopM (B_s_l3Writes_0 p_l) (p_l.length - 0) 0 () = .ret false := hI31.symm.trans (loopM.ret hlt40 hB548)
     refine br (tr (rr rfl (.cons rfl .nil) ?_))
     have hM549 : (s_l3Writes p_l) = (false) := by simp only [s_l3Writes, hb52, hL547, cL]
     rw [hM549]
     exact ⟨rfl, (Ex.trans (Below.only (Ex.trans hf38 hE47) hO50 (by omega)) hE528)⟩
  ·refine CW.seq (CW.region (sd rfl (yl_lss rfl rfl rfl (dn (CW.seq (CW.cond_f rfl (lt_f hlt40) (CW.exit (tx ?_))))))))
   refine tx ?_
   have hL553 : loopM (B_s_l3Writes_0 p_l) (p_l.length - 0) 0 () = .done () := hI31.symm.trans (loopM.stop hlt40)
   refine bx (tn (CW.seq (CW.region (sd rfl (yl_move rfl rfl (sd rfl (yl_len un36 rfl rfl (sd rfl (yl_leq rfl rfl rfl (sd rfl (yl_assign rfl rfl (SeqR.done ?_))))))))))))
   refine tn (CW.ret (rr rfl (.cons rfl .nil) ?_))
   have hM554 : (s_l3Writes p_l) = (decide ((p_l.length : Int) ≤ 24)) := by simp only [s_l3Writes, hL553, cL]
   rw [hM554]
   exact ⟨rfl, hf38⟩
theorem c_s_l5Rows {A1 : Option Addr} {c1 : Nat} {w : World} (p_l : List DWrite) (h1 : RdS w (Iv 0 w.heap.size) (RF e_Write) 3 A1 p_l.length c1 p_l) (o2 : (okL ok_Write) p_l) : Cal Tryz.prog 27 #[.slice A1 p_l.length c1] w fun v w' => v = .bool ((s_l5Rows p_l)) ∧ Ex w w' := by
 have hol3 := o2.1
 refine Cal.of func27 rfl ntmps27 rfl (CW.seq (CW.region (sd rfl (yl_assign rfl rfl (dn (CW.seq (CW.seq (CW.region ?_))))))))
 refine sd rfl (yl_move rfl rfl (sd rfl (yl_len un36 rfl rfl (sd rfl (yl_move rfl rfl (dn (CW.block (CW.loop (fun m16 L17 w18 => ∃ (k4 : Nat), m16 = p_l.length - k4 ∧ k4 ≤ p_l.length ∧ w.heap.size ≤ w18.heap.size ∧ lkp L17 0 = some (.slice A1 p_l.length c1) ∧ lkp L17 5 = some (.slice A1 p_l.length c1) ∧ lkp L17 6 = some (.int .i64 ((p_l.length : Int))) ∧ lkp L17 7 = some (.int .i64 ((k4 : Int))) ∧ RdS w18 (Iv 0 w.heap.size) (RF e_Write) 3 A1 p_l.length c1 p_l ∧ Ex w w18 ∧ loopM (B_s_l5Rows_0 p_l) (p_l.length - k4) k4 () = loopM (B_s_l5Rows_0 p_l) (p_l.length - 0) 0 ()) (p_l.length - 0) ?_ ?_))))))))
 ·exact ⟨0, rfl, (by omega), Nat.le_refl _, rfl, rfl, rfl, rfl, h1, (Ex.refl w), rfl⟩
 ·rintro m19 L20 w21 ⟨k4, rfl, hk22, hsz24, hl25, hl26, hl27, hl28, hf29, hf30, hI23⟩
  refine CW.sub (Sub.cons hl25 (Sub.cons hl26 (Sub.cons hl27 (Sub.cons hl28 (Sub.nil _))))) ?_
  have hf30z := Ex.size hf30
  have hbg31 := RdS.big hf29
  rcases Nat.lt_or_ge k4 p_l.length with hlt32 | hlt32
  ·refine CW.seq (CW.region (sd rfl (yl_lss rfl rfl rfl (dn (CW.seq (CW.cond_t rfl (lt_t hlt32) (CW.skip (tn ?_))))))))
   refine CW.seq (CW.block (CW.seq (CW.region ?_)))
   obtain ⟨eb33, eo33, _, eA33, _, ebl33, _, eR33, eC33⟩ := RdS.aD hf29 d_Write (i := k4)
   obtain rfl := eR33
   have eC33 : Cells w21 eb33 (eo33 + k4 * 3) [.string (bs ((p_l.getD k4 d_Write).Key)), .string (bs ((p_l.getD k4 d_Write).Val)), .bool ((p_l.getD k4 d_Write).Gone)] := eC33
   refine sd rfl (yl_ixN un36 ty75 rfl rfl rfl eA33 (sd rfl (yl_loadN ty75 rfl rfl eC33 rfl (sd rfl (yl_alloc ty75 (cs := [.string (bs (([] : Str))), .string (bs (([] : Str))), .bool (false)]) rfl rfl ?_)))))
   intro b34 w35 hs36 hz37 hB38 hE39
   refine SeqR.u rfl rfl (yl_store (vs := [.string (bs ((p_l.getD k4 d_Write).Key)), .string (bs ((p_l.getD k4 d_Write).Val)), .bool ((p_l.getD k4 d_Write).Gone)]) ty75 rfl rfl rfl rfl rfl rfl hB38 (Nat.le_of_ble_eq_true rfl) ?_)
   intro w40 hB41 hO42
   have hB41 : Box w40 b34 75 [.string (bs ((p_l.getD k4 d_Write).Key)), .string (bs ((p_l.getD k4 d_Write).Val)), .bool ((p_l.getD k4 d_Write).Gone)] := hB41
   have hO42z := hO42.size
   refine dn (CW.seq (CW.region (sd rfl (yl_fieldAddr fd75_2 rfl rfl (sd rfl (yl_load1 ty4 rfl rfl ((hB41.cell 2).trans rfl) (dn (bcase ((p_l.getD k4 d_Write).Gone) (fun hb43 => ?_) (fun hb43 => ?_)))))))))
   ·refine CW.cond_t rfl hb43 (CW.seq (CW.region (sd rfl (yl_assign rfl rfl (dn (CW.ret (br (tr ?_))))))))
    refine tr ?_
    have hB45 : B_s_l5Rows_0 p_l k4 () = .ret false := by simp only [B_s_l5Rows_0, hb43, cL]
    have hL44 : loopM (B_s_l5Rows_0 p_l) (p_l.length - 0) 0 () = .ret false := hI23.symm.trans (loopM.ret hlt32 hB45)
    refine br (tr (rr rfl (.cons rfl .nil) ?_))
    have hM46 : (s_l5Rows p_l) = (false) := by simp only [s_l5Rows, hb43, hL44, cL]
    rw [hM46]
    exact ⟨rfl, (Below.only (Ex.trans hf30 hE39) hO42 (by omega))⟩
   ·refine CW.cond_f rfl hb43 (CW.skip (bn (tn (CW.region (sd rfl (yl_inc rfl rfl rfl (by omega) (sd rfl (yl_move rfl rfl (dn ?_)))))))))
    have hB49 : B_s_l5Rows_0 p_l k4 () = .cont () := by simp only [B_s_l5Rows_0, hb43, cL]
    exact ⟨p_l.length - (k4 + 1), by omega, k4 + 1, rfl, hlt32, (by omega), rfl, rfl, rfl, rfl, (RdS.only good_Write (RdS.ex good_Write hf29 hE39) hO42 (by simp only [Iv]; omega)), (Below.only (Ex.trans hf30 hE39) hO42 (by omega)), (loopM.cont hlt32 hB49).symm.trans hI23⟩
  ·refine CW.seq (CW.region (sd rfl (yl_lss rfl rfl rfl (dn (CW.seq (CW.cond_f rfl (lt_f hlt32) (CW.exit (tx ?_))))))))
   refine tx ?_
   have hL54 : loopM (B_s_l5Rows_0 p_l) (p_l.length - 0) 0 () = .done () := hI23.symm.trans (loopM.stop hlt32)
   refine bx (tn (CW.seq (CW.region (sd rfl (yl_move rfl rfl (sd rfl (yl_call en62 rfl (oc rfl oz) (Cal.mono (c_s_l3Writes p_l (RdS.up hf29 good_Write) o2) ?_))))))))
   rintro v56 w55 ⟨rfl, hE57⟩
   have hE57z := Ex.size hE57
   refine sd rfl (yl_assign rfl rfl (dn (CW.ret (rr rfl (.cons rfl .nil) ?_))))
   have hM58 : (s_l5Rows p_l) = ((s_l3Writes p_l)) := by simp only [s_l5Rows, hL54, cL]
   rw [hM58]
   exact ⟨rfl, (Ex.trans hf30 hE57)⟩
theorem c_s_l24Letters {w : World} (p_s : Str) (p_most : Int) (o1 : okS p_s) : Cal Tryz.prog 59 #[.string (bs (p_s)), .int .i64 (p_most)] w fun v w' => v = .bool ((s_l24Letters p_s p_most)) ∧ Ex w w' := by
 have hol2 : p_s.length ≤ 1073741824 := o1
 refine Cal.of func59 rfl ntmps59 rfl (CW.seq (CW.region (sd rfl (yl_assign rfl rfl (dn (CW.seq (CW.seq (CW.region ?_))))))))
 refine sd rfl (yl_assign rfl rfl (dn (CW.block (CW.loop (fun m4 L5 w6 => ∃ (k3 : Nat), m4 = p_s.length - k3 ∧ k3 ≤ p_s.length ∧ w.heap.size ≤ w6.heap.size ∧ lkp L5 0 = some (.string (bs (p_s))) ∧ lkp L5 1 = some (.int .i64 (p_most)) ∧ lkp L5 5 = some (.int .i64 ((k3 : Int))) ∧ Ex w w6 ∧ loopM (B_s_l24Letters_0 p_s p_most) (p_s.length - k3) k3 () = loopM (B_s_l24Letters_0 p_s p_most) (p_s.length - 0) 0 ()) (p_s.length - 0) ?_ ?_))))
 ·exact ⟨0, rfl, (by omega), Nat.le_refl _, rfl, rfl, rfl, (Ex.refl w), rfl⟩
 ·rintro m7 L8 w9 ⟨k3, rfl, hk10, hsz12, hl13, hl14, hl15, hf16, hI11⟩
  refine CW.sub (Sub.cons hl13 (Sub.cons hl14 (Sub.cons hl15 (Sub.nil _)))) ?_
  have hf16z := Ex.size hf16
  have hbg17 : p_s.length ≤ 1073741824 := o1
  rcases Nat.lt_or_ge k3 p_s.length with hlt18 | hlt18
  ·refine CW.seq (CW.seq (CW.region (sd rfl (yl_move rfl rfl (sd rfl (yl_move rfl rfl (sd rfl (yl_slen un9 (a := p_s) rfl rfl (sd rfl (yl_lss rfl rfl rfl (dn ?_)))))))))))
   refine CW.cond_t rfl (lt_t hlt18) (CW.skip (tn (CW.seq (CW.block (CW.seq (CW.region (sd rfl (yl_move rfl rfl (sd rfl (yl_move rfl rfl ?_))))))))))
   refine sd rfl (yl_sindexN un9 (a := p_s) rfl rfl rfl (by first | omega | assumption | (simp only [wI] at *; omega)) (sd rfl (yl_lss rfl rfl rfl (sd rfl (yl_move rfl rfl (bcase (decide (((p_s.getD k3 0).toNat : Int) < 97)) (fun hb19 => ?_) (fun hb19 => ?_)))))))
   ·have hb19p := dec_t hb19
    refine sz rfl rfl hb19 (sz rfl rfl hb19 (sz rfl rfl hb19 (sz rfl rfl hb19 (sd rfl (yl_pick_t rfl rfl hb19 rfl (dn (CW.cond_t rfl rfl (CW.seq ?_))))))))
    refine CW.region (sd rfl (yl_assign rfl rfl (dn (CW.ret (br (tr (tr ?_)))))))
    have hB21 : B_s_l24Letters_0 p_s p_most k3 () = .ret false := by simp only [B_s_l24Letters_0, hb19, cL]
    have hL20 : loopM (B_s_l24Letters_0 p_s p_most) (p_s.length - 0) 0 () = .ret false := hI11.symm.trans (loopM.ret hlt18 hB21)
    refine br (tr (rr rfl (.cons rfl .nil) ?_))
    have hM22 : (s_l24Letters p_s p_most) = (false) := by simp only [s_l24Letters, hb19, hL20, cL]
    rw [hM22]
    exact ⟨rfl, hf16⟩
   ·have hb19p := dec_f hb19
    refine sy rfl rfl hb19 (yl_move rfl rfl (sy rfl rfl hb19 (yl_move rfl rfl (sy rfl rfl hb19 (yl_sindexN un9 (a := p_s) rfl rfl rfl (by first | omega | assumption | (simp only [wI] at *; omega)) (sy rfl rfl hb19 (yl_gtr rfl rfl rfl (sd rfl (yl_pick_f rfl rfl hb19 rfl (dn (bcase (decide (122 < ((p_s.getD k3 0).toNat : Int))) (fun hb23 => ?_) (fun hb23 => ?_))))))))))))
    ·have hb23p := dec_t hb23
     refine CW.cond_t rfl hb23 (CW.seq (CW.region (sd rfl (yl_assign rfl rfl (dn (CW.ret (br (tr ?_))))))))
     refine tr ?_
     have hB25 : B_s_l24Letters_0 p_s p_most k3 () = .ret false := by simp only [B_s_l24Letters_0, hb19, hb23, cL]
     have hL24 : loopM (B_s_l24Letters_0 p_s p_most) (p_s.length - 0) 0 () = .ret false := hI11.symm.trans (loopM.ret hlt18 hB25)
     refine br (tr (rr rfl (.cons rfl .nil) ?_))
     have hM26 : (s_l24Letters p_s p_most) = (false) := by simp only [s_l24Letters, hb19, hb23, hL24, cL]
     rw [hM26]
     exact ⟨rfl, hf16⟩
    ·have hb23p := dec_f hb23
     refine CW.cond_f rfl hb23 (CW.skip (bn (tn (CW.region (sd rfl (yl_move rfl rfl (sd rfl (yl_inc rfl rfl rfl (by omega) (sd rfl (yl_assign rfl rfl (SeqR.done ?_)))))))))))
     refine tn ?_
     have hB27 : B_s_l24Letters_0 p_s p_most k3 () = .cont () := by simp only [B_s_l24Letters_0, hb19, hb23, cL]
     exact ⟨p_s.length - (k3 + 1), by omega, k3 + 1, rfl, hlt18, (by omega), rfl, rfl, rfl, hf16, (loopM.cont hlt18 hB27).symm.trans hI11⟩
  ·refine CW.seq (CW.seq (CW.region (sd rfl (yl_move rfl rfl (sd rfl (yl_move rfl rfl (sd rfl (yl_slen un9 (a := p_s) rfl rfl (sd rfl (yl_lss rfl rfl rfl (dn ?_)))))))))))
   refine CW.cond_f rfl (lt_f hlt18) (CW.exit (tx (tx ?_)))
   have hL28 : loopM (B_s_l24Letters_0 p_s p_most) (p_s.length - 0) 0 () = .done () := hI11.symm.trans (loopM.stop hlt18)
   refine bx (tn (CW.seq (CW.region (sd rfl (yl_move rfl rfl (sd rfl (yl_slen un9 (a := p_s) rfl rfl (sd rfl (yl_geq rfl rfl rfl (sd rfl (yl_move rfl rfl (bcase (decide (1 ≤ (p_s.length : Int))) (fun hb29 => ?_) (fun hb29 => ?_)))))))))))))
   ·have hb29p := dec_t hb29
    refine sy rfl rfl hb29 (yl_move rfl rfl (sy rfl rfl hb29 (yl_slen un9 (a := p_s) rfl rfl (sy rfl rfl hb29 (yl_move rfl rfl (sy rfl rfl hb29 (yl_leq rfl rfl rfl (sd rfl (yl_pick_t rfl rfl hb29 rfl (sd rfl (yl_assign rfl rfl (dn (CW.ret ?_)))))))))))))
    refine rr rfl (.cons rfl .nil) ?_
    have hM30 : (s_l24Letters p_s p_most) = (decide ((p_s.length : Int) ≤ p_most)) := by simp only [s_l24Letters, hb29, hL28, cL]
    rw [hM30]
    exact ⟨rfl, hf16⟩
   ·have hb29p := dec_f hb29
    refine sz rfl rfl hb29 (sz rfl rfl hb29 (sz rfl rfl hb29 (sz rfl rfl hb29 (sd rfl (yl_pick_f rfl rfl hb29 rfl (sd rfl (yl_assign rfl rfl (dn (CW.ret ?_)))))))))
    refine rr rfl (.cons rfl .nil) ?_
    have hM31 : (s_l24Letters p_s p_most) = (false) := by simp only [s_l24Letters, hb29, hL28, cL]
    rw [hM31]
    exact ⟨rfl, hf16⟩
theorem c_s_l24At {A1 : Option Addr} {c1 : Nat} {w : World} (p_l : List Str) (p_s : Str) (h1 : RdS w (Iv 0 w.heap.size) (RF e_Str) 1 A1 p_l.length c1 p_l) (o2 : (okL okS) p_l) (o3 : okS p_s) : Cal Tryz.prog 79 #[.slice A1 p_l.length c1, .string (bs (p_s))] w fun v w' => v = .int .i64 ((s_l24At p_l p_s)) ∧ Ex w w' := by
 have hol4 := o2.1
 have hol5 : p_s.length ≤ 1073741824 := o3
 refine Cal.of func79 rfl ntmps79 rfl (CW.seq (CW.region (sd rfl (yl_assign rfl rfl (dn (CW.seq (CW.seq (CW.region ?_))))))))
 refine sd rfl (yl_move rfl rfl (sd rfl (yl_len un22 rfl rfl (sd rfl (yl_move rfl rfl (dn (CW.block (CW.loop (fun m7 L8 w9 => ∃ (k6 : Nat), m7 = p_l.length - k6 ∧ k6 ≤ p_l.length ∧ w.heap.size ≤ w9.heap.size ∧ lkp L8 1 = some (.string (bs (p_s))) ∧ lkp L8 7 = some (.slice A1 p_l.length c1) ∧ lkp L8 8 = some (.int .i64 ((p_l.length : Int))) ∧ lkp L8 9 = some (.int .i64 ((k6 : Int))) ∧ RdS w9 (Iv 0 w.heap.size) (RF e_Str) 1 A1 p_l.length c1 p_l ∧ Ex w w9 ∧ loopM (B_s_l24At_0 p_l p_s) (p_l.length - k6) k6 () = loopM (B_s_l24At_0 p_l p_s) (p_l.length - 0) 0 ()) (p_l.length - 0) ?_ ?_))))))))
 ·exact ⟨0, rfl, (by omega), Nat.le_refl _, rfl, rfl, rfl, rfl, h1, (Ex.refl w), rfl⟩
 ·rintro m10 L11 w12 ⟨k6, rfl, hk13, hsz15, hl16, hl17, hl18, hl19, hf20, hf21, hI14⟩
  refine CW.sub (Sub.cons hl16 (Sub.cons hl17 (Sub.cons hl18 (Sub.cons hl19 (Sub.nil _))))) ?_
  have hf21z := Ex.size hf21
  have hbg22 := RdS.big hf20
  rcases Nat.lt_or_ge k6 p_l.length with hlt23 | hlt23
  ·refine CW.seq (CW.region (sd rfl (yl_lss rfl rfl rfl (dn (CW.seq (CW.cond_t rfl (lt_t hlt23) (CW.skip (tn ?_))))))))
   refine CW.seq (CW.block (CW.seq (CW.region (sd rfl (yl_move rfl rfl ?_)))))
   obtain ⟨eb24, eo24, _, eA24, _, ebl24, _, eR24, eC24⟩ := RdS.aD hf20 d_Str (i := k6)
   obtain rfl := eR24
   have eC24 : Cells w12 eb24 (eo24 + k6 * 1) [.string (bs ((p_l.getD k6 d_Str)))] := eC24
   refine sd rfl (yl_ixN un22 ty9 rfl rfl rfl eA24 (sd rfl (yl_load1 ty9 rfl rfl (eC24 0 _ rfl) (sd rfl (yl_assign rfl rfl (sd rfl (yl_assign rfl rfl (dn (CW.seq (CW.region (sd rfl (yl_move rfl rfl ?_))))))))))))
   refine sd rfl (yl_move rfl rfl (sd rfl (yl_seql (a := (p_l.getD k6 d_Str)) (b := p_s) rfl rfl rfl (dn (bcase ((p_l.getD k6 d_Str) == p_s) (fun hb25 => ?_) (fun hb25 => ?_))))))
   ·refine CW.cond_t rfl hb25 (CW.seq (CW.region (sd rfl (yl_move rfl rfl (sd rfl (yl_assign rfl rfl (dn (CW.ret (br ?_)))))))))
    refine tr (tr ?_)
    have hB27 : B_s_l24At_0 p_l p_s k6 () = .ret (k6 : Int) := by simp only [B_s_l24At_0, hb25, cL]
    have hL26 : loopM (B_s_l24At_0 p_l p_s) (p_l.length - 0) 0 () = .ret (k6 : Int) := hI14.symm.trans (loopM.ret hlt23 hB27)
    refine br (tr (rr rfl (.cons rfl .nil) ?_))
    have hM28 : (s_l24At p_l p_s) = ((k6 : Int)) := by simp only [s_l24At, hb25, hL26, cL]
    rw [hM28]
    exact ⟨rfl, hf21⟩
   ·refine CW.cond_f rfl hb25 (CW.skip (bn (tn (CW.region (sd rfl (yl_inc rfl rfl rfl (by omega) (sd rfl (yl_move rfl rfl (dn ?_)))))))))
    have hB29 : B_s_l24At_0 p_l p_s k6 () = .cont () := by simp only [B_s_l24At_0, hb25, cL]
    exact ⟨p_l.length - (k6 + 1), by omega, k6 + 1, rfl, hlt23, (by omega), rfl, rfl, rfl, rfl, hf20, hf21, (loopM.cont hlt23 hB29).symm.trans hI14⟩
  ·refine CW.seq (CW.region (sd rfl (yl_lss rfl rfl rfl (dn (CW.seq (CW.cond_f rfl (lt_f hlt23) (CW.exit (tx ?_))))))))
   refine tx ?_
   have hL30 : loopM (B_s_l24At_0 p_l p_s) (p_l.length - 0) 0 () = .done () := hI14.symm.trans (loopM.stop hlt23)
   refine bx (tn (CW.seq (CW.region (sd rfl (yl_assign rfl rfl (dn (CW.ret (rr rfl (.cons rfl .nil) ?_))))))))
   have hM31 : (s_l24At p_l p_s) = (-1) := by simp only [s_l24At, hL30, cL]
   rw [hM31]
   exact ⟨rfl, hf21⟩
theorem c_s_l24Cols {A1 : Option Addr} {c1 : Nat} {w : World} (p_l : List Str) (h1 : RdS w (Iv 0 w.heap.size) (RF e_Str) 1 A1 p_l.length c1 p_l) (o2 : (okL okS) p_l) : Cal Tryz.prog 60 #[.slice A1 p_l.length c1] w fun v w' => v = .bool ((s_l24Cols p_l)) ∧ Ex w w' := by
 have hol3 := o2.1
 refine Cal.of func60 rfl ntmps60 rfl (CW.seq (CW.region (sd rfl (yl_assign rfl rfl (dn (CW.seq (CW.seq (CW.region ?_))))))))
 refine sd rfl (yl_move rfl rfl (sd rfl (yl_len un22 rfl rfl (sd rfl (yl_move rfl rfl (dn (CW.block (CW.loop (fun m5 L6 w7 => ∃ (k4 : Nat), m5 = p_l.length - k4 ∧ k4 ≤ p_l.length ∧ w.heap.size ≤ w7.heap.size ∧ lkp L6 0 = some (.slice A1 p_l.length c1) ∧ lkp L6 5 = some (.slice A1 p_l.length c1) ∧ lkp L6 6 = some (.int .i64 ((p_l.length : Int))) ∧ lkp L6 7 = some (.int .i64 ((k4 : Int))) ∧ RdS w7 (Iv 0 w.heap.size) (RF e_Str) 1 A1 p_l.length c1 p_l ∧ Ex w w7 ∧ loopM (B_s_l24Cols_0 p_l) (p_l.length - k4) k4 () = loopM (B_s_l24Cols_0 p_l) (p_l.length - 0) 0 ()) (p_l.length - 0) ?_ ?_))))))))
 ·exact ⟨0, rfl, (by omega), Nat.le_refl _, rfl, rfl, rfl, rfl, h1, (Ex.refl w), rfl⟩
 ·rintro m8 L9 w10 ⟨k4, rfl, hk11, hsz13, hl14, hl15, hl16, hl17, hf18, hf19, hI12⟩
  refine CW.sub (Sub.cons hl14 (Sub.cons hl15 (Sub.cons hl16 (Sub.cons hl17 (Sub.nil _))))) ?_
  have hf19z := Ex.size hf19
  have hbg20 := RdS.big hf18
  rcases Nat.lt_or_ge k4 p_l.length with hlt21 | hlt21
  ·refine CW.seq (CW.region (sd rfl (yl_lss rfl rfl rfl (dn (CW.seq (CW.cond_t rfl (lt_t hlt21) (CW.skip (tn ?_))))))))
   refine CW.seq (CW.block (CW.seq (CW.region (sd rfl (yl_move rfl rfl ?_)))))
   obtain ⟨eb22, eo22, _, eA22, _, ebl22, _, eR22, eC22⟩ := RdS.aD hf18 d_Str (i := k4)
   obtain rfl := eR22
   have eC22 : Cells w10 eb22 (eo22 + k4 * 1) [.string (bs ((p_l.getD k4 d_Str)))] := eC22
   refine sd rfl (yl_ixN un22 ty9 rfl rfl rfl eA22 (sd rfl (yl_load1 ty9 rfl rfl (eC22 0 _ rfl) (sd rfl (yl_assign rfl rfl (sd rfl (yl_assign rfl rfl (dn (CW.seq (CW.region (sd rfl (yl_move rfl rfl ?_))))))))))))
   refine sd rfl (yl_call en59 rfl (oc rfl (oc rfl oz)) (Cal.mono (c_s_l24Letters (p_l.getD k4 d_Str) 3 (okL.getD o2 ok_d_Str _)) ?_))
   rintro v24 w23 ⟨rfl, hE25⟩
   have hE25z := Ex.size hE25
   refine sd rfl (yl_not rfl rfl (sd rfl (yl_move rfl rfl (bcase (s_l24Letters (p_l.getD k4 d_Str) 3) (fun hb26 => ?_) (fun hb26 => ?_)))))
   ·refine sy rfl rfl (not_t hb26) (yl_move rfl rfl (sy rfl rfl (not_t hb26) (yl_move rfl rfl ?_)))
    have q27 := RdS.ex good_Str hf18 hE25
    obtain ⟨A28, c29, he32, h31⟩ := RdS.sl (RdS.drop (RdS.take q27 (k := k4) (by omega)) (k := 0) (by omega))
    have hrc33 := (q27).2.1
    refine sy rfl rfl (not_t hb26) (yl_sliceR (kl := .i64) (l := 0) (h := k4) un22 ty9 rfl rfl (.inl ⟨rfl, rfl⟩) (.inr ⟨_, rfl, rfl⟩) (by omega) (by omega) he32 (sy rfl rfl (not_t hb26) (yl_move rfl rfl (sy rfl rfl (not_t hb26) (yl_call en79 rfl (oc rfl (oc rfl oz)) (Cal.mono (c_s_l24At (p_l.take k4) (p_l.getD k4 d_Str) (RdS.up h31 good_Str) (okL.take o2 _) (okL.getD o2 ok_d_Str _)) ?_))))))
    rintro v35 w34 ⟨rfl, hE36⟩
    have hE36z := Ex.size hE36
    refine sy rfl rfl (not_t hb26) (yl_geq rfl rfl rfl (sd rfl (yl_pick_f rfl rfl (not_t hb26) rfl (dn (bcase (decide (0 ≤ (s_l24At (p_l.take k4) (p_l.getD k4 d_Str)))) (fun hb37 => ?_) (fun hb37 => ?_))))))
    ·have hb37p := dec_t hb37
     refine CW.cond_t rfl hb37 (CW.seq (CW.region (sd rfl (yl_assign rfl rfl (dn (CW.ret (br (tr ?_))))))))
     refine tr ?_
     have hB39 : B_s_l24Cols_0 p_l k4 () = .ret false := by simp only [B_s_l24Cols_0, hb26, hb37, cL]
     have hL38 : loopM (B_s_l24Cols_0 p_l) (p_l.length - 0) 0 () = .ret false := hI12.symm.trans (loopM.ret hlt21 hB39)
     refine br (tr (rr rfl (.cons rfl .nil) ?_))
     have hM40 : (s_l24Cols p_l) = (false) := by simp only [s_l24Cols, hb26, hb37, hL38, cL]
     rw [hM40]
     exact ⟨rfl, (Ex.trans (Ex.trans hf19 hE25) hE36)⟩
    ·have hb37p := dec_f hb37
     refine CW.cond_f rfl hb37 (CW.skip (bn (tn (CW.region (sd rfl (yl_inc rfl rfl rfl (by omega) (sd rfl (yl_move rfl rfl (dn ?_)))))))))
     have hB43 : B_s_l24Cols_0 p_l k4 () = .cont () := by simp only [B_s_l24Cols_0, hb26, hb37, cL]
     exact ⟨p_l.length - (k4 + 1), by omega, k4 + 1, rfl, hlt21, (by omega), rfl, rfl, rfl, rfl, (RdS.ex good_Str q27 hE36), (Ex.trans (Ex.trans hf19 hE25) hE36), (loopM.cont hlt21 hB43).symm.trans hI12⟩
   ·refine sz rfl rfl (not_f hb26) (sz rfl rfl (not_f hb26) (sz rfl rfl (not_f hb26) (sz rfl rfl (not_f hb26) (sz rfl rfl (not_f hb26) (sz rfl rfl (not_f hb26) (sd rfl (yl_pick_t rfl rfl (not_f hb26) rfl (dn ?_))))))))
    refine CW.cond_t rfl rfl (CW.seq (CW.region (sd rfl (yl_assign rfl rfl (dn (CW.ret (br (tr ?_))))))))
    refine tr ?_
    have hB48 : B_s_l24Cols_0 p_l k4 () = .ret false := by simp only [B_s_l24Cols_0, hb26, cL]
    have hL47 : loopM (B_s_l24Cols_0 p_l) (p_l.length - 0) 0 () = .ret false := hI12.symm.trans (loopM.ret hlt21 hB48)
    refine br (tr (rr rfl (.cons rfl .nil) ?_))
    have hM49 : (s_l24Cols p_l) = (false) := by simp only [s_l24Cols, hb26, hL47, cL]
    rw [hM49]
    exact ⟨rfl, (Ex.trans hf19 hE25)⟩
  ·refine CW.seq (CW.region (sd rfl (yl_lss rfl rfl rfl (dn (CW.seq (CW.cond_f rfl (lt_f hlt21) (CW.exit (tx ?_))))))))
   refine tx ?_
   have hL51 : loopM (B_s_l24Cols_0 p_l) (p_l.length - 0) 0 () = .done () := hI12.symm.trans (loopM.stop hlt21)
   refine bx (tn (CW.seq (CW.region (sd rfl (yl_move rfl rfl (sd rfl (yl_len un22 rfl rfl (sd rfl (yl_call en61 rfl (oc rfl (oc rfl (oc rfl oz))) (Cal.mono (c_s_l1In (p_l.length : Int) 2 4) ?_))))))))))
   rintro v53 w52 ⟨rfl, hE54⟩
   have hE54z := Ex.size hE54
   refine sd rfl (yl_assign rfl rfl (dn (CW.ret (rr rfl (.cons rfl .nil) ?_))))
   have hM55 : (s_l24Cols p_l) = ((s_l1In (p_l.length : Int) 2 4)) := by simp only [s_l24Cols, hL51, cL]
   rw [hM55]
   exact ⟨rfl, (Ex.trans hf19 hE54)⟩
theorem c_s_GoodTable {A1 : Option Addr} {c1 : Nat} {A2 : Option Addr} {c2 : Nat} {w : World} (p_0 : DTable) (h1 : RdS w (Iv 0 w.heap.size) (RF e_Str) 1 A1 p_0.Cols.length c1 p_0.Cols) (h2 : RdS w (Iv 0 w.heap.size) (RF e_Idx) 3 A2 p_0.Idxs.length c2 p_0.Idxs) (o3 : ok_Table p_0) : Cal Tryz.prog 26 #[.agg #[.string (bs (p_0.Name)), .slice A1 p_0.Cols.length c1, .slice A2 p_0.Idxs.length c2]] w fun v w' => v = .bool ((s_GoodTable p_0)) ∧ Ex w w' := by
 have hol4 : p_0.Name.length ≤ 1073741824 := o3.1
 have hol5 := o3.2.1.1
 have hol6 := o3.2.2.1
 refine Cal.of func26 rfl ntmps26 rfl (CW.seq (CW.region (sd rfl (yl_box rfl rfl rfl ?_))))
 intro b7 w8 hs9 hz10 hB11 hE12
 refine sd rfl (yl_assign rfl rfl (dn (CW.seq (CW.seq (CW.region (sd rfl (yl_fieldAddr fd34_0 rfl rfl (sd rfl (yl_load1 ty9 rfl rfl ((hB11.cell 0).trans rfl) (sd rfl (yl_call en59 rfl (oc rfl (oc rfl oz)) (Cal.mono (c_s_l24Letters p_0.Name 1 o3.1) ?_))))))))))))
 rintro v14 w13 ⟨rfl, hE15⟩
 have hE15z := Ex.size hE15
 refine sd rfl (yl_not rfl rfl (sd rfl (yl_move rfl rfl (bcase (s_l24Letters p_0.Name 1) (fun hb16 => ?_) (fun hb16 => ?_)))))
 ·refine sy rfl rfl (not_t hb16) (yl_fieldAddr fd34_1 rfl rfl ?_)
  have q17 := Box.ex hB11 hE15
  refine sy rfl rfl (not_t hb16) (yl_load1 ty22 rfl rfl ((q17.cell 1).trans rfl) ?_)
  have q19 := RdS.ex good_Str (RdS.ex good_Str h1 hE12) hE15
  refine sy rfl rfl (not_t hb16) (yl_call en60 rfl (oc rfl oz) (Cal.mono (c_s_l24Cols p_0.Cols (RdS.up q19 good_Str) o3.2.1) ?_))
  rintro v21 w20 ⟨rfl, hE22⟩
  have hE22z := Ex.size hE22
  refine sy rfl rfl (not_t hb16) (yl_not rfl rfl (sd rfl (yl_pick_f rfl rfl (not_t hb16) rfl (sd rfl (yl_move rfl rfl (bcase (s_l24Cols p_0.Cols) (fun hb23 => ?_) (fun hb23 => ?_)))))))
  ·refine sy rfl rfl (not_t hb23) (yl_fieldAddr fd34_2 rfl rfl ?_)
   have q24 := Box.ex q17 hE22
   refine sy rfl rfl (not_t hb23) (yl_load1 ty32 rfl rfl ((q24.cell 2).trans rfl) (sy rfl rfl (not_t hb23) (yl_len un32 rfl rfl (sy rfl rfl (not_t hb23) (yl_gtr rfl rfl rfl (sd rfl (yl_pick_f rfl rfl (not_t hb23) rfl (dn (bcase (decide (3 < (p_0.Idxs.length : Int))) (fun hb25 => ?_) (fun hb25 => ?_))))))))))
   ·have hb25p := dec_t hb25
    refine CW.cond_t rfl hb25 (CW.seq (CW.region (sd rfl (yl_assign rfl rfl (dn (CW.ret (tr (rr rfl (.cons rfl .nil) ?_))))))))
    have hM26 : (s_GoodTable p_0) = (false) := by simp only [s_GoodTable, hb16, hb23, hb25, cL]
    rw [hM26]
    exact ⟨rfl, (Ex.trans (Ex.trans (Ex.trans (Ex.refl w) hE12) hE15) hE22)⟩
   ·have hb25p := dec_f hb25
    refine CW.cond_f rfl hb25 (CW.skip (tn (CW.seq (CW.seq (CW.region (sd rfl (yl_fieldAddr fd34_2 rfl rfl (sd rfl (yl_load1 ty32 rfl rfl ((q24.cell 2).trans rfl) (sd rfl (yl_len un32 rfl rfl ?_)))))))))))
    refine sd rfl (yl_move rfl rfl (dn (CW.block (CW.loop (fun m68 L69 w70 => ∃ (k30 : Nat), m68 = p_0.Idxs.length - k30 ∧ k30 ≤ p_0.Idxs.length ∧ w20.heap.size ≤ w70.heap.size ∧ lkp L69 1 = some (.pointer (some ⟨b7, 0, none⟩)) ∧ lkp L69 22 = some (.slice A2 p_0.Idxs.length c2) ∧ lkp L69 23 = some (.int .i64 ((p_0.Idxs.length : Int))) ∧ lkp L69 24 = some (.int .i64 ((k30 : Int))) ∧ Box w70 b7 34 [.string (bs (p_0.Name)), .slice A1 p_0.Cols.length c1, .slice A2 p_0.Idxs.length c2] ∧ RdS w70 (Iv 0 w.heap.size) (RF e_Str) 1 A1 p_0.Cols.length c1 p_0.Cols ∧ RdS w70 (Iv 0 w.heap.size) (RF e_Idx) 3 A2 p_0.Idxs.length c2 p_0.Idxs ∧ Ex w w70 ∧ loopM (B_s_GoodTable_0 p_0) (p_0.Idxs.length - k30) k30 () = loopM (B_s_GoodTable_0 p_0) (p_0.Idxs.length - 0) 0 ()) (p_0.Idxs.length - 0) ?_ ?_))))
    ·exact ⟨0, rfl, (by omega), Nat.le_refl _, rfl, rfl, rfl, rfl, q24, (RdS.ex good_Str q19 hE22), (RdS.ex good_Idx (RdS.ex good_Idx (RdS.ex good_Idx h2 hE12) hE15) hE22), (Ex.trans (Ex.trans (Ex.trans (Ex.refl w) hE12) hE15) hE22), rfl⟩
    ·rintro m78 L79 w80 ⟨k30, rfl, hk81, hsz83, hl84, hl85, hl86, hl87, hf88, hf89, hf90, hf91, hI82⟩
     refine CW.sub (Sub.cons hl84 (Sub.cons hl85 (Sub.cons hl86 (Sub.cons hl87 (Sub.nil _))))) ?_
     have hf88z := Box.lt hf88
     have hf91z := Ex.size hf91
     have hbg92 := RdS.big hf90
     rcases Nat.lt_or_ge k30 p_0.Idxs.length with hlt93 | hlt93
     ·refine CW.seq (CW.region (sd rfl (yl_lss rfl rfl rfl (dn (CW.seq (CW.cond_t rfl (lt_t hlt93) (CW.skip (tn ?_))))))))
      refine CW.seq (CW.block (CW.seq (CW.region (sd rfl (yl_move rfl rfl ?_)))))
      obtain ⟨eb94, eo94, _, eA94, _, ebl94, _, eR94, eC94⟩ := RdS.aD hf90 d_Idx (i := k30)
      obtain rfl := eR94
      have eC94 : Cells w80 eb94 (eo94 + k30 * 3) [.string (bs ((p_0.Idxs.getD k30 d_Idx).Name)), .int .i64 ((p_0.Idxs.getD k30 d_Idx).Col), .int .i64 ((p_0.Idxs.getD k30 d_Idx).Stage)] := eC94
      refine sd rfl (yl_ixN un32 ty104 rfl rfl rfl eA94 (sd rfl (yl_loadN ty104 rfl rfl eC94 rfl (sd rfl (yl_alloc ty104 (cs := [.string (bs (([] : Str))), .int .i64 (0), .int .i64 (0)]) rfl rfl ?_)))))
      intro b95 w96 hs97 hz98 hB99 hE100
      refine sd rfl (yl_assign rfl rfl (SeqR.u rfl rfl (yl_store (vs := [.string (bs ((p_0.Idxs.getD k30 d_Idx).Name)), .int .i64 ((p_0.Idxs.getD k30 d_Idx).Col), .int .i64 ((p_0.Idxs.getD k30 d_Idx).Stage)]) ty104 rfl rfl rfl rfl rfl rfl hB99 (Nat.le_of_ble_eq_true rfl) ?_)))
      intro w101 hB102 hO103
      have hB102 : Box w101 b95 104 [.string (bs ((p_0.Idxs.getD k30 d_Idx).Name)), .int .i64 ((p_0.Idxs.getD k30 d_Idx).Col), .int .i64 ((p_0.Idxs.getD k30 d_Idx).Stage)] := hB102
      have hO103z := hO103.size
      refine dn (CW.seq (bcase (s_l24Letters ((p_0.Idxs.getD k30 d_Idx).Name) 1) (fun hb105 => ?_) (fun hb105 => ?_)))
      ·refine bcase (s_l1In ((p_0.Idxs.getD k30 d_Idx).Col) 1 (IntKind.wrap .i64 ((p_0.Cols.length : Int) - 1))) (fun hb110 => ?_) (fun hb110 => ?_)
       ·have hb110p := f_l1In hb110
        refine bcase (s_l1In ((p_0.Idxs.getD k30 d_Idx).Stage) 0 3) (fun hb116 => ?_) (fun hb116 => ?_)
        ·have hb116p := f_l1In hb116
         refine bcase (decide (0 < (k30 : Int))) (fun hb122 => ?_) (fun hb122 => ?_)
         ·have hb122p := dec_t hb122
          have q125 := Box.only (Box.ex hf88 hE100) hO103 (by omega)
          have q129 := RdS.only good_Idx (RdS.ex good_Idx hf90 hE100) hO103 (by simp only [Iv]; omega)
          obtain ⟨eb130, eo130, _, eA130, _, ebl130, _, eR130, eC130⟩ := RdS.atD q129 d_Idx (i := (IntKind.wrap .i64 ((k30 : Int) - 1)).toNat) (by first | omega | assumption | (simp only [wI] at *; omega))
          obtain rfl := eR130
          have eC130 : Cells w101 eb130 (eo130 + ((IntKind.wrap .i64 ((k30 : Int) - 1)).toNat) * 3) [.string (bs ((p_0.Idxs.getD ((IntKind.wrap .i64 ((k30 : Int) - 1)).toNat) d_Idx).Name)), .int .i64 ((p_0.Idxs.getD ((IntKind.wrap .i64 ((k30 : Int) - 1)).toNat) d_Idx).Col), .int .i64 ((p_0.Idxs.getD ((IntKind.wrap .i64 ((k30 : Int) - 1)).toNat) d_Idx).Stage)] := eC130
          refine CW.drawsI 36 (vgetI ([.pointer (some ⟨b95, 0 + 0, none⟩), .string (bs ((p_0.Idxs.getD k30 d_Idx).Name)), .bool ((s_l24Letters ((p_0.Idxs.getD k30 d_Idx).Name) 1)), .bool (!(s_l24Letters ((p_0.Idxs.getD k30 d_Idx).Name) 1)), .bool (!(s_l24Letters ((p_0.Idxs.getD k30 d_Idx).Name) 1)), .pointer (some ⟨b95, 0 + 1, none⟩), .int .i64 ((p_0.Idxs.getD k30 d_Idx).Col), .pointer (some ⟨b7, 0 + 1, none⟩), .slice A1 p_0.Cols.length c1, .int .i64 ((p_0.Cols.length : Int)), .int .i64 (IntKind.wrap .i64 ((p_0.Cols.length : Int) - 1)), .bool ((s_l1In ((p_0.Idxs.getD k30 d_Idx).Col) 1 (IntKind.wrap .i64 ((p_0.Cols.length : Int) - 1)))), .bool (!(s_l1In ((p_0.Idxs.getD k30 d_Idx).Col) 1 (IntKind.wrap .i64 ((p_0.Cols.length : Int) - 1)))), .bool (!(s_l1In ((p_0.Idxs.getD k30 d_Idx).Col) 1 (IntKind.wrap .i64 ((p_0.Cols.length : Int) - 1)))), .bool (!(s_l1In ((p_0.Idxs.getD k30 d_Idx).Col) 1 (IntKind.wrap .i64 ((p_0.Cols.length : Int) - 1)))), .pointer (some ⟨b95, 0 + 2, none⟩), .int .i64 ((p_0.Idxs.getD k30 d_Idx).Stage), .bool ((s_l1In ((p_0.Idxs.getD k30 d_Idx).Stage) 0 3)), .bool (!(s_l1In ((p_0.Idxs.getD k30 d_Idx).Stage) 0 3)), .bool (!(s_l1In ((p_0.Idxs.getD k30 d_Idx).Stage) 0 3)), .bool (!(s_l1In ((p_0.Idxs.getD k30 d_Idx).Stage) 0 3)), .int .i64 ((k30 : Int)), .bool (decide (0 < (k30 : Int))), .bool (decide (0 < (k30 : Int))), .pointer (some ⟨b7, 0 + 2, none⟩), .slice A2 p_0.Idxs.length c2, .int .i64 ((k30 : Int)), .int .i64 (IntKind.wrap .i64 ((k30 : Int) - 1)), .pointer (some ⟨eb130, eo130 + ((IntKind.wrap .i64 ((k30 : Int) - 1)).toNat) * 3, none⟩), .pointer (some ⟨eb130, eo130 + ((IntKind.wrap .i64 ((k30 : Int) - 1)).toNat) * 3 + 0, none⟩), .string (bs ((p_0.Idxs.getD ((IntKind.wrap .i64 ((k30 : Int) - 1)).toNat) d_Idx).Name)), .pointer (some ⟨b95, 0 + 0, none⟩), .string (bs ((p_0.Idxs.getD k30 d_Idx).Name)), .bool (!(sLt ((p_0.Idxs.getD ((IntKind.wrap .i64 ((k30 : Int) - 1)).toNat) d_Idx).Name) ((p_0.Idxs.getD k30 d_Idx).Name))), .bool (!(sLt ((p_0.Idxs.getD ((IntKind.wrap .i64 ((k30 : Int) - 1)).toNat) d_Idx).Name) ((p_0.Idxs.getD k30 d_Idx).Name))), .bool (!(sLt ((p_0.Idxs.getD ((IntKind.wrap .i64 ((k30 : Int) - 1)).toNat) d_Idx).Name) ((p_0.Idxs.getD k30 d_Idx).Name)))].map DetI)) Tryz.follows rfl rfl rfl rfl rfl rfl (vgetI_stable (stD _)) ⟨?_, ?_, ?_, ?_, ?_, ?_, ?_, ?_, ?_, ?_, ?_, ?_, ?_, ?_, ?_, ?_, ?_, ?_, ?_, ?_, ?_, ?_, ?_, ?_, ?_, ?_, ?_, ?_, ?_, ?_, ?_, ?_, ?_, ?_, ?_, ?_, trivial⟩ ?_
          ·exact oI rfl fun h => yl_fieldAddr fd104_0 rfl (h.old 4 _ rfl rfl) kI
          ·exact oI rfl fun h => yl_load1 ty9 rfl (h.dt 0 29 rfl rfl rfl) (((Box.ex hB102 h.ex).cell 0).trans rfl) kI
          ·intro L142 w143 hi144
           exact OpR.op' rfl (yl_call en59 rfl (oc (hi144.dt 1 30 rfl rfl rfl) (oc rfl oz)) (Cal.mono (c_s_l24Letters ((p_0.Idxs.getD k30 d_Idx).Name) 1 (okL.getD o3.2.2 ok_d_Idx _)) fun _ _ h => h))
          ·exact oI rfl fun h => yl_not rfl (h.dt 2 31 rfl rfl rfl) kI
          ·exact oI rfl fun h => yl_move rfl (h.dt 3 32 rfl rfl rfl) kI
          ·exact oW rfl rfl rfl rfl (not_t hb105) fun h => yl_fieldAddr fd104_1 rfl (h.old 4 _ rfl rfl) kI
          ·exact oW rfl rfl rfl rfl (not_t hb105) fun h => yl_load1 ty3 rfl (h.dt 5 34 rfl rfl rfl) (((Box.ex hB102 h.ex).cell 1).trans rfl) kI
          ·exact oW rfl rfl rfl rfl (not_t hb105) fun h => yl_fieldAddr fd34_1 rfl (h.old 1 _ rfl rfl) kI
          ·exact oW rfl rfl rfl rfl (not_t hb105) fun h => yl_load1 ty22 rfl (h.dt 7 36 rfl rfl rfl) (((Box.ex q125 h.ex).cell 1).trans rfl) kI
          ·exact oW rfl rfl rfl rfl (not_t hb105) fun h => yl_len un22 rfl (h.dt 8 37 rfl rfl rfl) kI
          ·exact oW rfl rfl rfl rfl (not_t hb105) fun h => yl_sub rfl (h.dt 9 38 rfl rfl rfl) rfl kI
          ·intro L198 w199 hi200
           exact OpR.want rfl rfl (hi200.dt 4 33 rfl rfl rfl) (not_t hb105) (yl_call en61 rfl (oc (hi200.dt 6 35 rfl rfl rfl) (oc rfl (oc (hi200.dt 10 39 rfl rfl rfl) oz))) (Cal.mono (c_s_l1In ((p_0.Idxs.getD k30 d_Idx).Col) 1 (IntKind.wrap .i64 ((p_0.Cols.length : Int) - 1))) fun _ _ h => h))
          ·exact oW rfl rfl rfl rfl (not_t hb105) fun h => yl_not rfl (h.dt 11 40 rfl rfl rfl) kI
          ·exact oI rfl fun h => yl_pick_f rfl (h.dt 4 33 rfl rfl rfl) (not_t hb105) (h.dt 12 41 rfl rfl rfl) kI
          ·exact oI rfl fun h => yl_move rfl (h.dt 13 42 rfl rfl rfl) kI
          ·exact oW rfl rfl rfl rfl (not_t hb110) fun h => yl_fieldAddr fd104_2 rfl (h.old 4 _ rfl rfl) kI
          ·exact oW rfl rfl rfl rfl (not_t hb110) fun h => yl_load1 ty3 rfl (h.dt 15 44 rfl rfl rfl) (((Box.ex hB102 h.ex).cell 2).trans rfl) kI
          ·intro L238 w239 hi240
           exact OpR.want rfl rfl (hi240.dt 14 43 rfl rfl rfl) (not_t hb110) (yl_call en61 rfl (oc (hi240.dt 16 45 rfl rfl rfl) (oc rfl (oc rfl oz))) (Cal.mono (c_s_l1In ((p_0.Idxs.getD k30 d_Idx).Stage) 0 3) fun _ _ h => h))
          ·exact oW rfl rfl rfl rfl (not_t hb110) fun h => yl_not rfl (h.dt 17 46 rfl rfl rfl) kI
          ·exact oI rfl fun h => yl_pick_f rfl (h.dt 14 43 rfl rfl rfl) (not_t hb110) (h.dt 18 47 rfl rfl rfl) kI
          ·exact oI rfl fun h => yl_move rfl (h.dt 19 48 rfl rfl rfl) kI
          ·exact oW rfl rfl rfl rfl (not_t hb116) fun h => yl_move rfl (h.old 3 _ rfl rfl) kI
          ·exact oW rfl rfl rfl rfl (not_t hb116) fun h => yl_gtr rfl (h.dt 21 50 rfl rfl rfl) rfl kI
          ·exact oW rfl rfl rfl rfl (not_t hb116) fun h => yl_move rfl (h.dt 22 51 rfl rfl rfl) kI
          ·exact oW rfl rfl rfl rfl hb122 fun h => yl_fieldAddr fd34_2 rfl (h.old 1 _ rfl rfl) kI
          ·exact oW rfl rfl rfl rfl hb122 fun h => yl_load1 ty32 rfl (h.dt 24 53 rfl rfl rfl) (((Box.ex q125 h.ex).cell 2).trans rfl) kI
          ·exact oW rfl rfl rfl rfl hb122 fun h => yl_move rfl (h.old 3 _ rfl rfl) kI
          ·exact oW rfl rfl rfl rfl hb122 fun h => yl_sub rfl (h.dt 26 55 rfl rfl rfl) rfl kI
          ·intro L307 w308 hi309
           have hE310 := hi309.ex
           have hE310z := Ex.size hE310
           exact OpR.want rfl rfl (hi309.dt 23 52 rfl rfl rfl) hb122 (Yl.sameI (yl_indexAddr un32 ty104 rfl (hi309.dt 25 54 rfl rfl rfl) (hi309.dt 27 56 rfl rfl rfl) eA130 (by first | omega | assumption | (simp only [wI] at *; omega)) (by first | omega | assumption | (simp only [wI] at *; omega)) kI))
          ·exact oW rfl rfl rfl rfl hb122 fun h => yl_fieldAddr fd104_0 rfl (h.dt 28 57 rfl rfl rfl) kI
          ·exact oW rfl rfl rfl rfl hb122 fun h => yl_load1 ty9 rfl (h.dt 29 58 rfl rfl rfl) ((Cells.ex eC130 h.ex) 0 _ rfl) kI
          ·exact oW rfl rfl rfl rfl hb122 fun h => yl_fieldAddr fd104_0 rfl (h.old 4 _ rfl rfl) kI
          ·exact oW rfl rfl rfl rfl hb122 fun h => yl_load1 ty9 rfl (h.dt 31 60 rfl rfl rfl) (((Box.ex hB102 h.ex).cell 0).trans rfl) kI
          ·exact oW rfl rfl rfl rfl hb122 fun h => yl_sgeq (a := ((p_0.Idxs.getD ((IntKind.wrap .i64 ((k30 : Int) - 1)).toNat) d_Idx).Name)) (b := ((p_0.Idxs.getD k30 d_Idx).Name)) rfl (h.dt 30 59 rfl rfl rfl) (h.dt 32 61 rfl rfl rfl) kI
          ·exact oW rfl rfl rfl rfl (not_t hb116) fun h => yl_pick_t rfl (h.dt 23 52 rfl rfl rfl) hb122 (h.dt 33 62 rfl rfl rfl) kI
          ·exact oI rfl fun h => yl_pick_f rfl (h.dt 20 49 rfl rfl rfl) (not_t hb116) (h.dt 34 63 rfl rfl rfl) kI
          ·intro fl363 fh364 L360 w361 hp362
           have hE365 := hp362.ex
           have hE365z := Ex.size hE365
           refine dn (CW.sub (Sub.cons (d := 1) (hp362.old 1 _ rfl rfl) (Sub.cons (d := 22) (hp362.old 22 _ rfl rfl) (Sub.cons (d := 23) (hp362.old 23 _ rfl rfl) (Sub.cons (d := 24) (hp362.old 24 _ rfl rfl) (Sub.cons (d := 34) (hp362.nt 5 34 rfl rfl rfl) (Sub.cons (d := 35) (hp362.nt 6 35 rfl rfl rfl) (Sub.cons (d := 36) (hp362.nt 7 36 rfl rfl rfl) (Sub.cons (d := 37) (hp362.nt 8 37 rfl rfl rfl) (Sub.cons (d := 38) (hp362.nt 9 38 rfl rfl rfl) (Sub.cons (d := 39) (hp362.nt 10 39 rfl rfl rfl) (Sub.cons (d := 40) (hp362.nt 11 40 rfl rfl rfl) (Sub.cons (d := 41) (hp362.nt 12 41 rfl rfl rfl) (Sub.cons (d := 44) (hp362.nt 15 44 rfl rfl rfl) (Sub.cons (d := 45) (hp362.nt 16 45 rfl rfl rfl) (Sub.cons (d := 46) (hp362.nt 17 46 rfl rfl rfl) (Sub.cons (d := 47) (hp362.nt 18 47 rfl rfl rfl) (Sub.cons (d := 50) (hp362.nt 21 50 rfl rfl rfl) (Sub.cons (d := 51) (hp362.nt 22 51 rfl rfl rfl) (Sub.cons (d := 52) (hp362.nt 23 52 rfl rfl rfl) (Sub.cons (d := 53) (hp362.nt 24 53 rfl rfl rfl) (Sub.cons (d := 54) (hp362.nt 25 54 rfl rfl rfl) (Sub.cons (d := 55) (hp362.nt 26 55 rfl rfl rfl) (Sub.cons (d := 56) (hp362.nt 27 56 rfl rfl rfl) (Sub.cons (d := 57) (hp362.nt 28 57 rfl rfl rfl) (Sub.cons (d := 58) (hp362.nt 29 58 rfl rfl rfl) (Sub.cons (d := 59) (hp362.nt 30 59 rfl rfl rfl) (Sub.cons (d := 60) (hp362.nt 31 60 rfl rfl rfl) (Sub.cons (d := 61) (hp362.nt 32 61 rfl rfl rfl) (Sub.cons (d := 62) (hp362.nt 33 62 rfl rfl rfl) (Sub.cons (d := 63) (hp362.nt 34 63 rfl rfl rfl) (Sub.cons (d := 64) (hp362.nt 35 64 rfl rfl rfl) (Sub.nil _)))))))))))))))))))))))))))))))) ?_)
           refine bcase (sLt ((p_0.Idxs.getD ((IntKind.wrap .i64 ((k30 : Int) - 1)).toNat) d_Idx).Name) ((p_0.Idxs.getD k30 d_Idx).Name)) (fun hb397 => ?_) (fun hb397 => ?_)
           ·refine CW.cond_f rfl (not_t hb397) (CW.skip (bn (tn (CW.region (sd rfl (yl_inc rfl rfl rfl (by omega) (sd rfl (yl_move rfl rfl (dn ?_)))))))))
            have hB398 : B_s_GoodTable_0 p_0 k30 () = .cont () := by simp only [B_s_GoodTable_0, hb16, hb23, hb25, hb105, hb110, hb116, hb122, hb397, cL]
            exact ⟨p_0.Idxs.length - (k30 + 1), by omega, k30 + 1, rfl, hlt93, (by omega), rfl, rfl, rfl, rfl, (Box.ex q125 hE365), (RdS.ex good_Str (RdS.only good_Str (RdS.ex good_Str hf89 hE100) hO103 (by simp only [Iv]; omega)) hE365), (RdS.ex good_Idx q129 hE365), (Ex.trans (Below.only (Ex.trans hf91 hE100) hO103 (by omega)) hE365), (loopM.cont hlt93 hB398).symm.trans hI82⟩
           ·refine CW.cond_t rfl (not_f hb397) (CW.seq (CW.region (sd rfl (yl_assign rfl rfl (dn (CW.ret (br (tr ?_))))))))
            refine tr ?_
            have hB408 : B_s_GoodTable_0 p_0 k30 () = .ret false := by simp only [B_s_GoodTable_0, hb16, hb23, hb25, hb105, hb110, hb116, hb122, hb397, cL]
            have hL407 : loopM (B_s_GoodTable_0 p_0) (p_0.Idxs.length - 0) 0 () = .ret false := hI82.symm.trans (loopM.ret hlt93 hB408)
            refine br (tr (rr rfl (.cons rfl .nil) ?_))
            have hM409 : (s_GoodTable p_0) = (false) := by simp only [s_GoodTable, hb16, hb23, hb25, hb105, hb110, hb116, hb122, hb397, hL407, cL]
            rw [hM409]
            exact ⟨rfl, (Ex.trans (Below.only (Ex.trans hf91 hE100) hO103 (by omega)) hE365)⟩
         ·have hb122p := dec_f hb122
          have q415 := Box.only (Box.ex hf88 hE100) hO103 (by omega)
          refine CW.drawsI 36 (vgetI ([.pointer (some ⟨b95, 0 + 0, none⟩), .string (bs ((p_0.Idxs.getD k30 d_Idx).Name)), .bool ((s_l24Letters ((p_0.Idxs.getD k30 d_Idx).Name) 1)), .bool (!(s_l24Letters ((p_0.Idxs.getD k30 d_Idx).Name) 1)), .bool (!(s_l24Letters ((p_0.Idxs.getD k30 d_Idx).Name) 1)), .pointer (some ⟨b95, 0 + 1, none⟩), .int .i64 ((p_0.Idxs.getD k30 d_Idx).Col), .pointer (some ⟨b7, 0 + 1, none⟩), .slice A1 p_0.Cols.length c1, .int .i64 ((p_0.Cols.length : Int)), .int .i64 (IntKind.wrap .i64 ((p_0.Cols.length : Int) - 1)), .bool ((s_l1In ((p_0.Idxs.getD k30 d_Idx).Col) 1 (IntKind.wrap .i64 ((p_0.Cols.length : Int) - 1)))), .bool (!(s_l1In ((p_0.Idxs.getD k30 d_Idx).Col) 1 (IntKind.wrap .i64 ((p_0.Cols.length : Int) - 1)))), .bool (!(s_l1In ((p_0.Idxs.getD k30 d_Idx).Col) 1 (IntKind.wrap .i64 ((p_0.Cols.length : Int) - 1)))), .bool (!(s_l1In ((p_0.Idxs.getD k30 d_Idx).Col) 1 (IntKind.wrap .i64 ((p_0.Cols.length : Int) - 1)))), .pointer (some ⟨b95, 0 + 2, none⟩), .int .i64 ((p_0.Idxs.getD k30 d_Idx).Stage), .bool ((s_l1In ((p_0.Idxs.getD k30 d_Idx).Stage) 0 3)), .bool (!(s_l1In ((p_0.Idxs.getD k30 d_Idx).Stage) 0 3)), .bool (!(s_l1In ((p_0.Idxs.getD k30 d_Idx).Stage) 0 3)), .bool (!(s_l1In ((p_0.Idxs.getD k30 d_Idx).Stage) 0 3)), .int .i64 ((k30 : Int)), .bool (decide (0 < (k30 : Int))), .bool (decide (0 < (k30 : Int))), undef, undef, undef, undef, undef, undef, undef, undef, undef, undef, .bool (false), .bool (false)].map DetI)) Tryz.follows rfl rfl rfl rfl rfl rfl (vgetI_stable (stD _)) ⟨?_, ?_, ?_, ?_, ?_, ?_, ?_, ?_, ?_, ?_, ?_, ?_, ?_, ?_, ?_, ?_, ?_, ?_, ?_, ?_, ?_, ?_, ?_, ?_, ?_, ?_, ?_, ?_, ?_, ?_, ?_, ?_, ?_, ?_, ?_, ?_, trivial⟩ ?_
          ·exact oI rfl fun h => yl_fieldAddr fd104_0 rfl (h.old 4 _ rfl rfl) kI
          ·exact oI rfl fun h => yl_load1 ty9 rfl (h.dt 0 29 rfl rfl rfl) (((Box.ex hB102 h.ex).cell 0).trans rfl) kI
          ·intro L429 w430 hi431
           exact OpR.op' rfl (yl_call en59 rfl (oc (hi431.dt 1 30 rfl rfl rfl) (oc rfl oz)) (Cal.mono (c_s_l24Letters ((p_0.Idxs.getD k30 d_Idx).Name) 1 (okL.getD o3.2.2 ok_d_Idx _)) fun _ _ h => h))
          ·exact oI rfl fun h => yl_not rfl (h.dt 2 31 rfl rfl rfl) kI
          ·exact oI rfl fun h => yl_move rfl (h.dt 3 32 rfl rfl rfl) kI
          ·exact oW rfl rfl rfl rfl (not_t hb105) fun h => yl_fieldAddr fd104_1 rfl (h.old 4 _ rfl rfl) kI
          ·exact oW rfl rfl rfl rfl (not_t hb105) fun h => yl_load1 ty3 rfl (h.dt 5 34 rfl rfl rfl) (((Box.ex hB102 h.ex).cell 1).trans rfl) kI
          ·exact oW rfl rfl rfl rfl (not_t hb105) fun h => yl_fieldAddr fd34_1 rfl (h.old 1 _ rfl rfl) kI
          ·exact oW rfl rfl rfl rfl (not_t hb105) fun h => yl_load1 ty22 rfl (h.dt 7 36 rfl rfl rfl) (((Box.ex q415 h.ex).cell 1).trans rfl) kI
          ·exact oW rfl rfl rfl rfl (not_t hb105) fun h => yl_len un22 rfl (h.dt 8 37 rfl rfl rfl) kI
          ·exact oW rfl rfl rfl rfl (not_t hb105) fun h => yl_sub rfl (h.dt 9 38 rfl rfl rfl) rfl kI
          ·intro L485 w486 hi487
           exact OpR.want rfl rfl (hi487.dt 4 33 rfl rfl rfl) (not_t hb105) (yl_call en61 rfl (oc (hi487.dt 6 35 rfl rfl rfl) (oc rfl (oc (hi487.dt 10 39 rfl rfl rfl) oz))) (Cal.mono (c_s_l1In ((p_0.Idxs.getD k30 d_Idx).Col) 1 (IntKind.wrap .i64 ((p_0.Cols.length : Int) - 1))) fun _ _ h => h))
          ·exact oW rfl rfl rfl rfl (not_t hb105) fun h => yl_not rfl (h.dt 11 40 rfl rfl rfl) kI
          ·exact oI rfl fun h => yl_pick_f rfl (h.dt 4 33 rfl rfl rfl) (not_t hb105) (h.dt 12 41 rfl rfl rfl) kI
          ·exact oI rfl fun h => yl_move rfl (h.dt 13 42 rfl rfl rfl) kI
          ·exact oW rfl rfl rfl rfl (not_t hb110) fun h => yl_fieldAddr fd104_2 rfl (h.old 4 _ rfl rfl) kI
          ·exact oW rfl rfl rfl rfl (not_t hb110) fun h => yl_load1 ty3 rfl (h.dt 15 44 rfl rfl rfl) (((Box.ex hB102 h.ex).cell 2).trans rfl) kI
          ·intro L525 w526 hi527
           exact OpR.want rfl rfl (hi527.dt 14 43 rfl rfl rfl) (not_t hb110) (yl_call en61 rfl (oc (hi527.dt 16 45 rfl rfl rfl) (oc rfl (oc rfl oz))) (Cal.mono (c_s_l1In ((p_0.Idxs.getD k30 d_Idx).Stage) 0 3) fun _ _ h => h))
          ·exact oW rfl rfl rfl rfl (not_t hb110) fun h => yl_not rfl (h.dt 17 46 rfl rfl rfl) kI
          ·exact oI rfl fun h => yl_pick_f rfl (h.dt 14 43 rfl rfl rfl) (not_t hb110) (h.dt 18 47 rfl rfl rfl) kI
          ·exact oI rfl fun h => yl_move rfl (h.dt 19 48 rfl rfl rfl) kI
          ·exact oW rfl rfl rfl rfl (not_t hb116) fun h => yl_move rfl (h.old 3 _ rfl rfl) kI
          ·exact oW rfl rfl rfl rfl (not_t hb116) fun h => yl_gtr rfl (h.dt 21 50 rfl rfl rfl) rfl kI
          ·exact oW rfl rfl rfl rfl (not_t hb116) fun h => yl_move rfl (h.dt 22 51 rfl rfl rfl) kI
          ·exact oS rfl rfl rfl rfl rfl hb122
          ·exact oS rfl rfl rfl rfl rfl hb122
          ·exact oS rfl rfl rfl rfl rfl hb122
          ·exact oS rfl rfl rfl rfl rfl hb122
          ·exact oS rfl rfl rfl rfl rfl hb122
          ·exact oS rfl rfl rfl rfl rfl hb122
          ·exact oS rfl rfl rfl rfl rfl hb122
          ·exact oS rfl rfl rfl rfl rfl hb122
          ·exact oS rfl rfl rfl rfl rfl hb122
          ·exact oS rfl rfl rfl rfl rfl hb122
          ·exact oW rfl rfl rfl rfl (not_t hb116) fun h => yl_pick_f rfl (h.dt 23 52 rfl rfl rfl) hb122 rfl kI
          ·exact oI rfl fun h => yl_pick_f rfl (h.dt 20 49 rfl rfl rfl) (not_t hb116) (h.dt 34 63 rfl rfl rfl) kI
          ·intro fl635 fh636 L632 w633 hp634
           have hE637 := hp634.ex
           have hE637z := Ex.size hE637
           refine dn (CW.sub (Sub.cons (d := 1) (hp634.old 1 _ rfl rfl) (Sub.cons (d := 22) (hp634.old 22 _ rfl rfl) (Sub.cons (d := 23) (hp634.old 23 _ rfl rfl) (Sub.cons (d := 24) (hp634.old 24 _ rfl rfl) (Sub.cons (d := 34) (hp634.nt 5 34 rfl rfl rfl) (Sub.cons (d := 35) (hp634.nt 6 35 rfl rfl rfl) (Sub.cons (d := 36) (hp634.nt 7 36 rfl rfl rfl) (Sub.cons (d := 37) (hp634.nt 8 37 rfl rfl rfl) (Sub.cons (d := 38) (hp634.nt 9 38 rfl rfl rfl) (Sub.cons (d := 39) (hp634.nt 10 39 rfl rfl rfl) (Sub.cons (d := 40) (hp634.nt 11 40 rfl rfl rfl) (Sub.cons (d := 41) (hp634.nt 12 41 rfl rfl rfl) (Sub.cons (d := 44) (hp634.nt 15 44 rfl rfl rfl) (Sub.cons (d := 45) (hp634.nt 16 45 rfl rfl rfl) (Sub.cons (d := 46) (hp634.nt 17 46 rfl rfl rfl) (Sub.cons (d := 47) (hp634.nt 18 47 rfl rfl rfl) (Sub.cons (d := 50) (hp634.nt 21 50 rfl rfl rfl) (Sub.cons (d := 51) (hp634.nt 22 51 rfl rfl rfl) (Sub.cons (d := 52) (hp634.nt 23 52 rfl rfl rfl) (Sub.cons (d := 53) (hp634.nt 24 53 rfl rfl rfl) (Sub.cons (d := 54) (hp634.nt 25 54 rfl rfl rfl) (Sub.cons (d := 55) (hp634.nt 26 55 rfl rfl rfl) (Sub.cons (d := 56) (hp634.nt 27 56 rfl rfl rfl) (Sub.cons (d := 57) (hp634.nt 28 57 rfl rfl rfl) (Sub.cons (d := 58) (hp634.nt 29 58 rfl rfl rfl) (Sub.cons (d := 59) (hp634.nt 30 59 rfl rfl rfl) (Sub.cons (d := 60) (hp634.nt 31 60 rfl rfl rfl) (Sub.cons (d := 61) (hp634.nt 32 61 rfl rfl rfl) (Sub.cons (d := 62) (hp634.nt 33 62 rfl rfl rfl) (Sub.cons (d := 63) (hp634.nt 34 63 rfl rfl rfl) (Sub.cons (d := 64) (hp634.nt 35 64 rfl rfl rfl) (Sub.nil _)))))))))))))))))))))))))))))))) ?_)
           refine CW.cond_f rfl rfl (CW.skip (bn (tn (CW.region (sd rfl (yl_inc rfl rfl rfl (by omega) (sd rfl (yl_move rfl rfl (dn ?_)))))))))
           have hB669 : B_s_GoodTable_0 p_0 k30 () = .cont () := by simp only [B_s_GoodTable_0, hb16, hb23, hb25, hb105, hb110, hb116, hb122, cL]
           exact ⟨p_0.Idxs.length - (k30 + 1), by omega, k30 + 1, rfl, hlt93, (by omega), rfl, rfl, rfl, rfl, (Box.ex q415 hE637), (RdS.ex good_Str (RdS.only good_Str (RdS.ex good_Str hf89 hE100) hO103 (by simp only [Iv]; omega)) hE637), (RdS.ex good_Idx (RdS.only good_Idx (RdS.ex good_Idx hf90 hE100) hO103 (by simp only [Iv]; omega)) hE637), (Ex.trans (Below.only (Ex.trans hf91 hE100) hO103 (by omega)) hE637), (loopM.cont hlt93 hB669).symm.trans hI82⟩
        ·refine CW.drawsI 36 (vgetI ([.pointer (some ⟨b95, 0 + 0, none⟩), .string (bs ((p_0.Idxs.getD k30 d_Idx).Name)), .bool ((s_l24Letters ((p_0.Idxs.getD k30 d_Idx).Name) 1)), .bool (!(s_l24Letters ((p_0.Idxs.getD k30 d_Idx).Name) 1)), .bool (!(s_l24Letters ((p_0.Idxs.getD k30 d_Idx).Name) 1)), .pointer (some ⟨b95, 0 + 1, none⟩), .int .i64 ((p_0.Idxs.getD k30 d_Idx).Col), .pointer (some ⟨b7, 0 + 1, none⟩), .slice A1 p_0.Cols.length c1, .int .i64 ((p_0.Cols.length : Int)), .int .i64 (IntKind.wrap .i64 ((p_0.Cols.length : Int) - 1)), .bool ((s_l1In ((p_0.Idxs.getD k30 d_Idx).Col) 1 (IntKind.wrap .i64 ((p_0.Cols.length : Int) - 1)))), .bool (!(s_l1In ((p_0.Idxs.getD k30 d_Idx).Col) 1 (IntKind.wrap .i64 ((p_0.Cols.length : Int) - 1)))), .bool (!(s_l1In ((p_0.Idxs.getD k30 d_Idx).Col) 1 (IntKind.wrap .i64 ((p_0.Cols.length : Int) - 1)))), .bool (!(s_l1In ((p_0.Idxs.getD k30 d_Idx).Col) 1 (IntKind.wrap .i64 ((p_0.Cols.length : Int) - 1)))), .pointer (some ⟨b95, 0 + 2, none⟩), .int .i64 ((p_0.Idxs.getD k30 d_Idx).Stage), .bool ((s_l1In ((p_0.Idxs.getD k30 d_Idx).Stage) 0 3)), .bool (!(s_l1In ((p_0.Idxs.getD k30 d_Idx).Stage) 0 3)), .bool (!(s_l1In ((p_0.Idxs.getD k30 d_Idx).Stage) 0 3)), .bool (!(s_l1In ((p_0.Idxs.getD k30 d_Idx).Stage) 0 3)), undef, undef, undef, undef, undef, undef, undef, undef, undef, undef, undef, undef, undef, undef, .bool (true)].map DetI)) Tryz.follows rfl rfl rfl rfl rfl rfl (vgetI_stable (stD _)) ⟨?_, ?_, ?_, ?_, ?_, ?_, ?_, ?_, ?_, ?_, ?_, ?_, ?_, ?_, ?_, ?_, ?_, ?_, ?_, ?_, ?_, ?_, ?_, ?_, ?_, ?_, ?_, ?_, ?_, ?_, ?_, ?_, ?_, ?_, ?_, ?_, trivial⟩ ?_
         ·exact oI rfl fun h => yl_fieldAddr fd104_0 rfl (h.old 4 _ rfl rfl) kI
         ·exact oI rfl fun h => yl_load1 ty9 rfl (h.dt 0 29 rfl rfl rfl) (((Box.ex hB102 h.ex).cell 0).trans rfl) kI
         ·intro L696 w697 hi698
          exact OpR.op' rfl (yl_call en59 rfl (oc (hi698.dt 1 30 rfl rfl rfl) (oc rfl oz)) (Cal.mono (c_s_l24Letters ((p_0.Idxs.getD k30 d_Idx).Name) 1 (okL.getD o3.2.2 ok_d_Idx _)) fun _ _ h => h))
         ·exact oI rfl fun h => yl_not rfl (h.dt 2 31 rfl rfl rfl) kI
         ·exact oI rfl fun h => yl_move rfl (h.dt 3 32 rfl rfl rfl) kI
         ·exact oW rfl rfl rfl rfl (not_t hb105) fun h => yl_fieldAddr fd104_1 rfl (h.old 4 _ rfl rfl) kI
         ·exact oW rfl rfl rfl rfl (not_t hb105) fun h => yl_load1 ty3 rfl (h.dt 5 34 rfl rfl rfl) (((Box.ex hB102 h.ex).cell 1).trans rfl) kI
         ·exact oW rfl rfl rfl rfl (not_t hb105) fun h => yl_fieldAddr fd34_1 rfl (h.old 1 _ rfl rfl) kI
         ·intro L733 w734 hi735
          have hE736 := hi735.ex
          have hE736z := Ex.size hE736
          exact OpR.want rfl rfl (hi735.dt 4 33 rfl rfl rfl) (not_t hb105) (Yl.sameI (yl_load1 ty22 rfl (hi735.dt 7 36 rfl rfl rfl) (((Box.ex (Box.only (Box.ex hf88 hE100) hO103 (by omega)) hE736).cell 1).trans rfl) kI))
         ·exact oW rfl rfl rfl rfl (not_t hb105) fun h => yl_len un22 rfl (h.dt 8 37 rfl rfl rfl) kI
         ·exact oW rfl rfl rfl rfl (not_t hb105) fun h => yl_sub rfl (h.dt 9 38 rfl rfl rfl) rfl kI
         ·intro L752 w753 hi754
          exact OpR.want rfl rfl (hi754.dt 4 33 rfl rfl rfl) (not_t hb105) (yl_call en61 rfl (oc (hi754.dt 6 35 rfl rfl rfl) (oc rfl (oc (hi754.dt 10 39 rfl rfl rfl) oz))) (Cal.mono (c_s_l1In ((p_0.Idxs.getD k30 d_Idx).Col) 1 (IntKind.wrap .i64 ((p_0.Cols.length : Int) - 1))) fun _ _ h => h))
         ·exact oW rfl rfl rfl rfl (not_t hb105) fun h => yl_not rfl (h.dt 11 40 rfl rfl rfl) kI
         ·exact oI rfl fun h => yl_pick_f rfl (h.dt 4 33 rfl rfl rfl) (not_t hb105) (h.dt 12 41 rfl rfl rfl) kI
         ·exact oI rfl fun h => yl_move rfl (h.dt 13 42 rfl rfl rfl) kI
         ·exact oW rfl rfl rfl rfl (not_t hb110) fun h => yl_fieldAddr fd104_2 rfl (h.old 4 _ rfl rfl) kI
         ·exact oW rfl rfl rfl rfl (not_t hb110) fun h => yl_load1 ty3 rfl (h.dt 15 44 rfl rfl rfl) (((Box.ex hB102 h.ex).cell 2).trans rfl) kI
         ·intro L792 w793 hi794
          exact OpR.want rfl rfl (hi794.dt 14 43 rfl rfl rfl) (not_t hb110) (yl_call en61 rfl (oc (hi794.dt 16 45 rfl rfl rfl) (oc rfl (oc rfl oz))) (Cal.mono (c_s_l1In ((p_0.Idxs.getD k30 d_Idx).Stage) 0 3) fun _ _ h => h))
         ·exact oW rfl rfl rfl rfl (not_t hb110) fun h => yl_not rfl (h.dt 17 46 rfl rfl rfl) kI
         ·exact oI rfl fun h => yl_pick_f rfl (h.dt 14 43 rfl rfl rfl) (not_t hb110) (h.dt 18 47 rfl rfl rfl) kI
         ·exact oI rfl fun h => yl_move rfl (h.dt 19 48 rfl rfl rfl) kI
         ·exact oS rfl rfl rfl rfl rfl (not_f hb116)
         ·exact oS rfl rfl rfl rfl rfl (not_f hb116)
         ·exact oS rfl rfl rfl rfl rfl (not_f hb116)
         ·exact oU rfl rfl rfl rfl rfl
         ·exact oU rfl rfl rfl rfl rfl
         ·exact oU rfl rfl rfl rfl rfl
         ·exact oU rfl rfl rfl rfl rfl
         ·exact oU rfl rfl rfl rfl rfl
         ·exact oU rfl rfl rfl rfl rfl
         ·exact oU rfl rfl rfl rfl rfl
         ·exact oU rfl rfl rfl rfl rfl
         ·exact oU rfl rfl rfl rfl rfl
         ·exact oU rfl rfl rfl rfl rfl
         ·exact oS rfl rfl rfl rfl rfl (not_f hb116)
         ·exact oI rfl fun h => yl_pick_t rfl (h.dt 20 49 rfl rfl rfl) (not_f hb116) rfl kI
         ·intro fl897 fh898 L894 w895 hp896
          have hE899 := hp896.ex
          have hE899z := Ex.size hE899
          refine dn (CW.sub (Sub.cons (d := 1) (hp896.old 1 _ rfl rfl) (Sub.cons (d := 22) (hp896.old 22 _ rfl rfl) (Sub.cons (d := 23) (hp896.old 23 _ rfl rfl) (Sub.cons (d := 24) (hp896.old 24 _ rfl rfl) (Sub.cons (d := 34) (hp896.nt 5 34 rfl rfl rfl) (Sub.cons (d := 35) (hp896.nt 6 35 rfl rfl rfl) (Sub.cons (d := 36) (hp896.nt 7 36 rfl rfl rfl) (Sub.cons (d := 37) (hp896.nt 8 37 rfl rfl rfl) (Sub.cons (d := 38) (hp896.nt 9 38 rfl rfl rfl) (Sub.cons (d := 39) (hp896.nt 10 39 rfl rfl rfl) (Sub.cons (d := 40) (hp896.nt 11 40 rfl rfl rfl) (Sub.cons (d := 41) (hp896.nt 12 41 rfl rfl rfl) (Sub.cons (d := 44) (hp896.nt 15 44 rfl rfl rfl) (Sub.cons (d := 45) (hp896.nt 16 45 rfl rfl rfl) (Sub.cons (d := 46) (hp896.nt 17 46 rfl rfl rfl) (Sub.cons (d := 47) (hp896.nt 18 47 rfl rfl rfl) (Sub.cons (d := 50) (hp896.nt 21 50 rfl rfl rfl) (Sub.cons (d := 51) (hp896.nt 22 51 rfl rfl rfl) (Sub.cons (d := 52) (hp896.nt 23 52 rfl rfl rfl) (Sub.cons (d := 53) (hp896.nt 24 53 rfl rfl rfl) (Sub.cons (d := 54) (hp896.nt 25 54 rfl rfl rfl) (Sub.cons (d := 55) (hp896.nt 26 55 rfl rfl rfl) (Sub.cons (d := 56) (hp896.nt 27 56 rfl rfl rfl) (Sub.cons (d := 57) (hp896.nt 28 57 rfl rfl rfl) (Sub.cons (d := 58) (hp896.nt 29 58 rfl rfl rfl) (Sub.cons (d := 59) (hp896.nt 30 59 rfl rfl rfl) (Sub.cons (d := 60) (hp896.nt 31 60 rfl rfl rfl) (Sub.cons (d := 61) (hp896.nt 32 61 rfl rfl rfl) (Sub.cons (d := 62) (hp896.nt 33 62 rfl rfl rfl) (Sub.cons (d := 63) (hp896.nt 34 63 rfl rfl rfl) (Sub.cons (d := 64) (hp896.nt 35 64 rfl rfl rfl) (Sub.nil _)))))))))))))))))))))))))))))))) ?_)
          refine CW.cond_t rfl rfl (CW.seq (CW.region (sd rfl (yl_assign rfl rfl (dn (CW.ret (br (tr ?_))))))))
          refine tr ?_
          have hB932 : B_s_GoodTable_0 p_0 k30 () = .ret false := by simp only [B_s_GoodTable_0, hb16, hb23, hb25, hb105, hb110, hb116, cL]
          have hL931 : loopM (B_s_GoodTable_0 p_0) (p_0.Idxs.length - 0) 0 () = .ret false := hI82.symm.trans (loopM.ret hlt93 hB932)
          refine br (tr (rr rfl (.cons rfl .nil) ?_))
          have hM933 : (s_GoodTable p_0) = (false) := by simp only [s_GoodTable, hb16, hb23, hb25, hb105, hb110, hb116, hL931, cL]
          rw [hM933]
          exact ⟨rfl, (Ex.trans (Below.only (Ex.trans hf91 hE100) hO103 (by omega)) hE899)⟩
       ·refine CW.drawsI 36 (vgetI ([.pointer (some ⟨b95, 0 + 0, none⟩), .string (bs ((p_0.Idxs.getD k30 d_Idx).Name)), .bool ((s_l24Letters ((p_0.Idxs.getD k30 d_Idx).Name) 1)), .bool (!(s_l24Letters ((p_0.Idxs.getD k30 d_Idx).Name) 1)), .bool (!(s_l24Letters ((p_0.Idxs.getD k30 d_Idx).Name) 1)), .pointer (some ⟨b95, 0 + 1, none⟩), .int .i64 ((p_0.Idxs.getD k30 d_Idx).Col), .pointer (some ⟨b7, 0 + 1, none⟩), .slice A1 p_0.Cols.length c1, .int .i64 ((p_0.Cols.length : Int)), .int .i64 (IntKind.wrap .i64 ((p_0.Cols.length : Int) - 1)), .bool ((s_l1In ((p_0.Idxs.getD k30 d_Idx).Col) 1 (IntKind.wrap .i64 ((p_0.Cols.length : Int) - 1)))), .bool (!(s_l1In ((p_0.Idxs.getD k30 d_Idx).Col) 1 (IntKind.wrap .i64 ((p_0.Cols.length : Int) - 1)))), .bool (!(s_l1In ((p_0.Idxs.getD k30 d_Idx).Col) 1 (IntKind.wrap .i64 ((p_0.Cols.length : Int) - 1)))), .bool (!(s_l1In ((p_0.Idxs.getD k30 d_Idx).Col) 1 (IntKind.wrap .i64 ((p_0.Cols.length : Int) - 1)))), undef, undef, undef, undef, .bool (true), .bool (true), undef, undef, undef, undef, undef, undef, undef, undef, undef, undef, undef, undef, undef, undef, .bool (true)].map DetI)) Tryz.follows rfl rfl rfl rfl rfl rfl (vgetI_stable (stD _)) ⟨?_, ?_, ?_, ?_, ?_, ?_, ?_, ?_, ?_, ?_, ?_, ?_, ?_, ?_, ?_, ?_, ?_, ?_, ?_, ?_, ?_, ?_, ?_, ?_, ?_, ?_, ?_, ?_, ?_, ?_, ?_, ?_, ?_, ?_, ?_, ?_, trivial⟩ ?_
        ·exact oI rfl fun h => yl_fieldAddr fd104_0 rfl (h.old 4 _ rfl rfl) kI
        ·exact oI rfl fun h => yl_load1 ty9 rfl (h.dt 0 29 rfl rfl rfl) (((Box.ex hB102 h.ex).cell 0).trans rfl) kI
        ·intro L952 w953 hi954
         exact OpR.op' rfl (yl_call en59 rfl (oc (hi954.dt 1 30 rfl rfl rfl) (oc rfl oz)) (Cal.mono (c_s_l24Letters ((p_0.Idxs.getD k30 d_Idx).Name) 1 (okL.getD o3.2.2 ok_d_Idx _)) fun _ _ h => h))
        ·exact oI rfl fun h => yl_not rfl (h.dt 2 31 rfl rfl rfl) kI
        ·exact oI rfl fun h => yl_move rfl (h.dt 3 32 rfl rfl rfl) kI
        ·exact oW rfl rfl rfl rfl (not_t hb105) fun h => yl_fieldAddr fd104_1 rfl (h.old 4 _ rfl rfl) kI
        ·exact oW rfl rfl rfl rfl (not_t hb105) fun h => yl_load1 ty3 rfl (h.dt 5 34 rfl rfl rfl) (((Box.ex hB102 h.ex).cell 1).trans rfl) kI
        ·exact oW rfl rfl rfl rfl (not_t hb105) fun h => yl_fieldAddr fd34_1 rfl (h.old 1 _ rfl rfl) kI
        ·intro L989 w990 hi991
         have hE992 := hi991.ex
         have hE992z := Ex.size hE992
         exact OpR.want rfl rfl (hi991.dt 4 33 rfl rfl rfl) (not_t hb105) (Yl.sameI (yl_load1 ty22 rfl (hi991.dt 7 36 rfl rfl rfl) (((Box.ex (Box.only (Box.ex hf88 hE100) hO103 (by omega)) hE992).cell 1).trans rfl) kI))
        ·exact oW rfl rfl rfl rfl (not_t hb105) fun h => yl_len un22 rfl (h.dt 8 37 rfl rfl rfl) kI
        ·exact oW rfl rfl rfl rfl (not_t hb105) fun h => yl_sub rfl (h.dt 9 38 rfl rfl rfl) rfl kI
        ·intro L1008 w1009 hi1010
         exact OpR.want rfl rfl (hi1010.dt 4 33 rfl rfl rfl) (not_t hb105) (yl_call en61 rfl (oc (hi1010.dt 6 35 rfl rfl rfl) (oc rfl (oc (hi1010.dt 10 39 rfl rfl rfl) oz))) (Cal.mono (c_s_l1In ((p_0.Idxs.getD k30 d_Idx).Col) 1 (IntKind.wrap .i64 ((p_0.Cols.length : Int) - 1))) fun _ _ h => h))
        ·exact oW rfl rfl rfl rfl (not_t hb105) fun h => yl_not rfl (h.dt 11 40 rfl rfl rfl) kI
        ·exact oI rfl fun h => yl_pick_f rfl (h.dt 4 33 rfl rfl rfl) (not_t hb105) (h.dt 12 41 rfl rfl rfl) kI
        ·exact oI rfl fun h => yl_move rfl (h.dt 13 42 rfl rfl rfl) kI
        ·exact oS rfl rfl rfl rfl rfl (not_f hb110)
        ·exact oS rfl rfl rfl rfl rfl (not_f hb110)
        ·exact oS rfl rfl rfl rfl rfl (not_f hb110)
        ·exact oS rfl rfl rfl rfl rfl (not_f hb110)
        ·exact oI rfl fun h => yl_pick_t rfl (h.dt 14 43 rfl rfl rfl) (not_f hb110) rfl kI
        ·exact oI rfl fun h => yl_move rfl (h.dt 19 48 rfl rfl rfl) kI
        ·exact oS rfl rfl rfl rfl rfl rfl
        ·exact oS rfl rfl rfl rfl rfl rfl
        ·exact oS rfl rfl rfl rfl rfl rfl
        ·exact oU rfl rfl rfl rfl rfl
        ·exact oU rfl rfl rfl rfl rfl
        ·exact oU rfl rfl rfl rfl rfl
        ·exact oU rfl rfl rfl rfl rfl
        ·exact oU rfl rfl rfl rfl rfl
        ·exact oU rfl rfl rfl rfl rfl
        ·exact oU rfl rfl rfl rfl rfl
        ·exact oU rfl rfl rfl rfl rfl
        ·exact oU rfl rfl rfl rfl rfl
        ·exact oU rfl rfl rfl rfl rfl
        ·exact oS rfl rfl rfl rfl rfl rfl
        ·exact oI rfl fun h => yl_pick_t rfl (h.dt 20 49 rfl rfl rfl) rfl rfl kI
        ·intro fl1145 fh1146 L1142 w1143 hp1144
         have hE1147 := hp1144.ex
         have hE1147z := Ex.size hE1147
         refine dn (CW.sub (Sub.cons (d := 1) (hp1144.old 1 _ rfl rfl) (Sub.cons (d := 22) (hp1144.old 22 _ rfl rfl) (Sub.cons (d := 23) (hp1144.old 23 _ rfl rfl) (Sub.cons (d := 24) (hp1144.old 24 _ rfl rfl) (Sub.cons (d := 34) (hp1144.nt 5 34 rfl rfl rfl) (Sub.cons (d := 35) (hp1144.nt 6 35 rfl rfl rfl) (Sub.cons (d := 36) (hp1144.nt 7 36 rfl rfl rfl) (Sub.cons (d := 37) (hp1144.nt 8 37 rfl rfl rfl) (Sub.cons (d := 38) (hp1144.nt 9 38 rfl rfl rfl) (Sub.cons (d := 39) (hp1144.nt 10 39 rfl rfl rfl) (Sub.cons (d := 40) (hp1144.nt 11 40 rfl rfl rfl) (Sub.cons (d := 41) (hp1144.nt 12 41 rfl rfl rfl) (Sub.cons (d := 44) (hp1144.nt 15 44 rfl rfl rfl) (Sub.cons (d := 45) (hp1144.nt 16 45 rfl rfl rfl) (Sub.cons (d := 46) (hp1144.nt 17 46 rfl rfl rfl) (Sub.cons (d := 47) (hp1144.nt 18 47 rfl rfl rfl) (Sub.cons (d := 50) (hp1144.nt 21 50 rfl rfl rfl) (Sub.cons (d := 51) (hp1144.nt 22 51 rfl rfl rfl) (Sub.cons (d := 52) (hp1144.nt 23 52 rfl rfl rfl) (Sub.cons (d := 53) (hp1144.nt 24 53 rfl rfl rfl) (Sub.cons (d := 54) (hp1144.nt 25 54 rfl rfl rfl) (Sub.cons (d := 55) (hp1144.nt 26 55 rfl rfl rfl) (Sub.cons (d := 56) (hp1144.nt 27 56 rfl rfl rfl) (Sub.cons (d := 57) (hp1144.nt 28 57 rfl rfl rfl) (Sub.cons (d := 58) (hp1144.nt 29 58 rfl rfl rfl) (Sub.cons (d := 59) (hp1144.nt 30 59 rfl rfl rfl) (Sub.cons (d := 60) (hp1144.nt 31 60 rfl rfl rfl) (Sub.cons (d := 61) (hp1144.nt 32 61 rfl rfl rfl) (Sub.cons (d := 62) (hp1144.nt 33 62 rfl rfl rfl) (Sub.cons (d := 63) (hp1144.nt 34 63 rfl rfl rfl) (Sub.cons (d := 64) (hp1144.nt 35 64 rfl rfl rfl) (Sub.nil _)))))))))))))))))))))))))))))))) ?_)
         refine CW.cond_t rfl rfl (CW.seq (CW.region (sd rfl (yl_assign rfl rfl (dn (CW.ret (br (tr ?_))))))))
         refine tr ?_
         have hB1180 : B_s_GoodTable_0 p_0 k30 () = .ret false := by simp only [B_s_GoodTable_0, hb16, hb23, hb25, hb105, hb110, cL]
         have hL1179 : loopM (B_s_GoodTable_0 p_0) (p_0.Idxs.length - 0) 0 () = .ret false := hI82.symm.trans (loopM.ret hlt93 hB1180)
         refine br (tr (rr rfl (.cons rfl .nil) ?_))
         have hM1181 : (s_GoodTable p_0) = (false) := by simp only [s_GoodTable, hb16, hb23, hb25, hb105, hb110, hL1179, cL]
         rw [hM1181]
         exact ⟨rfl, (Ex.trans (Below.only (Ex.trans hf91 hE100) hO103 (by omega)) hE1147)⟩
      ·refine CW.drawsI 36 (vgetI ([.pointer (some ⟨b95, 0 + 0, none⟩), .string (bs ((p_0.Idxs.getD k30 d_Idx).Name)), .bool ((s_l24Letters ((p_0.Idxs.getD k30 d_Idx).Name) 1)), .bool (!(s_l24Letters ((p_0.Idxs.getD k30 d_Idx).Name) 1)), .bool (!(s_l24Letters ((p_0.Idxs.getD k30 d_Idx).Name) 1)), undef, undef, undef, undef, undef, undef, undef, undef, .bool (true), .bool (true), undef, undef, undef, undef, .bool (true), .bool (true), undef, undef, undef, undef, undef, undef, undef, undef, undef, undef, undef, undef, undef, undef, .bool (true)].map DetI)) Tryz.follows rfl rfl rfl rfl rfl rfl (vgetI_stable (stD _)) ⟨?_, ?_, ?_, ?_, ?_, ?_, ?_, ?_, ?_, ?_, ?_, ?_, ?_, ?_, ?_, ?_, ?_, ?_, ?_, ?_, ?_, ?_, ?_, ?_, ?_, ?_, ?_, ?_, ?_, ?_, ?_, ?_, ?_, ?_, ?_, ?_, trivial⟩ ?_
       ·exact oI rfl fun h => yl_fieldAddr fd104_0 rfl (h.old 4 _ rfl rfl) kI
       ·exact oI rfl fun h => yl_load1 ty9 rfl (h.dt 0 29 rfl rfl rfl) (((Box.ex hB102 h.ex).cell 0).trans rfl) kI
       ·intro L1197 w1198 hi1199
        exact OpR.op' rfl (yl_call en59 rfl (oc (hi1199.dt 1 30 rfl rfl rfl) (oc rfl oz)) (Cal.mono (c_s_l24Letters ((p_0.Idxs.getD k30 d_Idx).Name) 1 (okL.getD o3.2.2 ok_d_Idx _)) fun _ _ h => h))
       ·exact oI rfl fun h => yl_not rfl (h.dt 2 31 rfl rfl rfl) kI
       ·exact oI rfl fun h => yl_move rfl (h.dt 3 32 rfl rfl rfl) kI
       ·exact oS rfl rfl rfl rfl rfl (not_f hb105)
       ·exact oS rfl rfl rfl rfl rfl (not_f hb105)
       ·exact oS rfl rfl rfl rfl rfl (not_f hb105)
       ·exact oS rfl rfl rfl rfl rfl (not_f hb105)
       ·exact oS rfl rfl rfl rfl rfl (not_f hb105)
       ·exact oS rfl rfl rfl rfl rfl (not_f hb105)
       ·exact oS rfl rfl rfl rfl rfl (not_f hb105)
       ·exact oS rfl rfl rfl rfl rfl (not_f hb105)
       ·exact oI rfl fun h => yl_pick_t rfl (h.dt 4 33 rfl rfl rfl) (not_f hb105) rfl kI
       ·exact oI rfl fun h => yl_move rfl (h.dt 13 42 rfl rfl rfl) kI
       ·exact oS rfl rfl rfl rfl rfl rfl
       ·exact oS rfl rfl rfl rfl rfl rfl
       ·exact oS rfl rfl rfl rfl rfl rfl
       ·exact oS rfl rfl rfl rfl rfl rfl
       ·exact oI rfl fun h => yl_pick_t rfl (h.dt 14 43 rfl rfl rfl) rfl rfl kI
       ·exact oI rfl fun h => yl_move rfl (h.dt 19 48 rfl rfl rfl) kI
       ·exact oS rfl rfl rfl rfl rfl rfl
       ·exact oS rfl rfl rfl rfl rfl rfl
       ·exact oS rfl rfl rfl rfl rfl rfl
       ·exact oU rfl rfl rfl rfl rfl
       ·exact oU rfl rfl rfl rfl rfl
       ·exact oU rfl rfl rfl rfl rfl
       ·exact oU rfl rfl rfl rfl rfl
       ·exact oU rfl rfl rfl rfl rfl
       ·exact oU rfl rfl rfl rfl rfl
       ·exact oU rfl rfl rfl rfl rfl
       ·exact oU rfl rfl rfl rfl rfl
       ·exact oU rfl rfl rfl rfl rfl
       ·exact oU rfl rfl rfl rfl rfl
       ·exact oS rfl rfl rfl rfl rfl rfl
       ·exact oI rfl fun h => yl_pick_t rfl (h.dt 20 49 rfl rfl rfl) rfl rfl kI
       ·intro fl1376 fh1377 L1373 w1374 hp1375
        have hE1378 := hp1375.ex
        have hE1378z := Ex.size hE1378
        refine dn (CW.sub (Sub.cons (d := 1) (hp1375.old 1 _ rfl rfl) (Sub.cons (d := 22) (hp1375.old 22 _ rfl rfl) (Sub.cons (d := 23) (hp1375.old 23 _ rfl rfl) (Sub.cons (d := 24) (hp1375.old 24 _ rfl rfl) (Sub.cons (d := 34) (hp1375.nt 5 34 rfl rfl rfl) (Sub.cons (d := 35) (hp1375.nt 6 35 rfl rfl rfl) (Sub.cons (d := 36) (hp1375.nt 7 36 rfl rfl rfl) (Sub.cons (d := 37) (hp1375.nt 8 37 rfl rfl rfl) (Sub.cons (d := 38) (hp1375.nt 9 38 rfl rfl rfl) (Sub.cons (d := 39) (hp1375.nt 10 39 rfl rfl rfl) (Sub.cons (d := 40) (hp1375.nt 11 40 rfl rfl rfl) (Sub.cons (d := 41) (hp1375.nt 12 41 rfl rfl rfl) (Sub.cons (d := 44) (hp1375.nt 15 44 rfl rfl rfl) (Sub.cons (d := 45) (hp1375.nt 16 45 rfl rfl rfl) (Sub.cons (d := 46) (hp1375.nt 17 46 rfl rfl rfl) (Sub.cons (d := 47) (hp1375.nt 18 47 rfl rfl rfl) (Sub.cons (d := 50) (hp1375.nt 21 50 rfl rfl rfl) (Sub.cons (d := 51) (hp1375.nt 22 51 rfl rfl rfl) (Sub.cons (d := 52) (hp1375.nt 23 52 rfl rfl rfl) (Sub.cons (d := 53) (hp1375.nt 24 53 rfl rfl rfl) (Sub.cons (d := 54) (hp1375.nt 25 54 rfl rfl rfl) (Sub.cons (d := 55) (hp1375.nt 26 55 rfl rfl rfl) (Sub.cons (d := 56) (hp1375.nt 27 56 rfl rfl rfl) (Sub.cons (d := 57) (hp1375.nt 28 57 rfl rfl rfl) (Sub.cons (d := 58) (hp1375.nt 29 58 rfl rfl rfl) (Sub.cons (d := 59) (hp1375.nt 30 59 rfl rfl rfl) (Sub.cons (d := 60) (hp1375.nt 31 60 rfl rfl rfl) (Sub.cons (d := 61) (hp1375.nt 32 61 rfl rfl rfl) (Sub.cons (d := 62) (hp1375.nt 33 62 rfl rfl rfl) (Sub.cons (d := 63) (hp1375.nt 34 63 rfl rfl rfl) (Sub.cons (d := 64) (hp1375.nt 35 64 rfl rfl rfl) (Sub.nil _)))))))))))))))))))))))))))))))) ?_)
        refine CW.cond_t rfl rfl (CW.seq (CW.region (sd rfl (yl_assign rfl rfl (dn (CW.ret (br (tr ?_))))))))
        refine tr ?_
        have hB1411 : B_s_GoodTable_0 p_0 k30 () = .ret false := by simp only [B_s_GoodTable_0, hb16, hb23, hb25, hb105, cL]
        have hL1410 : loopM (B_s_GoodTable_0 p_0) (p_0.Idxs.length - 0) 0 () = .ret false := hI82.symm.trans (loopM.ret hlt93 hB1411)
        refine br (tr (rr rfl (.cons rfl .nil) ?_))
        have hM1412 : (s_GoodTable p_0) = (false) := by simp only [s_GoodTable, hb16, hb23, hb25, hb105, hL1410, cL]
        rw [hM1412]
        exact ⟨rfl, (Ex.trans (Below.only (Ex.trans hf91 hE100) hO103 (by omega)) hE1378)⟩
     ·refine CW.seq (CW.region (sd rfl (yl_lss rfl rfl rfl (dn (CW.seq (CW.cond_f rfl (lt_f hlt93) (CW.exit (tx ?_))))))))
      refine tx ?_
      have hL1416 : loopM (B_s_GoodTable_0 p_0) (p_0.Idxs.length - 0) 0 () = .done () := hI82.symm.trans (loopM.stop hlt93)
      refine bx (tn (CW.seq (CW.region (sd rfl (yl_assign rfl rfl (dn (CW.ret (rr rfl (.cons rfl .nil) ?_))))))))
      have hM1417 : (s_GoodTable p_0) = (true) := by simp only [s_GoodTable, hb16, hb23, hb25, hL1416, cL]
      rw [hM1417]
      exact ⟨rfl, hf91⟩
  ·refine sz rfl rfl (not_f hb23) (sz rfl rfl (not_f hb23) (sz rfl rfl (not_f hb23) (sz rfl rfl (not_f hb23) (sd rfl (yl_pick_t rfl rfl (not_f hb23) rfl (dn (CW.cond_t rfl rfl (CW.seq ?_))))))))
   refine CW.region (sd rfl (yl_assign rfl rfl (dn (CW.ret (tr (rr rfl (.cons rfl .nil) ?_))))))
   have hM1418 : (s_GoodTable p_0) = (false) := by simp only [s_GoodTable, hb16, hb23, cL]
   rw [hM1418]
   exact ⟨rfl, (Ex.trans (Ex.trans (Ex.trans (Ex.refl w) hE12) hE15) hE22)⟩
 ·refine sz rfl rfl (not_f hb16) (sz rfl rfl (not_f hb16) (sz rfl rfl (not_f hb16) (sz rfl rfl (not_f hb16) (sd rfl (yl_pick_t rfl rfl (not_f hb16) rfl (sd rfl (yl_move rfl rfl (sz rfl rfl rfl (sz rfl rfl rfl (sz rfl rfl rfl ?_))))))))))
  refine sz rfl rfl rfl (sd rfl (yl_pick_t rfl rfl rfl rfl (dn (CW.cond_t rfl rfl (CW.seq (CW.region (sd rfl (yl_assign rfl rfl (SeqR.done ?_)))))))))
  refine tn (CW.ret (tr (rr rfl (.cons rfl .nil) ?_)))
  have hM1422 : (s_GoodTable p_0) = (false) := by simp only [s_GoodTable, hb16, cL]
  rw [hM1422]
  exact ⟨rfl, (Ex.trans (Ex.trans (Ex.refl w) hE12) hE15)⟩
theorem c_s_l24Idx {A1 : Option Addr} {c1 : Nat} {A2 : Option Addr} {c2 : Nat} {w : World} (p_t : DTable) (p_name : Str) (h1 : RdS w (Iv 0 w.heap.size) (RF e_Str) 1 A1 p_t.Cols.length c1 p_t.Cols) (h2 : RdS w (Iv 0 w.heap.size) (RF e_Idx) 3 A2 p_t.Idxs.length c2 p_t.Idxs) (o3 : ok_Table p_t) (o4 : okS p_name) : Cal Tryz.prog 81 #[.agg #[.string (bs (p_t.Name)), .slice A1 p_t.Cols.length c1, .slice A2 p_t.Idxs.length c2], .string (bs (p_name))] w fun v w' => v = .int .i64 ((s_l24Idx p_t p_name)) ∧ Ex w w' := by
 have hol5 : p_t.Name.length ≤ 1073741824 := o3.1
 have hol6 := o3.2.1.1
 have hol7 := o3.2.2.1
 have hol8 : p_name.length ≤ 1073741824 := o4
 refine Cal.of func81 rfl ntmps81 rfl (CW.seq (CW.region (sd rfl (yl_box rfl rfl rfl ?_))))
 intro b9 w10 hs11 hz12 hB13 hE14
 refine sd rfl (yl_assign rfl rfl (dn (CW.seq (CW.seq (CW.region (sd rfl (yl_fieldAddr fd34_2 rfl rfl (sd rfl (yl_load1 ty32 rfl rfl ((hB13.cell 2).trans rfl) (sd rfl (yl_len un32 rfl rfl ?_)))))))))))
 refine sd rfl (yl_move rfl rfl (dn (CW.block (CW.loop (fun m27 L28 w29 => ∃ (k15 : Nat), m27 = p_t.Idxs.length - k15 ∧ k15 ≤ p_t.Idxs.length ∧ w10.heap.size ≤ w29.heap.size ∧ lkp L28 1 = some (.string (bs (p_name))) ∧ lkp L28 8 = some (.slice A2 p_t.Idxs.length c2) ∧ lkp L28 9 = some (.int .i64 ((p_t.Idxs.length : Int))) ∧ lkp L28 10 = some (.int .i64 ((k15 : Int))) ∧ RdS w29 (Iv 0 w.heap.size) (RF e_Idx) 3 A2 p_t.Idxs.length c2 p_t.Idxs ∧ Ex w w29 ∧ loopM (B_s_l24Idx_0 p_t p_name) (p_t.Idxs.length - k15) k15 () = loopM (B_s_l24Idx_0 p_t p_name) (p_t.Idxs.length - 0) 0 ()) (p_t.Idxs.length - 0) ?_ ?_))))
 ·exact ⟨0, rfl, (by omega), Nat.le_refl _, rfl, rfl, rfl, rfl, (RdS.ex good_Idx h2 hE14), (Ex.trans (Ex.refl w) hE14), rfl⟩
 ·rintro m32 L33 w34 ⟨k15, rfl, hk35, hsz37, hl38, hl39, hl40, hl41, hf42, hf43, hI36⟩
  refine CW.sub (Sub.cons hl38 (Sub.cons hl39 (Sub.cons hl40 (Sub.cons hl41 (Sub.nil _))))) ?_
  have hf43z := Ex.size hf43
  have hbg44 := RdS.big hf42
  rcases Nat.lt_or_ge k15 p_t.Idxs.length with hlt45 | hlt45
  ·refine CW.seq (CW.region (sd rfl (yl_lss rfl rfl rfl (dn (CW.seq (CW.cond_t rfl (lt_t hlt45) (CW.skip (tn ?_))))))))
   refine CW.seq (CW.block (CW.seq (CW.region (sd rfl (yl_move rfl rfl ?_)))))
   obtain ⟨eb46, eo46, _, eA46, _, ebl46, _, eR46, eC46⟩ := RdS.aD hf42 d_Idx (i := k15)
   obtain rfl := eR46
   have eC46 : Cells w34 eb46 (eo46 + k15 * 3) [.string (bs ((p_t.Idxs.getD k15 d_Idx).Name)), .int .i64 ((p_t.Idxs.getD k15 d_Idx).Col), .int .i64 ((p_t.Idxs.getD k15 d_Idx).Stage)] := eC46
   refine sd rfl (yl_ixN un32 ty104 rfl rfl rfl eA46 (sd rfl (yl_loadN ty104 rfl rfl eC46 rfl (sd rfl (yl_alloc ty104 (cs := [.string (bs (([] : Str))), .int .i64 (0), .int .i64 (0)]) rfl rfl ?_)))))
   intro b47 w48 hs49 hz50 hB51 hE52
   refine sd rfl (yl_assign rfl rfl (SeqR.u rfl rfl (yl_store (vs := [.string (bs ((p_t.Idxs.getD k15 d_Idx).Name)), .int .i64 ((p_t.Idxs.getD k15 d_Idx).Col), .int .i64 ((p_t.Idxs.getD k15 d_Idx).Stage)]) ty104 rfl rfl rfl rfl rfl rfl hB51 (Nat.le_of_ble_eq_true rfl) ?_)))
   intro w53 hB54 hO55
   have hB54 : Box w53 b47 104 [.string (bs ((p_t.Idxs.getD k15 d_Idx).Name)), .int .i64 ((p_t.Idxs.getD k15 d_Idx).Col), .int .i64 ((p_t.Idxs.getD k15 d_Idx).Stage)] := hB54
   have hO55z := hO55.size
   refine dn (CW.seq (CW.region (sd rfl (yl_fieldAddr fd104_0 rfl rfl (sd rfl (yl_load1 ty9 rfl rfl ((hB54.cell 0).trans rfl) (sd rfl (yl_move rfl rfl (sd rfl (yl_seql (a := ((p_t.Idxs.getD k15 d_Idx).Name)) (b := p_name) rfl rfl rfl (SeqR.done ?_)))))))))))
   refine tn (bcase (((p_t.Idxs.getD k15 d_Idx).Name) == p_name) (fun hb56 => ?_) (fun hb56 => ?_))
   ·refine CW.cond_t rfl hb56 (CW.seq (CW.region (sd rfl (yl_move rfl rfl (sd rfl (yl_assign rfl rfl (dn (CW.ret (br ?_)))))))))
    refine tr (tr ?_)
    have hB58 : B_s_l24Idx_0 p_t p_name k15 () = .ret (k15 : Int) := by simp only [B_s_l24Idx_0, hb56, cL]
    have hL57 : loopM (B_s_l24Idx_0 p_t p_name) (p_t.Idxs.length - 0) 0 () = .ret (k15 : Int) := hI36.symm.trans (loopM.ret hlt45 hB58)
    refine br (tr (rr rfl (.cons rfl .nil) ?_))
    have hM59 : (s_l24Idx p_t p_name) = ((k15 : Int)) := by simp only [s_l24Idx, hb56, hL57, cL]
    rw [hM59]
    exact ⟨rfl, (Below.only (Ex.trans hf43 hE52) hO55 (by omega))⟩
   ·refine CW.cond_f rfl hb56 (CW.skip (bn (tn (CW.region (sd rfl (yl_inc rfl rfl rfl (by omega) (sd rfl (yl_move rfl rfl (dn ?_)))))))))
    have hB62 : B_s_l24Idx_0 p_t p_name k15 () = .cont () := by simp only [B_s_l24Idx_0, hb56, cL]
    exact ⟨p_t.Idxs.length - (k15 + 1), by omega, k15 + 1, rfl, hlt45, (by omega), rfl, rfl, rfl, rfl, (RdS.only good_Idx (RdS.ex good_Idx hf42 hE52) hO55 (by simp only [Iv]; omega)), (Below.only (Ex.trans hf43 hE52) hO55 (by omega)), (loopM.cont hlt45 hB62).symm.trans hI36⟩
  ·refine CW.seq (CW.region (sd rfl (yl_lss rfl rfl rfl (dn (CW.seq (CW.cond_f rfl (lt_f hlt45) (CW.exit (tx ?_))))))))
   refine tx ?_
   have hL67 : loopM (B_s_l24Idx_0 p_t p_name) (p_t.Idxs.length - 0) 0 () = .done () := hI36.symm.trans (loopM.stop hlt45)
   refine bx (tn (CW.seq (CW.region (sd rfl (yl_assign rfl rfl (dn (CW.ret (rr rfl (.cons rfl .nil) ?_))))))))
   have hM68 : (s_l24Idx p_t p_name) = (-1) := by simp only [s_l24Idx, hL67, cL]
   rw [hM68]
   exact ⟨rfl, hf43⟩
theorem c_s_l24Own {A1 : Option Addr} {c1 : Nat} {A2 : Option Addr} {c2 : Nat} {w : World} (p_t : DTable) (h1 : RdS w (Iv 0 w.heap.size) (RF e_Str) 1 A1 p_t.Cols.length c1 p_t.Cols) (h2 : RdS w (Iv 0 w.heap.size) (RF e_Idx) 3 A2 p_t.Idxs.length c2 p_t.Idxs) (o3 : ok_Table p_t) : Cal Tryz.prog 154 #[.agg #[.string (bs (p_t.Name)), .slice A1 p_t.Cols.length c1, .slice A2 p_t.Idxs.length c2]] w fun v w' => ∃ A_1 c_1 lo_1 hi_1 A_2 c_2 lo_2 hi_2, v = .agg #[.string (bs ((s_l24Own p_t).Name)), .slice A_1 (((s_l24Own p_t).Cols).length) c_1, .slice A_2 (((s_l24Own p_t).Idxs).length) c_2] ∧ OwnL w' lo_1 hi_1 9 1 (RF e_Str) A_1 (((s_l24Own p_t).Cols).length) c_1 ((s_l24Own p_t).Cols) ∧ OwnL w' lo_2 hi_2 104 3 (RF e_Idx) A_2 (((s_l24Own p_t).Idxs).length) c_2 ((s_l24Own p_t).Idxs) ∧ ok_Table (s_l24Own p_t) ∧ (w.heap.size ≤ lo_1 ∧ lo_1 ≤ hi_1 ∧ hi_1 ≤ w'.heap.size) ∧ (w.heap.size ≤ lo_2 ∧ lo_2 ≤ hi_2 ∧ hi_2 ≤ w'.heap.size) ∧ (hi_1 ≤ lo_2 ∨ hi_2 ≤ lo_1) ∧ Ex w w' := by
 have hol4 : p_t.Name.length ≤ 1073741824 := o3.1
 have hol5 := o3.2.1.1
 have hol6 := o3.2.2.1
 refine Cal.of func154 rfl ntmps154 rfl (CW.seq (CW.region (sd rfl (yl_box rfl rfl rfl ?_))))
 intro b7 w8 hs9 hz10 hB11 hE12
 refine sd rfl (yl_alloc ty34 (cs := [.string (bs (([] : Str))), .slice none 0 0, .slice none 0 0]) rfl rfl ?_)
 intro b13 w14 hs15 hz16 hB17 hE18
 refine dn (CW.seq ?_)
 have q19 := Box.ex hB11 hE18
 refine CW.drawsI 10 (vgetI [DetI (.pointer (some ⟨b7, 0 + 0, none⟩)), DetI (.string (bs (p_t.Name))), fun lo hi v wq => ∃ A20, v = .slice A20 0 0 ∧ OwnL wq w14.heap.size w14.heap.size 9 1 (RF e_Str) A20 0 0 ([] : List Str), DetI (.pointer (some ⟨b7, 0 + 1, none⟩)), DetI (.slice A1 p_t.Cols.length c1), fun lo hi v wq => ∃ A22 c23, v = .slice A22 ((([] : List Str) ++ p_t.Cols).length) c23 ∧ OwnL wq lo hi 9 1 (RF e_Str) A22 ((([] : List Str) ++ p_t.Cols).length) c23 (([] : List Str) ++ p_t.Cols), fun lo hi v wq => ∃ A25, v = .slice A25 0 0 ∧ OwnL wq w14.heap.size w14.heap.size 104 3 (RF e_Idx) A25 0 0 ([] : List DIdx), DetI (.pointer (some ⟨b7, 0 + 2, none⟩)), DetI (.slice A2 p_t.Idxs.length c2), fun lo hi v wq => ∃ A27 c28, v = .slice A27 ((([] : List DIdx) ++ p_t.Idxs).length) c28 ∧ OwnL wq lo hi 104 3 (RF e_Idx) A27 ((([] : List DIdx) ++ p_t.Idxs).length) c28 (([] : List DIdx) ++ p_t.Idxs)]) Tryz.follows rfl rfl rfl rfl rfl rfl (vgetI_stable ⟨StableI.det _, StableI.det _, (fun _ _ _ _ _ ⟨A20, hv, hO21⟩ e => ⟨A20, hv, OwnL.ex good_Str hO21 e⟩), StableI.det _, StableI.det _, (fun _ _ _ _ _ ⟨A22, c23, hv, hO⟩ e => ⟨A22, c23, hv, OwnL.ex good_Str hO e⟩), (fun _ _ _ _ _ ⟨A25, hv, hO26⟩ e => ⟨A25, hv, OwnL.ex good_Idx hO26 e⟩), StableI.det _, StableI.det _, (fun _ _ _ _ _ ⟨A27, c28, hv, hO⟩ e => ⟨A27, c28, hv, OwnL.ex good_Idx hO e⟩), trivial⟩) ⟨?_, ?_, ?_, ?_, ?_, ?_, ?_, ?_, ?_, ?_, trivial⟩ ?_
 ·exact oI rfl fun h => yl_fieldAddr fd34_0 rfl (h.old 1 _ rfl rfl) kI
 ·exact oI rfl fun h => yl_load1 ty9 rfl (h.dt 0 3 rfl rfl rfl) (((Box.ex q19 h.ex).cell 0).trans rfl) kI
 ·intro L41 w42 hi43
  refine OpR.op' rfl (yl_buildSlice (cs := []) un22 ty9 (by decide) rfl opvs_nil (by kernel_rfl) ?_)
  intro b45 w46 hs47 hz48 hB49 hE50
  have hO51 : OwnL w46 b45 (b45 + 1) 9 1 (RF e_Str) (some ⟨b45, 0, none⟩) 0 0 ([] : List Str) := OwnL.of_box (S := fun _ => False) hB49 (Nat.le_refl _) (Nat.lt_succ_self _) EncL.nil (Nat.le_of_ble_eq_true rfl) (fun h => h) (fun _ h => False.elim h)
  exact ⟨⟨_, rfl, OwnL.empty _ _ _ _ _ _ _⟩, hE50⟩
 ·exact oI rfl fun h => yl_fieldAddr fd34_1 rfl (h.old 1 _ rfl rfl) kI
 ·exact oI rfl fun h => yl_load1 ty22 rfl (h.dt 3 6 rfl rfl rfl) (((Box.ex q19 h.ex).cell 1).trans rfl) kI
 ·intro L63 w64 hi65
  have hE66 := hi65.ex
  have hE66z := Ex.size hE66
  obtain ⟨lo68, hh69, _, hx67, hr70, hr71, hr72, A20_73, rfl, h74⟩ := hi65.dep 2 5 rfl rfl
  obtain ⟨nw79, he80, hs81⟩ := RdS.src (RdS.ex good_Str (RdS.ex good_Str (RdS.ex good_Str h1 hE12) hE18) hE66)
  have hol82 : p_t.Cols.length ≤ 2147483648 := o3.2.1.1
  refine OpR.op' rfl (yl_appendL (S := (fun _ => False)) (lo := w64.heap.size) (hi := w64.heap.size) (xs := ([] : List Str)) (ys := p_t.Cols) good_Str un22 ty9 rfl (Nat.le_of_ble_eq_true rfl) rfl hx67 (hi65.dt 4 7 rfl rfl rfl) (OwnL.empty w64 w64.heap.size w64.heap.size 9 1 (RF e_Str) A20_73) he80 hs81 rfl (by first | omega | (simp only [List.length_append, List.length_cons, List.length_nil, List.length_take, List.length_drop, List.length_replicate, List.length_set, toS_length]; omega)) (by first | omega | (simp only [List.length_append, List.length_cons, List.length_nil, List.length_take, List.length_drop, List.length_replicate, List.length_set, toS_length]; omega)) (by omega) (by omega) (fun _ h _ => False.elim h) (by omega) ?_)
  intro A83 c84 w85 row86 hO87 hG88 hrg89
  have hG88z := hG88.size
  exact ⟨⟨A83, c84, rfl, OwnL.more hO87 (by omega) (by omega)⟩, Below.grown (Ex.refl _) hG88 (Nat.le_refl _) (fun k hk => by have := hrg89 k hk; omega)⟩
 ·intro L90 w91 hi92
  refine OpR.op' rfl (yl_buildSlice (cs := []) un32 ty104 (by decide) rfl opvs_nil (by kernel_rfl) ?_)
  intro b94 w95 hs96 hz97 hB98 hE99
  have hO100 : OwnL w95 b94 (b94 + 1) 104 3 (RF e_Idx) (some ⟨b94, 0, none⟩) 0 0 ([] : List DIdx) := OwnL.of_box (S := fun _ => False) hB98 (Nat.le_refl _) (Nat.lt_succ_self _) EncL.nil (Nat.le_of_ble_eq_true rfl) (fun h => h) (fun _ h => False.elim h)
  exact ⟨⟨_, rfl, OwnL.empty _ _ _ _ _ _ _⟩, hE99⟩
 ·exact oI rfl fun h => yl_fieldAddr fd34_2 rfl (h.old 1 _ rfl rfl) kI
 ·exact oI rfl fun h => yl_load1 ty32 rfl (h.dt 7 10 rfl rfl rfl) (((Box.ex q19 h.ex).cell 2).trans rfl) kI
 ·intro L112 w113 hi114
  have hE115 := hi114.ex
  have hE115z := Ex.size hE115
  obtain ⟨lo117, hh118, _, hx116, hr119, hr120, hr121, A25_122, rfl, h123⟩ := hi114.dep 6 9 rfl rfl
  obtain ⟨nw128, he129, hs130⟩ := RdS.src (RdS.ex good_Idx (RdS.ex good_Idx (RdS.ex good_Idx h2 hE12) hE18) hE115)
  have hol131 : p_t.Idxs.length ≤ 2147483648 := o3.2.2.1
  refine OpR.op' rfl (yl_appendL (S := (fun _ => False)) (lo := w113.heap.size) (hi := w113.heap.size) (xs := ([] : List DIdx)) (ys := p_t.Idxs) good_Idx un32 ty104 rfl (Nat.le_of_ble_eq_true rfl) rfl hx116 (hi114.dt 8 11 rfl rfl rfl) (OwnL.empty w113 w113.heap.size w113.heap.size 104 3 (RF e_Idx) A25_122) he129 hs130 rfl (by first | omega | (simp only [List.length_append, List.length_cons, List.length_nil, List.length_take, List.length_drop, List.length_replicate, List.length_set, toS_length]; omega)) (by first | omega | (simp only [List.length_append, List.length_cons, List.length_nil, List.length_take, List.length_drop, List.length_replicate, List.length_set, toS_length]; omega)) (by omega) (by omega) (fun _ h _ => False.elim h) (by omega) ?_)
  intro A132 c133 w134 row135 hO136 hG137 hrg138
  have hG137z := hG137.size
  exact ⟨⟨A132, c133, rfl, OwnL.more hO136 (by omega) (by omega)⟩, Below.grown (Ex.refl _) hG137 (Nat.le_refl _) (fun k hk => by have := hrg138 k hk; omega)⟩
 ·intro fl142 fh143 L139 w140 hp141
  have hE144 := hp141.ex
  have hE144z := Ex.size hE144
  have hx145 := hp141.old 2 _ rfl rfl
  have hr148 := hp141.rng 5 rfl
  obtain ⟨_, hx147, A22_149, c23_150, rfl, h151⟩ := hp141.new 5 8 rfl rfl
  have hr153 := hp141.rng 9 rfl
  have hsp154 := hp141.sep 5 9 rfl rfl rfl
  obtain ⟨_, hx152, A27_155, c28_156, rfl, h157⟩ := hp141.new 9 12 rfl rfl
  refine sd rfl (yl_build (cs := [.string (bs (p_t.Name)), .slice A22_149 ((([] : List Str) ++ p_t.Cols).length) c23_150, .slice A27_155 ((([] : List DIdx) ++ p_t.Idxs).length) c28_156]) rfl (oc (hp141.nt 1 4 rfl rfl rfl) (oc hx147 (oc hx152 oz))) (by kernel_rfl) (SeqR.u rfl rfl (yl_store (vs := [.string (bs (p_t.Name)), .slice A22_149 ((([] : List Str) ++ p_t.Cols).length) c23_150, .slice A27_155 ((([] : List DIdx) ++ p_t.Idxs).length) c28_156]) ty34 rfl hx145 rfl rfl rfl rfl (Box.ex hB17 hE144) (Nat.le_of_ble_eq_true rfl) ?_)))
  intro w159 hB160 hO161
  have hB160 : Box w159 b13 34 [.string (bs (p_t.Name)), .slice A22_149 ((([] : List Str) ++ p_t.Cols).length) c23_150, .slice A27_155 ((([] : List DIdx) ++ p_t.Idxs).length) c28_156] := hB160
  have hO161z := hO161.size
  refine dn (CW.sub (Sub.cons (d := 2) hx145 (Sub.nil _)) (CW.ret (rr rfl (.cons ⟨_, rfl, run_loadN ty34 (cs := [.string (bs (p_t.Name)), .slice A22_149 ((([] : List Str) ++ p_t.Cols).length) c23_150, .slice A27_155 ((([] : List DIdx) ++ p_t.Idxs).length) c28_156]) rfl (hB160.cells (n := 3) rfl)⟩ .nil) ?_)))
  have hM162 : (s_l24Own p_t) = ((⟨p_t.Name, (([] : List Str) ++ p_t.Cols), (([] : List DIdx) ++ p_t.Idxs)⟩ : DTable)) := by simp only [s_l24Own, cL]
  have hol165 : p_t.Cols.length ≤ 2147483648 := o3.2.1.1
  have hol166 : p_t.Idxs.length ≤ 2147483648 := o3.2.2.1
  rw [hM162]
  exact ⟨A22_149, c23_150, (fl142 5), (fh143 5), A27_155, c28_156, (fl142 9), (fh143 9), rfl, (OwnL.only good_Str h151 hO161 (by omega)), (OwnL.only good_Idx h157 hO161 (by omega)), ⟨o3.1, (okL.mk (xs := (([] : List Str) ++ p_t.Cols)) (by first | omega | (simp only [List.length_append, List.length_cons, List.length_nil, List.length_take, List.length_drop, List.length_replicate, List.length_set, toS_length]; omega)) (okE.append okE.nil (o3.2.1).2)), (okL.mk (xs := (([] : List DIdx) ++ p_t.Idxs)) (by first | omega | (simp only [List.length_append, List.length_cons, List.length_nil, List.length_take, List.length_drop, List.length_replicate, List.length_set, toS_length]; omega)) (okE.append okE.nil (o3.2.2).2))⟩, (by omega), (by omega), (by omega), (Below.only (Ex.trans (Ex.trans (Ex.trans (Ex.refl w) hE12) hE18) hE144) hO161 (by omega))⟩
theorem c_s_l24Set {A1 : Option Addr} {c1 : Nat} {A2 : Option Addr} {c2 : Nat} {w : World} (p_t : DTable) (p_name : Str) (p_stage : Int) (h1 : RdS w (Iv 0 w.heap.size) (RF e_Str) 1 A1 p_t.Cols.length c1 p_t.Cols) (h2 : RdS w (Iv 0 w.heap.size) (RF e_Idx) 3 A2 p_t.Idxs.length c2 p_t.Idxs) (o3 : ok_Table p_t) (o4 : okS p_name) (pre0 : (0 ≤ s_l24Idx p_t p_name ∧ s_l24Idx p_t p_name < (p_t.Idxs.length : Int))) : Cal Tryz.prog 155 #[.agg #[.string (bs (p_t.Name)), .slice A1 p_t.Cols.length c1, .slice A2 p_t.Idxs.length c2], .string (bs (p_name)), .int .i64 (p_stage)] w fun v w' => ∃ A_1 c_1 lo_1 hi_1 A_2 c_2 lo_2 hi_2, v = .agg #[.string (bs ((s_l24Set p_t p_name p_stage).Name)), .slice A_1 (((s_l24Set p_t p_name p_stage).Cols).length) c_1, .slice A_2 (((s_l24Set p_t p_name p_stage).Idxs).length) c_2] ∧ OwnL w' lo_1 hi_1 9 1 (RF e_Str) A_1 (((s_l24Set p_t p_name p_stage).Cols).length) c_1 ((s_l24Set p_t p_name p_stage).Cols) ∧ OwnL w' lo_2 hi_2 104 3 (RF e_Idx) A_2 (((s_l24Set p_t p_name p_stage).Idxs).length) c_2 ((s_l24Set p_t p_name p_stage).Idxs) ∧ ok_Table (s_l24Set p_t p_name p_stage) ∧ (w.heap.size ≤ lo_1 ∧ lo_1 ≤ hi_1 ∧ hi_1 ≤ w'.heap.size) ∧ (w.heap.size ≤ lo_2 ∧ lo_2 ≤ hi_2 ∧ hi_2 ≤ w'.heap.size) ∧ (hi_1 ≤ lo_2 ∨ hi_2 ≤ lo_1) ∧ Ex w w' := by
 have hol5 : p_t.Name.length ≤ 1073741824 := o3.1
 have hol6 := o3.2.1.1
 have hol7 := o3.2.2.1
 have hol8 : p_name.length ≤ 1073741824 := o4
 refine Cal.of func155 rfl ntmps155 rfl (CW.seq (CW.region (sd rfl (yl_box rfl rfl rfl ?_))))
 intro b9 w10 hs11 hz12 hB13 hE14
 refine sd rfl (yl_alloc ty34 (cs := [.string (bs (([] : Str))), .slice none 0 0, .slice none 0 0]) rfl rfl ?_)
 intro b15 w16 hs17 hz18 hB19 hE20
 refine dn (CW.seq (CW.region ?_))
 have q21 := Box.ex hB13 hE20
 refine sd rfl (yl_loadN ty34 rfl rfl (q21.cells (n := 3) rfl) rfl ?_)
 have q23 := RdS.ex good_Str (RdS.ex good_Str h1 hE14) hE20
 have q25 := RdS.ex good_Idx (RdS.ex good_Idx h2 hE14) hE20
 refine sd rfl (yl_call en154 rfl (oc rfl oz) (Cal.mono (c_s_l24Own p_t (RdS.up q23 good_Str) (RdS.up q25 good_Idx) o3) ?_))
 rintro v30 w26 ⟨A27, c27, lo27, hi27, A28, c28, lo28, hi28, rfl, h27, h28, ho29, hrn32, hrn33, hrn34, hE31⟩
 have hE31z := Ex.size hE31
 have hrf35 := rf_l24Own p_t
 refine sd rfl (yl_alloc ty34 (cs := [.string (bs (([] : Str))), .slice none 0 0, .slice none 0 0]) rfl rfl ?_)
 intro b36 w37 hs38 hz39 hB40 hE41
 refine SeqR.u rfl rfl (yl_store (vs := [.string (bs ((s_l24Own p_t).Name)), .slice A27 (((s_l24Own p_t).Cols).length) c27, .slice A28 (((s_l24Own p_t).Idxs).length) c28]) ty34 rfl rfl rfl rfl rfl rfl hB40 (Nat.le_of_ble_eq_true rfl) ?_)
 intro w42 hB43 hO44
 have hB43 : Box w42 b36 34 [.string (bs ((s_l24Own p_t).Name)), .slice A27 (((s_l24Own p_t).Cols).length) c27, .slice A28 (((s_l24Own p_t).Idxs).length) c28] := hB43
 have hO44z := hO44.size
 refine dn (CW.seq ?_)
 have hrf55 := rf_s_l24Idx p_t p_name
 refine CW.drawsI 6 (vgetI ([.pointer (some ⟨b36, 0 + 2, none⟩), .slice A28 (((s_l24Own p_t).Idxs).length) c28, .agg #[.string (bs (p_t.Name)), .slice A1 p_t.Cols.length c1, .slice A2 p_t.Idxs.length c2], .string (bs (p_name)), .int .i64 ((s_l24Idx p_t p_name)), .int .i64 (p_stage)].map DetI)) Tryz.follows rfl rfl rfl rfl rfl rfl (vgetI_stable (stD _)) ⟨?_, ?_, ?_, ?_, ?_, ?_, trivial⟩ ?_
 ·exact oI rfl fun h => yl_fieldAddr fd34_2 rfl (h.old 7 _ rfl rfl) kI
 ·exact oI rfl fun h => yl_load1 ty32 rfl (h.dt 0 10 rfl rfl rfl) (((Box.ex hB43 h.ex).cell 2).trans rfl) kI
 ·intro L67 w68 hi69
  have hE70 := hi69.ex
  have hE70z := Ex.size hE70
  exact os rfl ((yl_loadN ty34 rfl (hi69.old 3 _ rfl rfl) ((Box.ex (Box.only (Box.ex (Box.ex q21 hE31) hE41) hO44 (by omega)) hE70).cells (n := 3) rfl) rfl kI))
 ·exact oI rfl fun h => yl_move rfl (h.old 1 _ rfl rfl) kI
 ·intro L78 w79 hi80
  have hE81 := hi80.ex
  have hE81z := Ex.size hE81
  exact OpR.op' rfl (yl_call en81 rfl (oc (hi80.dt 2 12 rfl rfl rfl) (oc (hi80.dt 3 13 rfl rfl rfl) oz)) (Cal.mono (c_s_l24Idx p_t p_name (RdS.up (RdS.ex good_Str (RdS.only good_Str (RdS.ex good_Str (RdS.ex good_Str q23 hE31) hE41) hO44 (by simp only [Iv]; omega)) hE81) good_Str) (RdS.up (RdS.ex good_Idx (RdS.only good_Idx (RdS.ex good_Idx (RdS.ex good_Idx q25 hE31) hE41) hO44 (by simp only [Iv]; omega)) hE81) good_Idx) o3 o4) fun _ _ h => h))
 ·exact oI rfl fun h => yl_move rfl (h.old 2 _ rfl rfl) kI
 ·intro fl97 fh98 L94 w95 hp96
  have hE99 := hp96.ex
  have hE99z := Ex.size hE99
  have q108 := OwnL.ex good_Idx (OwnL.only good_Idx (OwnL.ex good_Idx h28 hE41) hO44 (by omega)) hE99
  obtain ⟨eb109, eo109, _, eA109, _, ebl109, _, eR109, eC109⟩ := RdS.atD (OwnL.rd good_Idx q108) d_Idx (i := ((s_l24Idx p_t p_name)).toNat) (by first | omega | assumption | (simp only [wI] at *; omega))
  obtain rfl := eR109
  have eC109 : Cells w95 eb109 (eo109 + (((s_l24Idx p_t p_name)).toNat) * 3) [.string (bs ((((s_l24Own p_t).Idxs).getD (((s_l24Idx p_t p_name)).toNat) d_Idx).Name)), .int .i64 ((((s_l24Own p_t).Idxs).getD (((s_l24Idx p_t p_name)).toNat) d_Idx).Col), .int .i64 ((((s_l24Own p_t).Idxs).getD (((s_l24Idx p_t p_name)).toNat) d_Idx).Stage)] := eC109
  refine sd rfl (yl_indexAddr un32 ty104 rfl (hp96.nt 1 11 rfl rfl rfl) (hp96.nt 4 14 rfl rfl rfl) eA109 (by first | omega | assumption | (simp only [wI] at *; omega)) (by first | omega | assumption | (simp only [wI] at *; omega)) (sd rfl (yl_fieldAddr fd104_2 rfl rfl ?_)))
  have hrg110 := OwnL.rng q108 (i := ((s_l24Idx p_t p_name)).toNat) (by first | omega | assumption | (simp only [wI] at *; omega)) eb109 (by rw [eA109]; rfl)
  refine SeqR.u rfl rfl (yl_storeF (off := eo109) (i := ((s_l24Idx p_t p_name)).toNat) (d := 2) (dx := d_Idx) (x' := (⟨(((s_l24Own p_t).Idxs).getD (((s_l24Idx p_t p_name)).toNat) d_Idx).Name, (((s_l24Own p_t).Idxs).getD (((s_l24Idx p_t p_name)).toNat) d_Idx).Col, p_stage⟩ : DIdx)) (vs := [.int .i64 (p_stage)]) ty3 rfl q108 eA109 rfl (hp96.nt 5 15 rfl rfl rfl) rfl rfl rfl (by first | omega | assumption | (simp only [wI] at *; omega)) (Nat.le_of_ble_eq_true rfl) rfl rfl ?_)
  intro w111 hB112 hO113
  have hO113z := hO113.size
  refine dn (CW.sub (Sub.cons (d := 6) (hp96.old 6 _ rfl rfl) (Sub.cons (d := 7) (hp96.old 7 _ rfl rfl) (Sub.nil _))) (CW.seq (CW.region (sd rfl (yl_loadN ty34 rfl rfl ((Box.only (Box.ex hB43 hE99) hO113 (by omega)).cells (n := 3) rfl) rfl (SeqR.u rfl rfl (yl_store (vs := [.string (bs ((s_l24Own p_t).Name)), .slice A27 (((s_l24Own p_t).Cols).length) c27, .slice A28 (((s_l24Own p_t).Idxs).length) c28]) ty34 rfl rfl rfl rfl rfl rfl (Box.only (Box.ex (Box.only (Box.ex (Box.ex hB19 hE31) hE41) hO44 (by omega)) hE99) hO113 (by omega)) (Nat.le_of_ble_eq_true rfl) ?_)))))))
  intro w121 hB122 hO123
  have hB122 : Box w121 b15 34 [.string (bs ((s_l24Own p_t).Name)), .slice A27 (((s_l24Own p_t).Cols).length) c27, .slice A28 (((s_l24Own p_t).Idxs).length) c28] := hB122
  have hO123z := hO123.size
  refine dn (CW.ret (rr rfl (.cons ⟨_, rfl, run_loadN ty34 (cs := [.string (bs ((s_l24Own p_t).Name)), .slice A27 (((s_l24Own p_t).Cols).length) c27, .slice A28 (((s_l24Own p_t).Idxs).length) c28]) rfl (hB122.cells (n := 3) rfl)⟩ .nil) ?_))
  have hM124 : (s_l24Set p_t p_name p_stage) = ((⟨(s_l24Own p_t).Name, (s_l24Own p_t).Cols, (((s_l24Own p_t).Idxs).set (((s_l24Idx p_t p_name)).toNat) (⟨(((s_l24Own p_t).Idxs).getD (((s_l24Idx p_t p_name)).toNat) d_Idx).Name, (((s_l24Own p_t).Idxs).getD (((s_l24Idx p_t p_name)).toNat) d_Idx).Col, p_stage⟩ : DIdx))⟩ : DTable)) := by simp only [s_l24Set, cL]
  have q130 := OwnL.only good_Idx hB112 hO123 (by omega)
  have hfx131 := (q130).1
  have hol132 : ((s_l24Own p_t).Idxs).length ≤ 2147483648 := ho29.2.2.1
  rw [hM124]
  exact ⟨A27, c27, lo27, hi27, A28, c28, lo28, hi28, (by first | rfl | (simp only [List.length_replicate, List.length_set]; done) | (simp only [List.length_replicate, List.length_set]; rfl) | rw [hfx131]), (OwnL.only good_Str (OwnL.only good_Str (OwnL.ex good_Str (OwnL.only good_Str (OwnL.ex good_Str h27 hE41) hO44 (by omega)) hE99) hO113 (by omega)) hO123 (by omega)), (OwnL.fix q130), ⟨ho29.1, ho29.2.1, (okL.mk (xs := (((s_l24Own p_t).Idxs).set (((s_l24Idx p_t p_name)).toNat) (⟨(((s_l24Own p_t).Idxs).getD (((s_l24Idx p_t p_name)).toNat) d_Idx).Name, (((s_l24Own p_t).Idxs).getD (((s_l24Idx p_t p_name)).toNat) d_Idx).Col, p_stage⟩ : DIdx))) (by first | omega | (simp only [List.length_append, List.length_cons, List.length_nil, List.length_take, List.length_drop, List.length_replicate, List.length_set, toS_length]; omega)) (okE.set (ho29.2.2).2 (okL.getD ho29.2.2 ok_d_Idx _)))⟩, (by omega), (by omega), (by omega), (Below.only (Below.only (Ex.trans (Below.only (Ex.trans (Ex.trans (Ex.trans (Ex.trans (Ex.refl w) hE14) hE20) hE31) hE41) hO44 (by omega)) hE99) hO113 (by omega)) hO123 (by omega))⟩
theorem c_s_l24Way {A1 : Option Addr} {c1 : Nat} {A2 : Option Addr} {c2 : Nat} {w : World} (p_t : DTable) (p_name : Str) (p_stage : Int) (h1 : RdS w (Iv 0 w.heap.size) (RF e_Str) 1 A1 p_t.Cols.length c1 p_t.Cols) (h2 : RdS w (Iv 0 w.heap.size) (RF e_Idx) 3 A2 p_t.Idxs.length c2 p_t.Idxs) (o3 : ok_Table p_t) (o4 : okS p_name) (pre0 : (0 ≤ s_l24Idx p_t p_name ∧ s_l24Idx p_t p_name < (p_t.Idxs.length : Int))) (pre1 : (0 ≤ (p_t.Idxs.getD (s_l24Idx p_t p_name).toNat d_Idx).Stage ∧ (p_t.Idxs.getD (s_l24Idx p_t p_name).toNat d_Idx).Stage ≤ 3)) (pre2 : (0 ≤ p_stage ∧ p_stage ≤ 3)) : Cal Tryz.prog 133 #[.agg #[.string (bs (p_t.Name)), .slice A1 p_t.Cols.length c1, .slice A2 p_t.Idxs.length c2], .string (bs (p_name)), .int .i64 (p_stage)] w fun v w' => ∃ A_1 c_1 lo_1 hi_1, v = .slice A_1 ((s_l24Way p_t p_name p_stage).length) c_1 ∧ OwnD w' lo_1 hi_1 34 3 RO_Table A_1 ((s_l24Way p_t p_name p_stage).length) c_1 (s_l24Way p_t p_name p_stage) ∧ (okL ok_Table) (s_l24Way p_t p_name p_stage) ∧ (w.heap.size ≤ lo_1 ∧ lo_1 ≤ hi_1 ∧ hi_1 ≤ w'.heap.size) ∧ Ex w w' := by
 have hol5 : p_t.Name.length ≤ 1073741824 := o3.1
 have hol6 := o3.2.1.1
 have hol7 := o3.2.2.1
 have hol8 : p_name.length ≤ 1073741824 := o4
 refine Cal.of func133 rfl ntmps133 rfl (CW.seq (CW.region (sd rfl (yl_box rfl rfl rfl ?_))))
 intro b9 w10 hs11 hz12 hB13 hE14
 refine sd rfl (yl_assign rfl rfl (dn (CW.seq (CW.region (sd rfl (yl_loadN ty34 rfl rfl (hB13.cells (n := 3) rfl) rfl ?_))))))
 have q15 := RdS.ex good_Str h1 hE14
 have q16 := RdS.ex good_Idx h2 hE14
 refine sd rfl (yl_call en154 rfl (oc rfl oz) (Cal.mono (c_s_l24Own p_t (RdS.up q15 good_Str) (RdS.up q16 good_Idx) o3) ?_))
 rintro v21 w17 ⟨A18, c18, lo18, hi18, A19, c19, lo19, hi19, rfl, h18, h19, ho20, hrn23, hrn24, hrn25, hE22⟩
 have hE22z := Ex.size hE22
 have hrf26 := rf_l24Own p_t
 refine sd rfl (yl_buildSlice (cs := [.string (bs ((s_l24Own p_t).Name)), .slice A18 (((s_l24Own p_t).Cols).length) c18, .slice A19 (((s_l24Own p_t).Idxs).length) c19]) un56 ty34 (by decide) rfl (oc rfl oz) (by kernel_rfl) ?_)
 intro b27 w28 hs29 hz30 hB31 hE32
 have hO33 : OwnD w28 w10.heap.size (b27 + 1) 34 3 RO_Table (some ⟨b27, 0, none⟩) 1 1 ([(s_l24Own p_t)] : List DTable) := OwnD.of_box (b := b27) (xs := ([(s_l24Own p_t)] : List DTable)) (cells := [[.string (bs ((s_l24Own p_t).Name)), .slice A18 (((s_l24Own p_t).Cols).length) c18, .slice A19 (((s_l24Own p_t).Idxs).length) c19]]) (by rw [List.flatten_singleton]; exact hB31) (by omega) (Nat.lt_succ_self _) (.cons (l := w10.heap.size) (h := b27) (Nat.le_refl _) (by omega) rfl (fun k hk => by cases hk; exact .inr (Nat.le_refl _)) (mkO_Table (l := w10.heap.size) (h := b27) (OwnL.ex good_Str h18 hE32) (OwnL.ex good_Idx h19 hE32) (by omega) (by omega) (by omega)) (.nil (Nat.le_succ _))) (Nat.le_of_ble_eq_true rfl)
 refine sd rfl (yl_assign rfl rfl (dn (CW.seq ?_)))
 have q35 := Box.ex (Box.ex hB13 hE22) hE32
 have q37 := RdS.ex good_Str (RdS.ex good_Str q15 hE22) hE32
 have q39 := RdS.ex good_Idx (RdS.ex good_Idx q16 hE22) hE32
 have hrf41 := rf_s_l24Idx p_t p_name
 refine CW.drawsI 5 (vgetI ([.pointer (some ⟨b9, 0 + 2, none⟩), .slice A2 p_t.Idxs.length c2, .agg #[.string (bs (p_t.Name)), .slice A1 p_t.Cols.length c1, .slice A2 p_t.Idxs.length c2], .string (bs (p_name)), .int .i64 ((s_l24Idx p_t p_name))].map DetI)) Tryz.follows rfl rfl rfl rfl rfl rfl (vgetI_stable (stD _)) ⟨?_, ?_, ?_, ?_, ?_, trivial⟩ ?_
 ·exact oI rfl fun h => yl_fieldAddr fd34_2 rfl (h.old 3 _ rfl rfl) kI
 ·exact oI rfl fun h => yl_load1 ty32 rfl (h.dt 0 12 rfl rfl rfl) (((Box.ex q35 h.ex).cell 2).trans rfl) kI
 ·exact oI rfl fun h => yl_loadN ty34 rfl (h.old 3 _ rfl rfl) ((Box.ex q35 h.ex).cells (n := 3) rfl) rfl kI
 ·exact oI rfl fun h => yl_move rfl (h.old 1 _ rfl rfl) kI
 ·intro L64 w65 hi66
  have hE67 := hi66.ex
  exact OpR.op' rfl (yl_call en81 rfl (oc (hi66.dt 2 14 rfl rfl rfl) (oc (hi66.dt 3 15 rfl rfl rfl) oz)) (Cal.mono (c_s_l24Idx p_t p_name (RdS.up (RdS.ex good_Str q37 hE67) good_Str) (RdS.up (RdS.ex good_Idx q39 hE67) good_Idx) o3 o4) fun _ _ h => h))
 ·intro fl78 fh79 L75 w76 hp77
  have hE80 := hp77.ex
  have hE80z := Ex.size hE80
  have q87 := RdS.ex good_Idx q39 hE80
  obtain ⟨eb88, eo88, _, eA88, _, ebl88, _, eR88, eC88⟩ := RdS.atD q87 d_Idx (i := ((s_l24Idx p_t p_name)).toNat) (by first | omega | assumption | (simp only [wI] at *; omega))
  obtain rfl := eR88
  have eC88 : Cells w76 eb88 (eo88 + (((s_l24Idx p_t p_name)).toNat) * 3) [.string (bs ((p_t.Idxs.getD (((s_l24Idx p_t p_name)).toNat) d_Idx).Name)), .int .i64 ((p_t.Idxs.getD (((s_l24Idx p_t p_name)).toNat) d_Idx).Col), .int .i64 ((p_t.Idxs.getD (((s_l24Idx p_t p_name)).toNat) d_Idx).Stage)] := eC88
  refine sd rfl (yl_indexAddr un32 ty104 rfl (hp77.nt 1 13 rfl rfl rfl) (hp77.nt 4 16 rfl rfl rfl) eA88 (by first | omega | assumption | (simp only [wI] at *; omega)) (by first | omega | assumption | (simp only [wI] at *; omega)) (sd rfl (yl_fieldAddr fd104_2 rfl rfl (sd rfl (yl_load1 ty3 rfl rfl (eC88 2 _ rfl) (sd rfl (yl_assign rfl rfl (dn (CW.sub (Sub.cons (d := 1) (hp77.old 1 _ rfl rfl) (Sub.cons (d := 2) (hp77.old 2 _ rfl rfl) (Sub.cons (d := 3) (hp77.old 3 _ rfl rfl) (Sub.cons (d := 7) (hp77.old 7 _ rfl rfl) (Sub.cons (d := 8) rfl (Sub.nil _)))))) (CW.seq (CW.block ?_)))))))))))
  refine CW.loop (fun m145 L146 w147 => ∃ (x140 : List DTable) (x144 : Int) (A141 : Option Addr) (c142 : Nat) (u143 : Nat), ((p_stage - x144).toNat + (x144 - p_stage).toNat) < m145 ∧ w76.heap.size ≤ w147.heap.size ∧ lkp L146 1 = some (.string (bs (p_name))) ∧ lkp L146 2 = some (.int .i64 (p_stage)) ∧ lkp L146 3 = some (.pointer (some ⟨b9, 0, none⟩)) ∧ lkp L146 7 = some (.slice A141 x140.length c142) ∧ lkp L146 8 = some (.int .i64 (x144)) ∧ Box w147 b9 34 [.string (bs (p_t.Name)), .slice A1 p_t.Cols.length c1, .slice A2 p_t.Idxs.length c2] ∧ RdS w147 (Iv 0 w.heap.size) (RF e_Str) 1 A1 p_t.Cols.length c1 p_t.Cols ∧ RdS w147 (Iv 0 w.heap.size) (RF e_Idx) 3 A2 p_t.Idxs.length c2 p_t.Idxs ∧ OwnD w147 w10.heap.size u143 34 3 RO_Table A141 x140.length c142 x140 ∧ Ex w w147 ∧ (w10.heap.size ≤ u143 ∧ u143 ≤ w147.heap.size) ∧ x140.length + 1 * ((p_stage - x144).toNat + (x144 - p_stage).toNat) ≤ 1 + 1 * ((p_stage - (p_t.Idxs.getD (((s_l24Idx p_t p_name)).toNat) d_Idx).Stage).toNat + ((p_t.Idxs.getD (((s_l24Idx p_t p_name)).toNat) d_Idx).Stage - p_stage).toNat) ∧ (∀ y ∈ x140, ok_Table y) ∧ 0 ≤ x144 ∧ x144 ≤ 3 ∧ loopW (B_s_l24Way_0 p_t p_name p_stage) m145 (x140, x144) = loopW (B_s_l24Way_0 p_t p_name p_stage) (((p_stage - (p_t.Idxs.getD (((s_l24Idx p_t p_name)).toNat) d_Idx).Stage).toNat + ((p_t.Idxs.getD (((s_l24Idx p_t p_name)).toNat) d_Idx).Stage - p_stage).toNat) + 1) (([(s_l24Own p_t)] : List DTable), (p_t.Idxs.getD (((s_l24Idx p_t p_name)).toNat) d_Idx).Stage)) (((p_stage - (p_t.Idxs.getD (((s_l24Idx p_t p_name)).toNat) d_Idx).Stage).toNat + ((p_t.Idxs.getD (((s_l24Idx p_t p_name)).toNat) d_Idx).Stage - p_stage).toNat) + 1) ?_ ?_
  ·exact ⟨([(s_l24Own p_t)] : List DTable), (p_t.Idxs.getD (((s_l24Idx p_t p_name)).toNat) d_Idx).Stage, (some ⟨b27, 0, none⟩), 1, (b27 + 1), Nat.lt_succ_self _, Nat.le_refl _, rfl, rfl, rfl, rfl, rfl, (Box.ex q35 hE80), (RdS.ex good_Str q37 hE80), q87, (OwnD.ex goodO_Table hO33 hE80), (Ex.trans (Ex.trans (Ex.trans (Ex.trans (Ex.refl w) hE14) hE22) hE32) hE80), (by omega), (by first | (simp; done) | (first | omega | (simp only [List.length_append, List.length_cons, List.length_nil, List.length_set, toS_length]; omega))), ((okL.mk (Nat.le_of_ble_eq_true rfl) (okE.cons ho20 okE.nil))).2, (by first | omega | assumption | (simp only [wI] at *; omega)), (by first | omega | assumption | (simp only [wI] at *; omega)), rfl⟩
  ·rintro m155 L156 w157 ⟨x140, x144, A141, c142, u143, hk158, hsz160, hl161, hl162, hl163, hl164, hl165, hf166, hf167, hf168, hf169, hf170, hu171, hln172, hok173, hv174, hv175, hI159⟩
   refine CW.sub (Sub.cons hl161 (Sub.cons hl162 (Sub.cons hl163 (Sub.cons hl164 (Sub.cons hl165 (Sub.nil _)))))) ?_
   have hf166z := Box.lt hf166
   have hf170z := Ex.size hf170
   refine CW.seq (CW.seq (CW.region (sd rfl (yl_move rfl rfl (sd rfl (yl_move rfl rfl (sd rfl (yl_neq rfl rfl rfl (dn (bcase (decide (x144 = p_stage)) (fun hb176 => ?_) (fun hb176 => ?_)))))))))))
   ·have hb176p := dec_t hb176
    refine CW.cond_f rfl (not_t hb176) (CW.exit (tx (tx ?_)))
    have hB178 : B_s_l24Way_0 p_t p_name p_stage (x140, x144) = .brk (x140, x144) := by simp only [B_s_l24Way_0, hb176, cL]
    have hL177 : loopW (B_s_l24Way_0 p_t p_name p_stage) (((p_stage - (p_t.Idxs.getD (((s_l24Idx p_t p_name)).toNat) d_Idx).Stage).toNat + ((p_t.Idxs.getD (((s_l24Idx p_t p_name)).toNat) d_Idx).Stage - p_stage).toNat) + 1) (([(s_l24Own p_t)] : List DTable), (p_t.Idxs.getD (((s_l24Idx p_t p_name)).toNat) d_Idx).Stage) = .done (x140, x144) := hI159.symm.trans (loopW.brk hk158 hB178)
    refine bx (tn (CW.seq (CW.region (sd rfl (yl_move rfl rfl (sd rfl (yl_assign rfl rfl (dn (CW.ret ?_)))))))))
    refine rr rfl (.cons rfl .nil) ?_
    have hM179 : (s_l24Way p_t p_name p_stage) = (x140) := by simp only [s_l24Way, hb176, hL177, cL]
    rw [hM179]
    exact ⟨A141, c142, w10.heap.size, u143, rfl, hf169, (okL.mk (xs := x140) (by first | omega | (simp only [List.length_append, List.length_cons, List.length_nil, List.length_take, List.length_drop, List.length_replicate, List.length_set, toS_length]; omega)) hok173), (by omega), hf170⟩
   ·have hb176p := dec_f hb176
    refine CW.cond_t rfl (not_f hb176) (CW.skip (tn (CW.block (CW.seq (CW.seq (CW.region (sd rfl (yl_move rfl rfl (sd rfl (yl_move rfl rfl ?_))))))))))
    refine sd rfl (yl_lss rfl rfl rfl (dn (bcase (decide (x144 < p_stage)) (fun hb180 => ?_) (fun hb180 => ?_))))
    ·have hb180p := dec_t hb180
     refine CW.cond_t rfl hb180 (CW.region (sd rfl (yl_move rfl rfl (sd rfl (yl_add rfl rfl rfl (sd rfl (yl_assign rfl rfl (dn (CW.region (sd rfl (yl_move rfl rfl ?_)))))))))))
     refine sd rfl (yl_loadN ty34 rfl rfl (hf166.cells (n := 3) rfl) rfl (sd rfl (yl_move rfl rfl (sd rfl (yl_move rfl rfl (sd rfl (yl_call en155 rfl (oc rfl (oc rfl (oc rfl oz))) (Cal.mono (c_s_l24Set p_t p_name (IntKind.wrap .i64 (x144 + 1)) (RdS.up hf167 good_Str) (RdS.up hf168 good_Idx) o3 o4 (by first | omega | assumption | (simp only [wI] at *; omega))) ?_))))))))
     rintro v185 w181 ⟨A182, c182, lo182, hi182, A183, c183, lo183, hi183, rfl, h182, h183, ho184, hrn187, hrn188, hrn189, hE186⟩
     have hE186z := Ex.size hE186
     refine sd rfl (yl_buildSlice (cs := [.string (bs ((s_l24Set p_t p_name (IntKind.wrap .i64 (x144 + 1))).Name)), .slice A182 (((s_l24Set p_t p_name (IntKind.wrap .i64 (x144 + 1))).Cols).length) c182, .slice A183 (((s_l24Set p_t p_name (IntKind.wrap .i64 (x144 + 1))).Idxs).length) c183]) un56 ty34 (by decide) rfl (oc rfl oz) (by kernel_rfl) ?_)
     intro b190 w191 hs192 hz193 hB194 hE195
     have hO196 : OwnD w191 w157.heap.size (b190 + 1) 34 3 RO_Table (some ⟨b190, 0, none⟩) 1 1 ([(s_l24Set p_t p_name (IntKind.wrap .i64 (x144 + 1)))] : List DTable) := OwnD.of_box (b := b190) (xs := ([(s_l24Set p_t p_name (IntKind.wrap .i64 (x144 + 1)))] : List DTable)) (cells := [[.string (bs ((s_l24Set p_t p_name (IntKind.wrap .i64 (x144 + 1))).Name)), .slice A182 (((s_l24Set p_t p_name (IntKind.wrap .i64 (x144 + 1))).Cols).length) c182, .slice A183 (((s_l24Set p_t p_name (IntKind.wrap .i64 (x144 + 1))).Idxs).length) c183]]) (by rw [List.flatten_singleton]; exact hB194) (by omega) (Nat.lt_succ_self _) (.cons (l := w157.heap.size) (h := b190) (Nat.le_refl _) (by omega) rfl (fun k hk => by cases hk; exact .inr (Nat.le_refl _)) (mkO_Table (l := w157.heap.size) (h := b190) (OwnL.ex good_Str h182 hE195) (OwnL.ex good_Idx h183 hE195) (by omega) (by omega) (by omega)) (.nil (Nat.le_succ _))) (Nat.le_of_ble_eq_true rfl)
     refine sd rfl (yl_appendD (xs := x140) (ys := ([(s_l24Set p_t p_name (IntKind.wrap .i64 (x144 + 1)))] : List DTable)) goodO_Table un56 ty34 rfl (Nat.le_of_ble_eq_true rfl) rfl rfl rfl (OwnD.ex goodO_Table (OwnD.ex goodO_Table hf169 hE186) hE195) hO196 (by first | omega | (simp only [List.length_append, List.length_cons, List.length_nil, List.length_take, List.length_drop, List.length_replicate, List.length_set, toS_length]; omega)) (by first | omega | (simp only [List.length_append, List.length_cons, List.length_nil, List.length_take, List.length_drop, List.length_replicate, List.length_set, toS_length]; omega)) (by omega) (by omega) (by omega) (by omega) ?_)
     intro A199 c200 w201 row202 hO203 hG204 hrg205
     have hG204z := hG204.size
     refine sd rfl (yl_assign rfl rfl (SeqR.done (bn (tn ?_))))
     have hB206 : B_s_l24Way_0 p_t p_name p_stage (x140, x144) = .cont ((x140 ++ ([(s_l24Set p_t p_name (IntKind.wrap .i64 (x144 + 1)))] : List DTable)), IntKind.wrap .i64 (x144 + 1)) := by simp only [B_s_l24Way_0, hb176, hb180, cL]
     have hmu219 : ((p_stage - IntKind.wrap .i64 (x144 + 1)).toNat + (IntKind.wrap .i64 (x144 + 1) - p_stage).toNat) < ((p_stage - x144).toNat + (x144 - p_stage).toNat) := by first | omega | assumption | (simp only [wI] at *; omega)
     exact ⟨m155 - 1, by omega, (x140 ++ ([(s_l24Set p_t p_name (IntKind.wrap .i64 (x144 + 1)))] : List DTable)), IntKind.wrap .i64 (x144 + 1), A199, c200, w201.heap.size, (by omega), (by omega), rfl, rfl, rfl, rfl, rfl, (Box.grown (Box.ex (Box.ex hf166 hE186) hE195) hG204 (fun k hk => by have := hrg205 k hk; omega)), (RdS.grown good_Str (RdS.ex good_Str (RdS.ex good_Str hf167 hE186) hE195) hG204 (fun k hk => by have := hrg205 k hk; simp only [Iv]; omega)), (RdS.grown good_Idx (RdS.ex good_Idx (RdS.ex good_Idx hf168 hE186) hE195) hG204 (fun k hk => by have := hrg205 k hk; simp only [Iv]; omega)), hO203, (Below.grown (Ex.trans (Ex.trans hf170 hE186) hE195) hG204 (by omega) (fun k hk => by have := hrg205 k hk; omega)), (by omega), (by first | omega | (simp only [List.length_append, List.length_cons, List.length_nil, List.length_set, toS_length]; omega)), (okE.append hok173 ((okL.mk (Nat.le_of_ble_eq_true rfl) (okE.cons ho184 okE.nil))).2), (by first | omega | assumption | (simp only [wI] at *; omega)), (by first | omega | assumption | (simp only [wI] at *; omega)), (loopW.cont hk158 hB206).symm.trans hI159⟩
    ·have hb180p := dec_f hb180
     refine CW.cond_f rfl hb180 (CW.region (sd rfl (yl_move rfl rfl (sd rfl (yl_sub rfl rfl rfl (sd rfl (yl_assign rfl rfl (dn (CW.region (sd rfl (yl_move rfl rfl ?_)))))))))))
     refine sd rfl (yl_loadN ty34 rfl rfl (hf166.cells (n := 3) rfl) rfl (sd rfl (yl_move rfl rfl (sd rfl (yl_move rfl rfl (sd rfl (yl_call en155 rfl (oc rfl (oc rfl (oc rfl oz))) (Cal.mono (c_s_l24Set p_t p_name (IntKind.wrap .i64 (x144 - 1)) (RdS.up hf167 good_Str) (RdS.up hf168 good_Idx) o3 o4 (by first | omega | assumption | (simp only [wI] at *; omega))) ?_))))))))
     rintro v224 w220 ⟨A221, c221, lo221, hi221, A222, c222, lo222, hi222, rfl, h221, h222, ho223, hrn226, hrn227, hrn228, hE225⟩
     have hE225z := Ex.size hE225
     refine sd rfl (yl_buildSlice (cs := [.string (bs ((s_l24Set p_t p_name (IntKind.wrap .i64 (x144 - 1))).Name)), .slice A221 (((s_l24Set p_t p_name (IntKind.wrap .i64 (x144 - 1))).Cols).length) c221, .slice A222 (((s_l24Set p_t p_name (IntKind.wrap .i64 (x144 - 1))).Idxs).length) c222]) un56 ty34 (by decide) rfl (oc rfl oz) (by kernel_rfl) ?_)
     intro b229 w230 hs231 hz232 hB233 hE234
     have hO235 : OwnD w230 w157.heap.size (b229 + 1) 34 3 RO_Table (some ⟨b229, 0, none⟩) 1 1 ([(s_l24Set p_t p_name (IntKind.wrap .i64 (x144 - 1)))] : List DTable) := OwnD.of_box (b := b229) (xs := ([(s_l24Set p_t p_name (IntKind.wrap .i64 (x144 - 1)))] : List DTable)) (cells := [[.string (bs ((s_l24Set p_t p_name (IntKind.wrap .i64 (x144 - 1))).Name)), .slice A221 (((s_l24Set p_t p_name (IntKind.wrap .i64 (x144 - 1))).Cols).length) c221, .slice A222 (((s_l24Set p_t p_name (IntKind.wrap .i64 (x144 - 1))).Idxs).length) c222]]) (by rw [List.flatten_singleton]; exact hB233) (by omega) (Nat.lt_succ_self _) (.cons (l := w157.heap.size) (h := b229) (Nat.le_refl _) (by omega) rfl (fun k hk => by cases hk; exact .inr (Nat.le_refl _)) (mkO_Table (l := w157.heap.size) (h := b229) (OwnL.ex good_Str h221 hE234) (OwnL.ex good_Idx h222 hE234) (by omega) (by omega) (by omega)) (.nil (Nat.le_succ _))) (Nat.le_of_ble_eq_true rfl)
     refine sd rfl (yl_appendD (xs := x140) (ys := ([(s_l24Set p_t p_name (IntKind.wrap .i64 (x144 - 1)))] : List DTable)) goodO_Table un56 ty34 rfl (Nat.le_of_ble_eq_true rfl) rfl rfl rfl (OwnD.ex goodO_Table (OwnD.ex goodO_Table hf169 hE225) hE234) hO235 (by first | omega | (simp only [List.length_append, List.length_cons, List.length_nil, List.length_take, List.length_drop, List.length_replicate, List.length_set, toS_length]; omega)) (by first | omega | (simp only [List.length_append, List.length_cons, List.length_nil, List.length_take, List.length_drop, List.length_replicate, List.length_set, toS_length]; omega)) (by omega) (by omega) (by omega) (by omega) ?_)
     intro A238 c239 w240 row241 hO242 hG243 hrg244
     have hG243z := hG243.size
     refine sd rfl (yl_assign rfl rfl (SeqR.done (bn (tn ?_))))
     have hB245 : B_s_l24Way_0 p_t p_name p_stage (x140, x144) = .cont ((x140 ++ ([(s_l24Set p_t p_name (IntKind.wrap .i64 (x144 - 1)))] : List DTable)), IntKind.wrap .i64 (x144 - 1)) := by simp only [B_s_l24Way_0, hb176, hb180, cL]
     have hmu258 : ((p_stage - IntKind.wrap .i64 (x144 - 1)).toNat + (IntKind.wrap .i64 (x144 - 1) - p_stage).toNat) < ((p_stage - x144).toNat + (x144 - p_stage).toNat) := by first | omega | assumption | (simp only [wI] at *; omega)
     exact ⟨m155 - 1, by omega, (x140 ++ ([(s_l24Set p_t p_name (IntKind.wrap .i64 (x144 - 1)))] : List DTable)), IntKind.wrap .i64 (x144 - 1), A238, c239, w240.heap.size, (by omega), (by omega), rfl, rfl, rfl, rfl, rfl, (Box.grown (Box.ex (Box.ex hf166 hE225) hE234) hG243 (fun k hk => by have := hrg244 k hk; omega)), (RdS.grown good_Str (RdS.ex good_Str (RdS.ex good_Str hf167 hE225) hE234) hG243 (fun k hk => by have := hrg244 k hk; simp only [Iv]; omega)), (RdS.grown good_Idx (RdS.ex good_Idx (RdS.ex good_Idx hf168 hE225) hE234) hG243 (fun k hk => by have := hrg244 k hk; simp only [Iv]; omega)), hO242, (Below.grown (Ex.trans (Ex.trans hf170 hE225) hE234) hG243 (by omega) (fun k hk => by have := hrg244 k hk; omega)), (by omega), (by first | omega | (simp only [List.length_append, List.length_cons, List.length_nil, List.length_set, toS_length]; omega)), (okE.append hok173 ((okL.mk (Nat.le_of_ble_eq_true rfl) (okE.cons ho223 okE.nil))).2), (by first | omega | assumption | (simp only [wI] at *; omega)), (by first | omega | assumption | (simp only [wI] at *; omega)), (loopW.cont hk158 hB245).symm.trans hI159⟩
theorem c_s_l24SameCols {A1 : Option Addr} {c1 : Nat} {A2 : Option Addr} {c2 : Nat} {A4 : Option Addr} {c4 : Nat} {A5 : Option Addr} {c5 : Nat} {w : World} (p_0 : DTable) (p_1 : DTable) (h1 : RdS w (Iv 0 w.heap.size) (RF e_Str) 1 A1 p_0.Cols.length c1 p_0.Cols) (h2 : RdS w (Iv 0 w.heap.size) (RF e_Idx) 3 A2 p_0.Idxs.length c2 p_0.Idxs) (h4 : RdS w (Iv 0 w.heap.size) (RF e_Str) 1 A4 p_1.Cols.length c4 p_1.Cols) (h5 : RdS w (Iv 0 w.heap.size) (RF e_Idx) 3 A5 p_1.Idxs.length c5 p_1.Idxs) (o3 : ok_Table p_0) (o6 : ok_Table p_1) : Cal Tryz.prog 134 #[.agg #[.string (bs (p_0.Name)), .slice A1 p_0.Cols.length c1, .slice A2 p_0.Idxs.length c2], .agg #[.string (bs (p_1.Name)), .slice A4 p_1.Cols.length c4, .slice A5 p_1.Idxs.length c5]] w fun v w' => v = .bool ((s_l24SameCols p_0 p_1)) ∧ Ex w w' := by
 have hol7 : p_0.Name.length ≤ 1073741824 := o3.1
 have hol8 := o3.2.1.1
 have hol9 := o3.2.2.1
 have hol10 : p_1.Name.length ≤ 1073741824 := o6.1
 have hol11 := o6.2.1.1
 have hol12 := o6.2.2.1
 refine Cal.of func134 rfl ntmps134 rfl (CW.seq (CW.region (sd rfl (yl_box rfl rfl rfl ?_))))
 intro b13 w14 hs15 hz16 hB17 hE18
 refine sd rfl (yl_box rfl rfl rfl ?_)
 intro b19 w20 hs21 hz22 hB23 hE24
 refine sd rfl (yl_assign rfl rfl (dn (CW.seq (CW.seq (CW.region (sd rfl (yl_fieldAddr fd34_0 rfl rfl ?_)))))))
 have q25 := Box.ex hB17 hE24
 refine sd rfl (yl_load1 ty9 rfl rfl ((q25.cell 0).trans rfl) (sd rfl (yl_fieldAddr fd34_0 rfl rfl (sd rfl (yl_load1 ty9 rfl rfl ((hB23.cell 0).trans rfl) (sd rfl (yl_sneq (a := p_0.Name) (b := p_1.Name) rfl rfl rfl (sd rfl (yl_move rfl rfl (bcase (p_0.Name == p_1.Name) (fun hb26 => ?_) (fun hb26 => ?_)))))))))))
 ·refine sy rfl rfl (not_t hb26) (yl_fieldAddr fd34_1 rfl rfl (sy rfl rfl (not_t hb26) (yl_load1 ty22 rfl rfl ((q25.cell 1).trans rfl) (sy rfl rfl (not_t hb26) (yl_len un22 rfl rfl (sy rfl rfl (not_t hb26) (yl_fieldAddr fd34_1 rfl rfl (sy rfl rfl (not_t hb26) (yl_load1 ty22 rfl rfl ((hB23.cell 1).trans rfl) (sy rfl rfl (not_t hb26) (yl_len un22 rfl rfl (sy rfl rfl (not_t hb26) (yl_neq rfl rfl rfl (sd rfl (yl_pick_f rfl rfl (not_t hb26) rfl (sd rfl (yl_move rfl rfl ?_)))))))))))))))))
  refine bcase (decide ((p_0.Cols.length : Int) = (p_1.Cols.length : Int))) (fun hb27 => ?_) (fun hb27 => ?_)
  ·have hb27p := dec_t hb27
   refine sy rfl rfl (not_t hb27) (yl_fieldAddr fd34_2 rfl rfl (sy rfl rfl (not_t hb27) (yl_load1 ty32 rfl rfl ((q25.cell 2).trans rfl) (sy rfl rfl (not_t hb27) (yl_len un32 rfl rfl (sy rfl rfl (not_t hb27) (yl_fieldAddr fd34_2 rfl rfl (sy rfl rfl (not_t hb27) (yl_load1 ty32 rfl rfl ((hB23.cell 2).trans rfl) (sy rfl rfl (not_t hb27) (yl_len un32 rfl rfl (sy rfl rfl (not_t hb27) (yl_neq rfl rfl rfl (sd rfl (yl_pick_f rfl rfl (not_t hb27) rfl (SeqR.done ?_))))))))))))))))
   refine tn (bcase (decide ((p_0.Idxs.length : Int) = (p_1.Idxs.length : Int))) (fun hb28 => ?_) (fun hb28 => ?_))
   ·have hb28p := dec_t hb28
    refine CW.cond_f rfl (not_t hb28) (CW.skip (tn (CW.seq (CW.seq (CW.region (sd rfl (yl_fieldAddr fd34_1 rfl rfl (sd rfl (yl_load1 ty22 rfl rfl ((q25.cell 1).trans rfl) (sd rfl (yl_len un22 rfl rfl ?_)))))))))))
    refine sd rfl (yl_move rfl rfl (dn (CW.block (CW.loop (fun m30 L31 w32 => ∃ (k29 : Nat), m30 = p_0.Cols.length - k29 ∧ k29 ≤ p_0.Cols.length ∧ w20.heap.size ≤ w32.heap.size ∧ lkp L31 2 = some (.pointer (some ⟨b13, 0, none⟩)) ∧ lkp L31 3 = some (.pointer (some ⟨b19, 0, none⟩)) ∧ lkp L31 32 = some (.int .i64 ((p_0.Cols.length : Int))) ∧ lkp L31 33 = some (.int .i64 ((k29 : Int))) ∧ Box w32 b13 34 [.string (bs (p_0.Name)), .slice A1 p_0.Cols.length c1, .slice A2 p_0.Idxs.length c2] ∧ RdS w32 (Iv 0 w.heap.size) (RF e_Str) 1 A1 p_0.Cols.length c1 p_0.Cols ∧ RdS w32 (Iv 0 w.heap.size) (RF e_Idx) 3 A2 p_0.Idxs.length c2 p_0.Idxs ∧ Box w32 b19 34 [.string (bs (p_1.Name)), .slice A4 p_1.Cols.length c4, .slice A5 p_1.Idxs.length c5] ∧ RdS w32 (Iv 0 w.heap.size) (RF e_Str) 1 A4 p_1.Cols.length c4 p_1.Cols ∧ RdS w32 (Iv 0 w.heap.size) (RF e_Idx) 3 A5 p_1.Idxs.length c5 p_1.Idxs ∧ Ex w w32 ∧ loopM (B_s_l24SameCols_0 p_0 p_1) (p_0.Cols.length - k29) k29 () = loopM (B_s_l24SameCols_0 p_0 p_1) (p_0.Cols.length - 0) 0 ()) (p_0.Cols.length - 0) ?_ ?_))))
    ·exact ⟨0, rfl, (by omega), Nat.le_refl _, rfl, rfl, rfl, rfl, q25, (RdS.ex good_Str (RdS.ex good_Str h1 hE18) hE24), (RdS.ex good_Idx (RdS.ex good_Idx h2 hE18) hE24), hB23, (RdS.ex good_Str (RdS.ex good_Str h4 hE18) hE24), (RdS.ex good_Idx (RdS.ex good_Idx h5 hE18) hE24), (Ex.trans (Ex.trans (Ex.refl w) hE18) hE24), rfl⟩
    ·rintro m43 L44 w45 ⟨k29, rfl, hk46, hsz48, hl49, hl50, hl51, hl52, hf53, hf54, hf55, hf56, hf57, hf58, hf59, hI47⟩
     refine CW.sub (Sub.cons hl49 (Sub.cons hl50 (Sub.cons hl51 (Sub.cons hl52 (Sub.nil _))))) ?_
     have hf53z := Box.lt hf53
     have hf56z := Box.lt hf56
     have hf59z := Ex.size hf59
     have hbg60 := RdS.big hf54
     rcases Nat.lt_or_ge k29 p_0.Cols.length with hlt61 | hlt61
     ·refine CW.seq (CW.region (sd rfl (yl_lss rfl rfl rfl (dn (CW.seq (CW.cond_t rfl (lt_t hlt61) (CW.skip (tn ?_))))))))
      refine CW.seq (CW.block (CW.seq (CW.region (sd rfl (yl_move rfl rfl (sd rfl (yl_assign rfl rfl (dn (CW.seq ?_)))))))))
      obtain ⟨eb62, eo62, _, eA62, _, ebl62, _, eR62, eC62⟩ := RdS.aD hf54 d_Str (i := k29)
      obtain rfl := eR62
      have eC62 : Cells w45 eb62 (eo62 + k29 * 1) [.string (bs ((p_0.Cols.getD k29 d_Str)))] := eC62
      obtain ⟨eb63, eo63, _, eA63, _, ebl63, _, eR63, eC63⟩ := RdS.aD hf57 d_Str (i := k29)
      obtain rfl := eR63
      have eC63 : Cells w45 eb63 (eo63 + k29 * 1) [.string (bs ((p_1.Cols.getD k29 d_Str)))] := eC63
      refine CW.drawsI 11 (vgetI ([.pointer (some ⟨b13, 0 + 1, none⟩), .slice A1 p_0.Cols.length c1, .int .i64 ((k29 : Int)), .pointer (some ⟨eb62, eo62 + k29 * 1, none⟩), .string (bs ((p_0.Cols.getD k29 d_Str))), .pointer (some ⟨b19, 0 + 1, none⟩), .slice A4 p_1.Cols.length c4, .int .i64 ((k29 : Int)), .pointer (some ⟨eb63, eo63 + k29 * 1, none⟩), .string (bs ((p_1.Cols.getD k29 d_Str))), .bool (!((p_0.Cols.getD k29 d_Str) == (p_1.Cols.getD k29 d_Str)))].map DetI)) Tryz.follows rfl rfl rfl rfl rfl rfl (vgetI_stable (stD _)) ⟨?_, ?_, ?_, ?_, ?_, ?_, ?_, ?_, ?_, ?_, ?_, trivial⟩ ?_
      ·exact oI rfl fun h => yl_fieldAddr fd34_1 rfl (h.old 2 _ rfl rfl) kI
      ·exact oI rfl fun h => yl_load1 ty22 rfl (h.dt 0 36 rfl rfl rfl) (((Box.ex hf53 h.ex).cell 1).trans rfl) kI
      ·exact oI rfl fun h => yl_move rfl (h.old 5 _ rfl rfl) kI
      ·intro L80 w81 hi82
       have hE83 := hi82.ex
       have hE83z := Ex.size hE83
       exact os rfl ((yl_ixN un22 ty9 rfl (hi82.dt 1 37 rfl rfl rfl) (hi82.dt 2 38 rfl rfl rfl) eA62 kI))
      ·exact oI rfl fun h => yl_load1 ty9 rfl (h.dt 3 39 rfl rfl rfl) ((Cells.ex eC62 h.ex) 0 _ rfl) kI
      ·exact oI rfl fun h => yl_fieldAddr fd34_1 rfl (h.old 3 _ rfl rfl) kI
      ·exact oI rfl fun h => yl_load1 ty22 rfl (h.dt 5 41 rfl rfl rfl) (((Box.ex hf56 h.ex).cell 1).trans rfl) kI
      ·exact oI rfl fun h => yl_move rfl (h.old 5 _ rfl rfl) kI
      ·intro L108 w109 hi110
       have hE111 := hi110.ex
       have hE111z := Ex.size hE111
       exact os rfl ((yl_ixN un22 ty9 rfl (hi110.dt 6 42 rfl rfl rfl) (hi110.dt 7 43 rfl rfl rfl) eA63 kI))
      ·exact oI rfl fun h => yl_load1 ty9 rfl (h.dt 8 44 rfl rfl rfl) ((Cells.ex eC63 h.ex) 0 _ rfl) kI
      ·exact oI rfl fun h => yl_sneq (a := (p_0.Cols.getD k29 d_Str)) (b := (p_1.Cols.getD k29 d_Str)) rfl (h.dt 4 40 rfl rfl rfl) (h.dt 9 45 rfl rfl rfl) kI
      ·intro fl129 fh130 L126 w127 hp128
       have hE131 := hp128.ex
       have hE131z := Ex.size hE131
       refine dn (CW.sub (Sub.cons (d := 2) (hp128.old 2 _ rfl rfl) (Sub.cons (d := 3) (hp128.old 3 _ rfl rfl) (Sub.cons (d := 32) (hp128.old 32 _ rfl rfl) (Sub.cons (d := 33) (hp128.old 33 _ rfl rfl) (Sub.cons (d := 46) (hp128.nt 10 46 rfl rfl rfl) (Sub.nil _)))))) (bcase ((p_0.Cols.getD k29 d_Str) == (p_1.Cols.getD k29 d_Str)) (fun hb137 => ?_) (fun hb137 => ?_)))
       ·refine CW.cond_f rfl (not_t hb137) (CW.skip (bn (tn (CW.region (sd rfl (yl_inc rfl rfl rfl (by omega) (sd rfl (yl_move rfl rfl (dn ?_)))))))))
        have hB138 : B_s_l24SameCols_0 p_0 p_1 k29 () = .cont () := by simp only [B_s_l24SameCols_0, hb26, hb27, hb28, hb137, cL]
        exact ⟨p_0.Cols.length - (k29 + 1), by omega, k29 + 1, rfl, hlt61, (by omega), rfl, rfl, rfl, rfl, (Box.ex hf53 hE131), (RdS.ex good_Str hf54 hE131), (RdS.ex good_Idx hf55 hE131), (Box.ex hf56 hE131), (RdS.ex good_Str hf57 hE131), (RdS.ex good_Idx hf58 hE131), (Ex.trans hf59 hE131), (loopM.cont hlt61 hB138).symm.trans hI47⟩
       ·refine CW.cond_t rfl (not_f hb137) (CW.seq (CW.region (sd rfl (yl_assign rfl rfl (dn (CW.ret (br (tr ?_))))))))
        refine tr ?_
        have hB147 : B_s_l24SameCols_0 p_0 p_1 k29 () = .ret false := by simp only [B_s_l24SameCols_0, hb26, hb27, hb28, hb137, cL]
        have hL146 : loopM (B_s_l24SameCols_0 p_0 p_1) (p_0.Cols.length - 0) 0 () = .ret false := hI47.symm.trans (loopM.ret hlt61 hB147)
        refine br (tr (rr rfl (.cons rfl .nil) ?_))
        have hM148 : (s_l24SameCols p_0 p_1) = (false) := by simp only [s_l24SameCols, hb26, hb27, hb28, hb137, hL146, cL]
        rw [hM148]
        exact ⟨rfl, (Ex.trans hf59 hE131)⟩
     ·refine CW.seq (CW.region (sd rfl (yl_lss rfl rfl rfl (dn (CW.seq (CW.cond_f rfl (lt_f hlt61) (CW.exit (tx ?_))))))))
      refine tx ?_
      have hL150 : loopM (B_s_l24SameCols_0 p_0 p_1) (p_0.Cols.length - 0) 0 () = .done () := hI47.symm.trans (loopM.stop hlt61)
      refine bx (tn (CW.seq (CW.seq (CW.region (sd rfl (yl_fieldAddr fd34_2 rfl rfl (sd rfl (yl_load1 ty32 rfl rfl ((hf53.cell 2).trans rfl) (sd rfl (yl_len un32 rfl rfl (sd rfl (yl_move rfl rfl ?_))))))))))))
      refine dn (CW.block (CW.loop (fun m152 L153 w154 => ∃ (k151 : Nat), m152 = p_0.Idxs.length - k151 ∧ k151 ≤ p_0.Idxs.length ∧ w45.heap.size ≤ w154.heap.size ∧ lkp L153 2 = some (.pointer (some ⟨b13, 0, none⟩)) ∧ lkp L153 3 = some (.pointer (some ⟨b19, 0, none⟩)) ∧ lkp L153 50 = some (.int .i64 ((p_0.Idxs.length : Int))) ∧ lkp L153 51 = some (.int .i64 ((k151 : Int))) ∧ Box w154 b13 34 [.string (bs (p_0.Name)), .slice A1 p_0.Cols.length c1, .slice A2 p_0.Idxs.length c2] ∧ RdS w154 (Iv 0 w.heap.size) (RF e_Str) 1 A1 p_0.Cols.length c1 p_0.Cols ∧ RdS w154 (Iv 0 w.heap.size) (RF e_Idx) 3 A2 p_0.Idxs.length c2 p_0.Idxs ∧ Box w154 b19 34 [.string (bs (p_1.Name)), .slice A4 p_1.Cols.length c4, .slice A5 p_1.Idxs.length c5] ∧ RdS w154 (Iv 0 w.heap.size) (RF e_Str) 1 A4 p_1.Cols.length c4 p_1.Cols ∧ RdS w154 (Iv 0 w.heap.size) (RF e_Idx) 3 A5 p_1.Idxs.length c5 p_1.Idxs ∧ Ex w w154 ∧ loopM (B_s_l24SameCols_1 p_0 p_1) (p_0.Idxs.length - k151) k151 () = loopM (B_s_l24SameCols_1 p_0 p_1) (p_0.Idxs.length - 0) 0 ()) (p_0.Idxs.length - 0) ?_ ?_))
      ·exact ⟨0, rfl, (by omega), Nat.le_refl _, rfl, rfl, rfl, rfl, hf53, hf54, hf55, hf56, hf57, hf58, hf59, rfl⟩
      ·rintro m155 L156 w157 ⟨k151, rfl, hk158, hsz160, hl161, hl162, hl163, hl164, hf165, hf166, hf167, hf168, hf169, hf170, hf171, hI159⟩
       refine CW.sub (Sub.cons hl161 (Sub.cons hl162 (Sub.cons hl163 (Sub.cons hl164 (Sub.nil _))))) ?_
       have hf165z := Box.lt hf165
       have hf168z := Box.lt hf168
       have hf171z := Ex.size hf171
       have hbg172 := RdS.big hf167
       rcases Nat.lt_or_ge k151 p_0.Idxs.length with hlt173 | hlt173
       ·refine CW.seq (CW.region (sd rfl (yl_lss rfl rfl rfl (dn (CW.seq (CW.cond_t rfl (lt_t hlt173) (CW.skip (tn ?_))))))))
        refine CW.seq (CW.block (CW.seq (CW.region (sd rfl (yl_move rfl rfl (sd rfl (yl_assign rfl rfl (dn (CW.seq ?_)))))))))
        obtain ⟨eb174, eo174, _, _, _, ebl174, _, eR174, eC174⟩ := RdS.aD hf167 d_Idx (i := k151)
        obtain rfl := eR174
        have eC174 : Cells w157 eb174 (eo174 + k151 * 3) [.string (bs ((p_0.Idxs.getD k151 d_Idx).Name)), .int .i64 ((p_0.Idxs.getD k151 d_Idx).Col), .int .i64 ((p_0.Idxs.getD k151 d_Idx).Stage)] := eC174
        obtain ⟨eb175, eo175, _, _, _, ebl175, _, eR175, eC175⟩ := RdS.aD hf170 d_Idx (i := k151)
        obtain rfl := eR175
        have eC175 : Cells w157 eb175 (eo175 + k151 * 3) [.string (bs ((p_1.Idxs.getD k151 d_Idx).Name)), .int .i64 ((p_1.Idxs.getD k151 d_Idx).Col), .int .i64 ((p_1.Idxs.getD k151 d_Idx).Stage)] := eC175
        refine bcase (((p_0.Idxs.getD k151 d_Idx).Name) == ((p_1.Idxs.getD k151 d_Idx).Name)) (fun hb176 => ?_) (fun hb176 => ?_)
        ·obtain ⟨eb177, eo177, _, eA177, _, ebl177, _, eR177, eC177⟩ := RdS.aD hf167 d_Idx (i := k151)
         obtain rfl := eR177
         have eC177 : Cells w157 eb177 (eo177 + k151 * 3) [.string (bs ((p_0.Idxs.getD k151 d_Idx).Name)), .int .i64 ((p_0.Idxs.getD k151 d_Idx).Col), .int .i64 ((p_0.Idxs.getD k151 d_Idx).Stage)] := eC177
         obtain ⟨eb178, eo178, _, eA178, _, ebl178, _, eR178, eC178⟩ := RdS.aD hf170 d_Idx (i := k151)
         obtain rfl := eR178
         have eC178 : Cells w157 eb178 (eo178 + k151 * 3) [.string (bs ((p_1.Idxs.getD k151 d_Idx).Name)), .int .i64 ((p_1.Idxs.getD k151 d_Idx).Col), .int .i64 ((p_1.Idxs.getD k151 d_Idx).Stage)] := eC178
         refine CW.drawsI 28 (vgetI ([.pointer (some ⟨b13, 0 + 2, none⟩), .slice A2 p_0.Idxs.length c2, .int .i64 ((k151 : Int)), .pointer (some ⟨eb177, eo177 + k151 * 3, none⟩), .pointer (some ⟨eb177, eo177 + k151 * 3 + 0, none⟩), .string (bs ((p_0.Idxs.getD k151 d_Idx).Name)), .pointer (some ⟨b19, 0 + 2, none⟩), .slice A5 p_1.Idxs.length c5, .int .i64 ((k151 : Int)), .pointer (some ⟨eb178, eo178 + k151 * 3, none⟩), .pointer (some ⟨eb178, eo178 + k151 * 3 + 0, none⟩), .string (bs ((p_1.Idxs.getD k151 d_Idx).Name)), .bool (!(((p_0.Idxs.getD k151 d_Idx).Name) == ((p_1.Idxs.getD k151 d_Idx).Name))), .bool (!(((p_0.Idxs.getD k151 d_Idx).Name) == ((p_1.Idxs.getD k151 d_Idx).Name))), .pointer (some ⟨b13, 0 + 2, none⟩), .slice A2 p_0.Idxs.length c2, .int .i64 ((k151 : Int)), .pointer (some ⟨eb177, eo177 + k151 * 3, none⟩), .pointer (some ⟨eb177, eo177 + k151 * 3 + 1, none⟩), .int .i64 ((p_0.Idxs.getD k151 d_Idx).Col), .pointer (some ⟨b19, 0 + 2, none⟩), .slice A5 p_1.Idxs.length c5, .int .i64 ((k151 : Int)), .pointer (some ⟨eb178, eo178 + k151 * 3, none⟩), .pointer (some ⟨eb178, eo178 + k151 * 3 + 1, none⟩), .int .i64 ((p_1.Idxs.getD k151 d_Idx).Col), .bool (!(decide (((p_0.Idxs.getD k151 d_Idx).Col) = ((p_1.Idxs.getD k151 d_Idx).Col)))), .bool (!(decide (((p_0.Idxs.getD k151 d_Idx).Col) = ((p_1.Idxs.getD k151 d_Idx).Col))))].map DetI)) Tryz.follows rfl rfl rfl rfl rfl rfl (vgetI_stable (stD _)) ⟨?_, ?_, ?_, ?_, ?_, ?_, ?_, ?_, ?_, ?_, ?_, ?_, ?_, ?_, ?_, ?_, ?_, ?_, ?_, ?_, ?_, ?_, ?_, ?_, ?_, ?_, ?_, ?_, trivial⟩ ?_
         ·exact oI rfl fun h => yl_fieldAddr fd34_2 rfl (h.old 2 _ rfl rfl) kI
         ·exact oI rfl fun h => yl_load1 ty32 rfl (h.dt 0 54 rfl rfl rfl) (((Box.ex hf165 h.ex).cell 2).trans rfl) kI
         ·exact oI rfl fun h => yl_move rfl (h.old 6 _ rfl rfl) kI
         ·intro L195 w196 hi197
          have hE198 := hi197.ex
          have hE198z := Ex.size hE198
          exact os rfl ((yl_ixN un32 ty104 rfl (hi197.dt 1 55 rfl rfl rfl) (hi197.dt 2 56 rfl rfl rfl) eA177 kI))
         ·exact oI rfl fun h => yl_fieldAddr fd104_0 rfl (h.dt 3 57 rfl rfl rfl) kI
         ·exact oI rfl fun h => yl_load1 ty9 rfl (h.dt 4 58 rfl rfl rfl) ((Cells.ex eC177 h.ex) 0 _ rfl) kI
         ·exact oI rfl fun h => yl_fieldAddr fd34_2 rfl (h.old 3 _ rfl rfl) kI
         ·exact oI rfl fun h => yl_load1 ty32 rfl (h.dt 6 60 rfl rfl rfl) (((Box.ex hf168 h.ex).cell 2).trans rfl) kI
         ·exact oI rfl fun h => yl_move rfl (h.old 6 _ rfl rfl) kI
         ·intro L228 w229 hi230
          have hE231 := hi230.ex
          have hE231z := Ex.size hE231
          exact os rfl ((yl_ixN un32 ty104 rfl (hi230.dt 7 61 rfl rfl rfl) (hi230.dt 8 62 rfl rfl rfl) eA178 kI))
         ·exact oI rfl fun h => yl_fieldAddr fd104_0 rfl (h.dt 9 63 rfl rfl rfl) kI
         ·exact oI rfl fun h => yl_load1 ty9 rfl (h.dt 10 64 rfl rfl rfl) ((Cells.ex eC178 h.ex) 0 _ rfl) kI
         ·exact oI rfl fun h => yl_sneq (a := ((p_0.Idxs.getD k151 d_Idx).Name)) (b := ((p_1.Idxs.getD k151 d_Idx).Name)) rfl (h.dt 5 59 rfl rfl rfl) (h.dt 11 65 rfl rfl rfl) kI
         ·exact oI rfl fun h => yl_move rfl (h.dt 12 66 rfl rfl rfl) kI
         ·exact oW rfl rfl rfl rfl (not_t hb176) fun h => yl_fieldAddr fd34_2 rfl (h.old 2 _ rfl rfl) kI
         ·exact oW rfl rfl rfl rfl (not_t hb176) fun h => yl_load1 ty32 rfl (h.dt 14 68 rfl rfl rfl) (((Box.ex hf165 h.ex).cell 2).trans rfl) kI
         ·exact oW rfl rfl rfl rfl (not_t hb176) fun h => yl_move rfl (h.old 6 _ rfl rfl) kI
         ·intro L275 w276 hi277
          have hE278 := hi277.ex
          have hE278z := Ex.size hE278
          exact OpR.want rfl rfl (hi277.dt 13 67 rfl rfl rfl) (not_t hb176) (Yl.sameI (yl_ixN un32 ty104 rfl (hi277.dt 15 69 rfl rfl rfl) (hi277.dt 16 70 rfl rfl rfl) eA177 kI))
         ·exact oW rfl rfl rfl rfl (not_t hb176) fun h => yl_fieldAddr fd104_1 rfl (h.dt 17 71 rfl rfl rfl) kI
         ·exact oW rfl rfl rfl rfl (not_t hb176) fun h => yl_load1 ty3 rfl (h.dt 18 72 rfl rfl rfl) ((Cells.ex eC177 h.ex) 1 _ rfl) kI
         ·exact oW rfl rfl rfl rfl (not_t hb176) fun h => yl_fieldAddr fd34_2 rfl (h.old 3 _ rfl rfl) kI
         ·exact oW rfl rfl rfl rfl (not_t hb176) fun h => yl_load1 ty32 rfl (h.dt 20 74 rfl rfl rfl) (((Box.ex hf168 h.ex).cell 2).trans rfl) kI
         ·exact oW rfl rfl rfl rfl (not_t hb176) fun h => yl_move rfl (h.old 6 _ rfl rfl) kI
         ·intro L314 w315 hi316
          have hE317 := hi316.ex
          have hE317z := Ex.size hE317
          exact OpR.want rfl rfl (hi316.dt 13 67 rfl rfl rfl) (not_t hb176) (Yl.sameI (yl_ixN un32 ty104 rfl (hi316.dt 21 75 rfl rfl rfl) (hi316.dt 22 76 rfl rfl rfl) eA178 kI))
         ·exact oW rfl rfl rfl rfl (not_t hb176) fun h => yl_fieldAddr fd104_1 rfl (h.dt 23 77 rfl rfl rfl) kI
         ·exact oW rfl rfl rfl rfl (not_t hb176) fun h => yl_load1 ty3 rfl (h.dt 24 78 rfl rfl rfl) ((Cells.ex eC178 h.ex) 1 _ rfl) kI
         ·exact oW rfl rfl rfl rfl (not_t hb176) fun h => yl_neq rfl (h.dt 19 73 rfl rfl rfl) (h.dt 25 79 rfl rfl rfl) kI
         ·exact oI rfl fun h => yl_pick_f rfl (h.dt 13 67 rfl rfl rfl) (not_t hb176) (h.dt 26 80 rfl rfl rfl) kI
         ·intro fl350 fh351 L347 w348 hp349
          have hE352 := hp349.ex
          have hE352z := Ex.size hE352
          refine dn (CW.sub (Sub.cons (d := 2) (hp349.old 2 _ rfl rfl) (Sub.cons (d := 3) (hp349.old 3 _ rfl rfl) (Sub.cons (d := 50) (hp349.old 50 _ rfl rfl) (Sub.cons (d := 51) (hp349.old 51 _ rfl rfl) (Sub.cons (d := 68) (hp349.nt 14 68 rfl rfl rfl) (Sub.cons (d := 69) (hp349.nt 15 69 rfl rfl rfl) (Sub.cons (d := 70) (hp349.nt 16 70 rfl rfl rfl) (Sub.cons (d := 71) (hp349.nt 17 71 rfl rfl rfl) (Sub.cons (d := 72) (hp349.nt 18 72 rfl rfl rfl) (Sub.cons (d := 73) (hp349.nt 19 73 rfl rfl rfl) (Sub.cons (d := 74) (hp349.nt 20 74 rfl rfl rfl) (Sub.cons (d := 75) (hp349.nt 21 75 rfl rfl rfl) (Sub.cons (d := 76) (hp349.nt 22 76 rfl rfl rfl) (Sub.cons (d := 77) (hp349.nt 23 77 rfl rfl rfl) (Sub.cons (d := 78) (hp349.nt 24 78 rfl rfl rfl) (Sub.cons (d := 79) (hp349.nt 25 79 rfl rfl rfl) (Sub.cons (d := 80) (hp349.nt 26 80 rfl rfl rfl) (Sub.cons (d := 81) (hp349.nt 27 81 rfl rfl rfl) (Sub.nil _))))))))))))))))))) (bcase (decide (((p_0.Idxs.getD k151 d_Idx).Col) = ((p_1.Idxs.getD k151 d_Idx).Col))) (fun hb371 => ?_) (fun hb371 => ?_)))
          ·have hb371p := dec_t hb371
           refine CW.cond_f rfl (not_t hb371) (CW.skip (bn (tn (CW.region (sd rfl (yl_inc rfl rfl rfl (by omega) (sd rfl (yl_move rfl rfl (dn ?_)))))))))
           have hB372 : B_s_l24SameCols_1 p_0 p_1 k151 () = .cont () := by simp only [B_s_l24SameCols_1, hb26, hb27, hb28, hb176, hb371, hL150, cL]
           exact ⟨p_0.Idxs.length - (k151 + 1), by omega, k151 + 1, rfl, hlt173, (by omega), rfl, rfl, rfl, rfl, (Box.ex hf165 hE352), (RdS.ex good_Str hf166 hE352), (RdS.ex good_Idx hf167 hE352), (Box.ex hf168 hE352), (RdS.ex good_Str hf169 hE352), (RdS.ex good_Idx hf170 hE352), (Ex.trans hf171 hE352), (loopM.cont hlt173 hB372).symm.trans hI159⟩
          ·have hb371p := dec_f hb371
           refine CW.cond_t rfl (not_f hb371) (CW.seq (CW.region (sd rfl (yl_assign rfl rfl (dn (CW.ret (br (tr ?_))))))))
           refine tr ?_
           have hB381 : B_s_l24SameCols_1 p_0 p_1 k151 () = .ret false := by simp only [B_s_l24SameCols_1, hb26, hb27, hb28, hb176, hb371, hL150, cL]
           have hL380 : loopM (B_s_l24SameCols_1 p_0 p_1) (p_0.Idxs.length - 0) 0 () = .ret false := hI159.symm.trans (loopM.ret hlt173 hB381)
           refine br (tr (rr rfl (.cons rfl .nil) ?_))
           have hM382 : (s_l24SameCols p_0 p_1) = (false) := by simp only [s_l24SameCols, hb26, hb27, hb28, hb176, hb371, hL150, hL380, cL]
           rw [hM382]
           exact ⟨rfl, (Ex.trans hf171 hE352)⟩
        ·obtain ⟨eb384, eo384, _, eA384, _, ebl384, _, eR384, eC384⟩ := RdS.aD hf167 d_Idx (i := k151)
         obtain rfl := eR384
         have eC384 : Cells w157 eb384 (eo384 + k151 * 3) [.string (bs ((p_0.Idxs.getD k151 d_Idx).Name)), .int .i64 ((p_0.Idxs.getD k151 d_Idx).Col), .int .i64 ((p_0.Idxs.getD k151 d_Idx).Stage)] := eC384
         obtain ⟨eb385, eo385, _, eA385, _, ebl385, _, eR385, eC385⟩ := RdS.aD hf170 d_Idx (i := k151)
         obtain rfl := eR385
         have eC385 : Cells w157 eb385 (eo385 + k151 * 3) [.string (bs ((p_1.Idxs.getD k151 d_Idx).Name)), .int .i64 ((p_1.Idxs.getD k151 d_Idx).Col), .int .i64 ((p_1.Idxs.getD k151 d_Idx).Stage)] := eC385
         refine CW.drawsI 28 (vgetI ([.pointer (some ⟨b13, 0 + 2, none⟩), .slice A2 p_0.Idxs.length c2, .int .i64 ((k151 : Int)), .pointer (some ⟨eb384, eo384 + k151 * 3, none⟩), .pointer (some ⟨eb384, eo384 + k151 * 3 + 0, none⟩), .string (bs ((p_0.Idxs.getD k151 d_Idx).Name)), .pointer (some ⟨b19, 0 + 2, none⟩), .slice A5 p_1.Idxs.length c5, .int .i64 ((k151 : Int)), .pointer (some ⟨eb385, eo385 + k151 * 3, none⟩), .pointer (some ⟨eb385, eo385 + k151 * 3 + 0, none⟩), .string (bs ((p_1.Idxs.getD k151 d_Idx).Name)), .bool (!(((p_0.Idxs.getD k151 d_Idx).Name) == ((p_1.Idxs.getD k151 d_Idx).Name))), .bool (!(((p_0.Idxs.getD k151 d_Idx).Name) == ((p_1.Idxs.getD k151 d_Idx).Name))), undef, undef, undef, undef, undef, undef, undef, undef, undef, undef, undef, undef, undef, .bool (true)].map DetI)) Tryz.follows rfl rfl rfl rfl rfl rfl (vgetI_stable (stD _)) ⟨?_, ?_, ?_, ?_, ?_, ?_, ?_, ?_, ?_, ?_, ?_, ?_, ?_, ?_, ?_, ?_, ?_, ?_, ?_, ?_, ?_, ?_, ?_, ?_, ?_, ?_, ?_, ?_, trivial⟩ ?_
         ·exact oI rfl fun h => yl_fieldAddr fd34_2 rfl (h.old 2 _ rfl rfl) kI
         ·exact oI rfl fun h => yl_load1 ty32 rfl (h.dt 0 54 rfl rfl rfl) (((Box.ex hf165 h.ex).cell 2).trans rfl) kI
         ·exact oI rfl fun h => yl_move rfl (h.old 6 _ rfl rfl) kI
         ·intro L402 w403 hi404
          have hE405 := hi404.ex
          have hE405z := Ex.size hE405
          exact os rfl ((yl_ixN un32 ty104 rfl (hi404.dt 1 55 rfl rfl rfl) (hi404.dt 2 56 rfl rfl rfl) eA384 kI))
         ·exact oI rfl fun h => yl_fieldAddr fd104_0 rfl (h.dt 3 57 rfl rfl rfl) kI
         ·exact oI rfl fun h => yl_load1 ty9 rfl (h.dt 4 58 rfl rfl rfl) ((Cells.ex eC384 h.ex) 0 _ rfl) kI
         ·exact oI rfl fun h => yl_fieldAddr fd34_2 rfl (h.old 3 _ rfl rfl) kI
         ·exact oI rfl fun h => yl_load1 ty32 rfl (h.dt 6 60 rfl rfl rfl) (((Box.ex hf168 h.ex).cell 2).trans rfl) kI
         ·exact oI rfl fun h => yl_move rfl (h.old 6 _ rfl rfl) kI
         ·intro L435 w436 hi437
          have hE438 := hi437.ex
          have hE438z := Ex.size hE438
          exact os rfl ((yl_ixN un32 ty104 rfl (hi437.dt 7 61 rfl rfl rfl) (hi437.dt 8 62 rfl rfl rfl) eA385 kI))
         ·exact oI rfl fun h => yl_fieldAddr fd104_0 rfl (h.dt 9 63 rfl rfl rfl) kI
         ·exact oI rfl fun h => yl_load1 ty9 rfl (h.dt 10 64 rfl rfl rfl) ((Cells.ex eC385 h.ex) 0 _ rfl) kI
         ·exact oI rfl fun h => yl_sneq (a := ((p_0.Idxs.getD k151 d_Idx).Name)) (b := ((p_1.Idxs.getD k151 d_Idx).Name)) rfl (h.dt 5 59 rfl rfl rfl) (h.dt 11 65 rfl rfl rfl) kI
         ·exact oI rfl fun h => yl_move rfl (h.dt 12 66 rfl rfl rfl) kI
         ·exact oS rfl rfl rfl rfl rfl (not_f hb176)
         ·exact oS rfl rfl rfl rfl rfl (not_f hb176)
         ·exact oS rfl rfl rfl rfl rfl (not_f hb176)
         ·exact oS rfl rfl rfl rfl rfl (not_f hb176)
         ·exact oS rfl rfl rfl rfl rfl (not_f hb176)
         ·exact oS rfl rfl rfl rfl rfl (not_f hb176)
         ·exact oS rfl rfl rfl rfl rfl (not_f hb176)
         ·exact oS rfl rfl rfl rfl rfl (not_f hb176)
         ·exact oS rfl rfl rfl rfl rfl (not_f hb176)
         ·exact oS rfl rfl rfl rfl rfl (not_f hb176)
         ·exact oS rfl rfl rfl rfl rfl (not_f hb176)
         ·exact oS rfl rfl rfl rfl rfl (not_f hb176)
         ·exact oS rfl rfl rfl rfl rfl (not_f hb176)
         ·exact oI rfl fun h => yl_pick_t rfl (h.dt 13 67 rfl rfl rfl) (not_f hb176) rfl kI
         ·intro fl537 fh538 L534 w535 hp536
          have hE539 := hp536.ex
          have hE539z := Ex.size hE539
          refine dn (CW.sub (Sub.cons (d := 2) (hp536.old 2 _ rfl rfl) (Sub.cons (d := 3) (hp536.old 3 _ rfl rfl) (Sub.cons (d := 50) (hp536.old 50 _ rfl rfl) (Sub.cons (d := 51) (hp536.old 51 _ rfl rfl) (Sub.cons (d := 68) (hp536.nt 14 68 rfl rfl rfl) (Sub.cons (d := 69) (hp536.nt 15 69 rfl rfl rfl) (Sub.cons (d := 70) (hp536.nt 16 70 rfl rfl rfl) (Sub.cons (d := 71) (hp536.nt 17 71 rfl rfl rfl) (Sub.cons (d := 72) (hp536.nt 18 72 rfl rfl rfl) (Sub.cons (d := 73) (hp536.nt 19 73 rfl rfl rfl) (Sub.cons (d := 74) (hp536.nt 20 74 rfl rfl rfl) (Sub.cons (d := 75) (hp536.nt 21 75 rfl rfl rfl) (Sub.cons (d := 76) (hp536.nt 22 76 rfl rfl rfl) (Sub.cons (d := 77) (hp536.nt 23 77 rfl rfl rfl) (Sub.cons (d := 78) (hp536.nt 24 78 rfl rfl rfl) (Sub.cons (d := 79) (hp536.nt 25 79 rfl rfl rfl) (Sub.cons (d := 80) (hp536.nt 26 80 rfl rfl rfl) (Sub.cons (d := 81) (hp536.nt 27 81 rfl rfl rfl) (Sub.nil _))))))))))))))))))) (CW.cond_t rfl rfl (CW.seq (CW.region (sd rfl (yl_assign rfl rfl (dn ?_)))))))
          refine CW.ret (br (tr (tr ?_)))
          have hB559 : B_s_l24SameCols_1 p_0 p_1 k151 () = .ret false := by simp only [B_s_l24SameCols_1, hb26, hb27, hb28, hb176, hL150, cL]
          have hL558 : loopM (B_s_l24SameCols_1 p_0 p_1) (p_0.Idxs.length - 0) 0 () = .ret false := hI159.symm.trans (loopM.ret hlt173 hB559)
          refine br (tr (rr rfl (.cons rfl .nil) ?_))
          have hM560 : (s_l24SameCols p_0 p_1) = (false) := by simp only [s_l24SameCols, hb26, hb27, hb28, hb176, hL150, hL558, cL]
          rw [hM560]
          exact ⟨rfl, (Ex.trans hf171 hE539)⟩
       ·refine CW.seq (CW.region (sd rfl (yl_lss rfl rfl rfl (dn (CW.seq (CW.cond_f rfl (lt_f hlt173) (CW.exit (tx ?_))))))))
        refine tx ?_
        have hL562 : loopM (B_s_l24SameCols_1 p_0 p_1) (p_0.Idxs.length - 0) 0 () = .done () := hI159.symm.trans (loopM.stop hlt173)
        refine bx (tn (CW.seq (CW.region (sd rfl (yl_assign rfl rfl (dn (CW.ret (rr rfl (.cons rfl .nil) ?_))))))))
        have hM563 : (s_l24SameCols p_0 p_1) = (true) := by simp only [s_l24SameCols, hb26, hb27, hb28, hL150, hL562, cL]
        rw [hM563]
        exact ⟨rfl, hf171⟩
   ·have hb28p := dec_f hb28
    refine CW.cond_t rfl (not_f hb28) (CW.seq (CW.region (sd rfl (yl_assign rfl rfl (dn (CW.ret (tr (rr rfl (.cons rfl .nil) ?_))))))))
    have hM564 : (s_l24SameCols p_0 p_1) = (false) := by simp only [s_l24SameCols, hb26, hb27, hb28, cL]
    rw [hM564]
    exact ⟨rfl, (Ex.trans (Ex.trans (Ex.refl w) hE18) hE24)⟩
  ·have hb27p := dec_f hb27
   refine sz rfl rfl (not_f hb27) (sz rfl rfl (not_f hb27) (sz rfl rfl (not_f hb27) (sz rfl rfl (not_f hb27) (sz rfl rfl (not_f hb27) (sz rfl rfl (not_f hb27) (sz rfl rfl (not_f hb27) (sd rfl (yl_pick_t rfl rfl (not_f hb27) rfl (SeqR.done ?_)))))))))
   refine tn (CW.cond_t rfl rfl (CW.seq (CW.region (sd rfl (yl_assign rfl rfl (dn (CW.ret (tr ?_))))))))
   refine rr rfl (.cons rfl .nil) ?_
   have hM567 : (s_l24SameCols p_0 p_1) = (false) := by simp only [s_l24SameCols, hb26, hb27, cL]
   rw [hM567]
   exact ⟨rfl, (Ex.trans (Ex.trans (Ex.refl w) hE18) hE24)⟩
 ·refine sz rfl rfl (not_f hb26) (sz rfl rfl (not_f hb26) (sz rfl rfl (not_f hb26) (sz rfl rfl (not_f hb26) (sz rfl rfl (not_f hb26) (sz rfl rfl (not_f hb26) (sz rfl rfl (not_f hb26) (sd rfl (yl_pick_t rfl rfl (not_f hb26) rfl (sd rfl (yl_move rfl rfl ?_))))))))))
  refine sz rfl rfl rfl (sz rfl rfl rfl (sz rfl rfl rfl (sz rfl rfl rfl (sz rfl rfl rfl (sz rfl rfl rfl (sz rfl rfl rfl (sd rfl (yl_pick_t rfl rfl rfl rfl (SeqR.done ?_)))))))))
  refine tn (CW.cond_t rfl rfl (CW.seq (CW.region (sd rfl (yl_assign rfl rfl (dn (CW.ret (tr ?_))))))))
  refine rr rfl (.cons rfl .nil) ?_
  have hM570 : (s_l24SameCols p_0 p_1) = (false) := by simp only [s_l24SameCols, hb26, cL]
  rw [hM570]
  exact ⟨rfl, (Ex.trans (Ex.trans (Ex.refl w) hE18) hE24)⟩
theorem c_s_l1Most {w : World} (p_a : Int) (p_b : Int) : Cal Tryz.prog 156 #[.int .i64 (p_a), .int .i64 (p_b)] w fun v w' => v = .int .i64 ((s_l1Most p_a p_b)) ∧ Ex w w' := by
 refine Cal.of func156 rfl ntmps156 rfl (CW.seq (CW.region (sd rfl (yl_assign rfl rfl (dn (CW.seq (CW.seq (CW.region ?_))))))))
 refine sd rfl (yl_move rfl rfl (sd rfl (yl_move rfl rfl (sd rfl (yl_gtr rfl rfl rfl (dn (bcase (decide (p_b < p_a)) (fun hb1 => ?_) (fun hb1 => ?_))))))))
 ·have hb1p := dec_t hb1
  refine CW.cond_t rfl hb1 (CW.seq (CW.region (sd rfl (yl_move rfl rfl (sd rfl (yl_assign rfl rfl (dn (CW.ret (tr ?_)))))))))
  refine rr rfl (.cons rfl .nil) ?_
  have hM2 : (s_l1Most p_a p_b) = (p_a) := by simp only [s_l1Most, hb1, cL]
  rw [hM2]
  exact ⟨rfl, (Ex.refl w)⟩
 ·have hb1p := dec_f hb1
  refine CW.cond_f rfl hb1 (CW.skip (tn (CW.seq (CW.region (sd rfl (yl_move rfl rfl (sd rfl (yl_assign rfl rfl (dn ?_)))))))))
  refine CW.ret (rr rfl (.cons rfl .nil) ?_)
  have hM3 : (s_l1Most p_a p_b) = (p_b) := by simp only [s_l1Most, hb1, cL]
  rw [hM3]
  exact ⟨rfl, (Ex.refl w)⟩
theorem c_s_l24Far {A1 : Option Addr} {c1 : Nat} {A2 : Option Addr} {c2 : Nat} {A4 : Option Addr} {c4 : Nat} {A5 : Option Addr} {c5 : Nat} {w : World} (p_a : DTable) (p_b : DTable) (h1 : RdS w (Iv 0 w.heap.size) (RF e_Str) 1 A1 p_a.Cols.length c1 p_a.Cols) (h2 : RdS w (Iv 0 w.heap.size) (RF e_Idx) 3 A2 p_a.Idxs.length c2 p_a.Idxs) (h4 : RdS w (Iv 0 w.heap.size) (RF e_Str) 1 A4 p_b.Cols.length c4 p_b.Cols) (h5 : RdS w (Iv 0 w.heap.size) (RF e_Idx) 3 A5 p_b.Idxs.length c5 p_b.Idxs) (o3 : ok_Table p_a) (o6 : ok_Table p_b) (pre0 : p_a.Idxs.length = p_b.Idxs.length) : Cal Tryz.prog 135 #[.agg #[.string (bs (p_a.Name)), .slice A1 p_a.Cols.length c1, .slice A2 p_a.Idxs.length c2], .agg #[.string (bs (p_b.Name)), .slice A4 p_b.Cols.length c4, .slice A5 p_b.Idxs.length c5]] w fun v w' => v = .int .i64 ((s_l24Far p_a p_b)) ∧ Ex w w' := by
 have hol7 : p_a.Name.length ≤ 1073741824 := o3.1
 have hol8 := o3.2.1.1
 have hol9 := o3.2.2.1
 have hol10 : p_b.Name.length ≤ 1073741824 := o6.1
 have hol11 := o6.2.1.1
 have hol12 := o6.2.2.1
 refine Cal.of func135 rfl ntmps135 rfl (CW.seq (CW.region (sd rfl (yl_box rfl rfl rfl ?_))))
 intro b13 w14 hs15 hz16 hB17 hE18
 refine sd rfl (yl_box rfl rfl rfl ?_)
 intro b19 w20 hs21 hz22 hB23 hE24
 refine sd rfl (yl_assign rfl rfl (dn (CW.seq (CW.region (sd rfl (yl_assign rfl rfl (dn (CW.seq ?_))))))))
 refine CW.seq (CW.region (sd rfl (yl_fieldAddr fd34_2 rfl rfl ?_)))
 have q25 := Box.ex hB17 hE24
 refine sd rfl (yl_load1 ty32 rfl rfl ((q25.cell 2).trans rfl) (sd rfl (yl_len un32 rfl rfl (sd rfl (yl_move rfl rfl (dn (CW.block (CW.loop (fun m28 L29 w30 => ∃ (k26 : Nat) (x27 : Int), m28 = p_a.Idxs.length - k26 ∧ k26 ≤ p_a.Idxs.length ∧ w20.heap.size ≤ w30.heap.size ∧ lkp L29 2 = some (.pointer (some ⟨b13, 0, none⟩)) ∧ lkp L29 3 = some (.pointer (some ⟨b19, 0, none⟩)) ∧ lkp L29 5 = some (.int .i64 (x27)) ∧ lkp L29 10 = some (.int .i64 ((p_a.Idxs.length : Int))) ∧ lkp L29 11 = some (.int .i64 ((k26 : Int))) ∧ Box w30 b13 34 [.string (bs (p_a.Name)), .slice A1 p_a.Cols.length c1, .slice A2 p_a.Idxs.length c2] ∧ RdS w30 (Iv 0 w.heap.size) (RF e_Str) 1 A1 p_a.Cols.length c1 p_a.Cols ∧ RdS w30 (Iv 0 w.heap.size) (RF e_Idx) 3 A2 p_a.Idxs.length c2 p_a.Idxs ∧ Box w30 b19 34 [.string (bs (p_b.Name)), .slice A4 p_b.Cols.length c4, .slice A5 p_b.Idxs.length c5] ∧ RdS w30 (Iv 0 w.heap.size) (RF e_Str) 1 A4 p_b.Cols.length c4 p_b.Cols ∧ RdS w30 (Iv 0 w.heap.size) (RF e_Idx) 3 A5 p_b.Idxs.length c5 p_b.Idxs ∧ Ex w w30 ∧ loopM (B_s_l24Far_0 p_a p_b) (p_a.Idxs.length - k26) k26 (x27) = loopM (B_s_l24Far_0 p_a p_b) (p_a.Idxs.length - 0) 0 (0)) (p_a.Idxs.length - 0) ?_ ?_))))))))
 ·exact ⟨0, 0, rfl, (by omega), Nat.le_refl _, rfl, rfl, rfl, rfl, rfl, q25, (RdS.ex good_Str (RdS.ex good_Str h1 hE18) hE24), (RdS.ex good_Idx (RdS.ex good_Idx h2 hE18) hE24), hB23, (RdS.ex good_Str (RdS.ex good_Str h4 hE18) hE24), (RdS.ex good_Idx (RdS.ex good_Idx h5 hE18) hE24), (Ex.trans (Ex.trans (Ex.refl w) hE18) hE24), rfl⟩
 ·rintro m41 L42 w43 ⟨k26, x27, rfl, hk44, hsz46, hl47, hl48, hl49, hl50, hl51, hf52, hf53, hf54, hf55, hf56, hf57, hf58, hI45⟩
  refine CW.sub (Sub.cons hl47 (Sub.cons hl48 (Sub.cons hl49 (Sub.cons hl50 (Sub.cons hl51 (Sub.nil _)))))) ?_
  have hf52z := Box.lt hf52
  have hf55z := Box.lt hf55
  have hf58z := Ex.size hf58
  have hbg59 := RdS.big hf54
  rcases Nat.lt_or_ge k26 p_a.Idxs.length with hlt60 | hlt60
  ·refine CW.seq (CW.region (sd rfl (yl_lss rfl rfl rfl (dn (CW.seq (CW.cond_t rfl (lt_t hlt60) (CW.skip (tn ?_))))))))
   refine CW.seq (CW.block (CW.seq (CW.region (sd rfl (yl_move rfl rfl (sd rfl (yl_assign rfl rfl (dn (CW.seq ?_)))))))))
   obtain ⟨eb61, eo61, _, eA61, _, ebl61, _, eR61, eC61⟩ := RdS.aD hf54 d_Idx (i := k26)
   obtain rfl := eR61
   have eC61 : Cells w43 eb61 (eo61 + k26 * 3) [.string (bs ((p_a.Idxs.getD k26 d_Idx).Name)), .int .i64 ((p_a.Idxs.getD k26 d_Idx).Col), .int .i64 ((p_a.Idxs.getD k26 d_Idx).Stage)] := eC61
   obtain ⟨eb62, eo62, _, eA62, _, ebl62, _, eR62, eC62⟩ := RdS.aD hf57 d_Idx (i := k26)
   obtain rfl := eR62
   have eC62 : Cells w43 eb62 (eo62 + k26 * 3) [.string (bs ((p_b.Idxs.getD k26 d_Idx).Name)), .int .i64 ((p_b.Idxs.getD k26 d_Idx).Col), .int .i64 ((p_b.Idxs.getD k26 d_Idx).Stage)] := eC62
   refine CW.drawsI 14 (vgetI ([.pointer (some ⟨b13, 0 + 2, none⟩), .slice A2 p_a.Idxs.length c2, .int .i64 ((k26 : Int)), .pointer (some ⟨eb61, eo61 + k26 * 3, none⟩), .pointer (some ⟨eb61, eo61 + k26 * 3 + 2, none⟩), .int .i64 ((p_a.Idxs.getD k26 d_Idx).Stage), .pointer (some ⟨b19, 0 + 2, none⟩), .slice A5 p_b.Idxs.length c5, .int .i64 ((k26 : Int)), .pointer (some ⟨eb62, eo62 + k26 * 3, none⟩), .pointer (some ⟨eb62, eo62 + k26 * 3 + 2, none⟩), .int .i64 ((p_b.Idxs.getD k26 d_Idx).Stage), .int .i64 (IntKind.wrap .i64 (((p_a.Idxs.getD k26 d_Idx).Stage) - ((p_b.Idxs.getD k26 d_Idx).Stage))), .int .i64 (IntKind.wrap .i64 (((p_a.Idxs.getD k26 d_Idx).Stage) - ((p_b.Idxs.getD k26 d_Idx).Stage)))].map DetI)) Tryz.follows rfl rfl rfl rfl rfl rfl (vgetI_stable (stD _)) ⟨?_, ?_, ?_, ?_, ?_, ?_, ?_, ?_, ?_, ?_, ?_, ?_, ?_, ?_, trivial⟩ ?_
   ·exact oI rfl fun h => yl_fieldAddr fd34_2 rfl (h.old 2 _ rfl rfl) kI
   ·exact oI rfl fun h => yl_load1 ty32 rfl (h.dt 0 14 rfl rfl rfl) (((Box.ex hf52 h.ex).cell 2).trans rfl) kI
   ·exact oI rfl fun h => yl_move rfl (h.old 6 _ rfl rfl) kI
   ·intro L79 w80 hi81
    have hE82 := hi81.ex
    have hE82z := Ex.size hE82
    exact os rfl ((yl_ixN un32 ty104 rfl (hi81.dt 1 15 rfl rfl rfl) (hi81.dt 2 16 rfl rfl rfl) eA61 kI))
   ·exact oI rfl fun h => yl_fieldAddr fd104_2 rfl (h.dt 3 17 rfl rfl rfl) kI
   ·exact oI rfl fun h => yl_load1 ty3 rfl (h.dt 4 18 rfl rfl rfl) ((Cells.ex eC61 h.ex) 2 _ rfl) kI
   ·exact oI rfl fun h => yl_fieldAddr fd34_2 rfl (h.old 3 _ rfl rfl) kI
   ·exact oI rfl fun h => yl_load1 ty32 rfl (h.dt 6 20 rfl rfl rfl) (((Box.ex hf55 h.ex).cell 2).trans rfl) kI
   ·exact oI rfl fun h => yl_move rfl (h.old 6 _ rfl rfl) kI
   ·intro L112 w113 hi114
    have hE115 := hi114.ex
    have hE115z := Ex.size hE115
    exact os rfl ((yl_ixN un32 ty104 rfl (hi114.dt 7 21 rfl rfl rfl) (hi114.dt 8 22 rfl rfl rfl) eA62 kI))
   ·exact oI rfl fun h => yl_fieldAddr fd104_2 rfl (h.dt 9 23 rfl rfl rfl) kI
   ·exact oI rfl fun h => yl_load1 ty3 rfl (h.dt 10 24 rfl rfl rfl) ((Cells.ex eC62 h.ex) 2 _ rfl) kI
   ·exact oI rfl fun h => yl_sub rfl (h.dt 5 19 rfl rfl rfl) (h.dt 11 25 rfl rfl rfl) kI
   ·exact oI rfl fun h => yl_assign rfl (h.dt 12 26 rfl rfl rfl) kI
   ·intro fl143 fh144 L140 w141 hp142
    have hE145 := hp142.ex
    have hE145z := Ex.size hE145
    refine dn (CW.sub (Sub.cons (d := 2) (hp142.old 2 _ rfl rfl) (Sub.cons (d := 3) (hp142.old 3 _ rfl rfl) (Sub.cons (d := 5) (hp142.old 5 _ rfl rfl) (Sub.cons (d := 7) (hp142.nt 13 7 rfl rfl rfl) (Sub.cons (d := 10) (hp142.old 10 _ rfl rfl) (Sub.cons (d := 11) (hp142.old 11 _ rfl rfl) (Sub.nil _))))))) (CW.region (sd rfl (yl_move rfl rfl (sd rfl (yl_move rfl rfl (sd rfl (yl_move rfl rfl (sd rfl (yl_neg rfl rfl (sd rfl (yl_call en156 rfl (oc rfl (oc rfl oz)) (Cal.mono (c_s_l1Most (IntKind.wrap .i64 (((p_a.Idxs.getD k26 d_Idx).Stage) - ((p_b.Idxs.getD k26 d_Idx).Stage))) (IntKind.wrap .i64 (0 - (IntKind.wrap .i64 (((p_a.Idxs.getD k26 d_Idx).Stage) - ((p_b.Idxs.getD k26 d_Idx).Stage)))))) ?_)))))))))))))
    rintro v153 w152 ⟨rfl, hE154⟩
    have hE154z := Ex.size hE154
    refine sd rfl (yl_add rfl rfl rfl (sd rfl (yl_assign rfl rfl (SeqR.done (bn (tn (CW.region (sd rfl (yl_inc rfl rfl rfl (by omega) (sd rfl (yl_move rfl rfl (SeqR.done ?_))))))))))))
    refine tn ?_
    have hB155 : B_s_l24Far_0 p_a p_b k26 (x27) = .cont (IntKind.wrap .i64 (x27 + (s_l1Most (IntKind.wrap .i64 (((p_a.Idxs.getD k26 d_Idx).Stage) - ((p_b.Idxs.getD k26 d_Idx).Stage))) (IntKind.wrap .i64 (0 - (IntKind.wrap .i64 (((p_a.Idxs.getD k26 d_Idx).Stage) - ((p_b.Idxs.getD k26 d_Idx).Stage)))))))) := by simp only [B_s_l24Far_0, cL]
    exact ⟨p_a.Idxs.length - (k26 + 1), by omega, k26 + 1, IntKind.wrap .i64 (x27 + (s_l1Most (IntKind.wrap .i64 (((p_a.Idxs.getD k26 d_Idx).Stage) - ((p_b.Idxs.getD k26 d_Idx).Stage))) (IntKind.wrap .i64 (0 - (IntKind.wrap .i64 (((p_a.Idxs.getD k26 d_Idx).Stage) - ((p_b.Idxs.getD k26 d_Idx).Stage))))))), rfl, hlt60, (by omega), rfl, rfl, rfl, rfl, rfl, (Box.ex (Box.ex hf52 hE145) hE154), (RdS.ex good_Str (RdS.ex good_Str hf53 hE145) hE154), (RdS.ex good_Idx (RdS.ex good_Idx hf54 hE145) hE154), (Box.ex (Box.ex hf55 hE145) hE154), (RdS.ex good_Str (RdS.ex good_Str hf56 hE145) hE154), (RdS.ex good_Idx (RdS.ex good_Idx hf57 hE145) hE154), (Ex.trans (Ex.trans hf58 hE145) hE154), (loopM.cont hlt60 hB155).symm.trans hI45⟩
  ·refine CW.seq (CW.region (sd rfl (yl_lss rfl rfl rfl (dn (CW.seq (CW.cond_f rfl (lt_f hlt60) (CW.exit (tx ?_))))))))
   refine tx ?_
   have hL170 : loopM (B_s_l24Far_0 p_a p_b) (p_a.Idxs.length - 0) 0 (0) = .done (x27) := hI45.symm.trans (loopM.stop hlt60)
   refine bx (tn (CW.seq (CW.region (sd rfl (yl_move rfl rfl (sd rfl (yl_assign rfl rfl (dn (CW.ret ?_)))))))))
   refine rr rfl (.cons rfl .nil) ?_
   have hM171 : (s_l24Far p_a p_b) = (x27) := by simp only [s_l24Far, hL170, cL]
   rw [hM171]
   exact ⟨rfl, hf58⟩
end Go.Proofs.YtdbobbmagmcpnaaGreatDoor
