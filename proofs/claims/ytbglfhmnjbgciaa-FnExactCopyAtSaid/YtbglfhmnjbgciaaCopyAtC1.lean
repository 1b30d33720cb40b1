/- Copy At: what each call returns, part 1. -/
import Derived.Test.YtbglfhmnjbgciaaCopyAtL
import Derived.Test.YtbglfhmnjbgciaaCopyAtF
import Derived.Test.YtbglfhmnjbgciaaCopyAtK
set_option maxRecDepth 100000
set_option maxHeartbeats 2000000
open Go.Proofs.Try Go.Proofs.Ytbglfhmnjbgciaa.Try
set_option linter.unusedVariables false
set_option linter.unusedSimpArgs false
namespace Go.Proofs.Ytbglfhmnjbgciaa
open Go.RowKit Go.X
theorem c_l_szVer {w : World} (p_a : DVer) (p_left : Int) : Cal Try.prog 36 #[.agg #[.int .i64 (p_a.Time), .string (bs (p_a.Val)), .bool (p_a.Gone)], .int .i64 (p_left)] w fun v w' => v = .int .i64 ((l_szVer p_a p_left)) ∧ Ex w w' := by
 refine Cal.of func36 rfl ntmps36 rfl (cR (sd rfl (yl_box rfl rfl rfl ?_)))
 intro b1 w2 hs3 hz4 hB5 hE6
 refine sA rfl (dn (cR (sM rfl (sd rfl (yl_fieldAddr fd70_1 rfl rfl (sd rfl (yl_load1 ty9 rfl rfl ((hB5.cell 1).trans rfl) (sd rfl (yl_slen un9 (a := p_a.Val) rfl rfl ?_)))))))))
 refine sd rfl (yl_sub rfl rfl rfl (sA rfl (dn (CW.seq (cR (sM rfl (sd rfl (yl_lss rfl rfl rfl ?_))))))))
 refine dn (bcase (decide ((IntKind.wrap .i64 (p_left - (p_a.Val.length : Int))) < 0)) (fun hb7 => ?_) (fun hb7 => ?_))
 ·have hb7p := dec_t hb7
  refine CW.cond_t rfl hb7 (cR (sA rfl (dn (CW.ret (tr (rr rfl (.cons rfl .nil) ?_))))))
  have hM8 : (l_szVer p_a p_left) = (-1) := by simp only [l_szVer, hb7, cL]
  rw [hM8]
  exact ⟨rfl, (Ex.trans (Ex.refl w) hE6)⟩
 ·have hb7p := dec_f hb7
  refine CW.cond_f rfl hb7 (CW.skip (tn (cR (sM rfl (sA rfl (dn ?_))))))
  refine CW.ret (rr rfl (.cons rfl .nil) ?_)
  have hM10 : (l_szVer p_a p_left) = (IntKind.wrap .i64 (p_left - (p_a.Val.length : Int))) := by simp only [l_szVer, hb7, cL]
  rw [hM10]
  exact ⟨rfl, (Ex.trans (Ex.refl w) hE6)⟩
theorem c_l_szVerS {A1 : Option Addr} {c1 : Nat} {w : World} (p_a : List DVer) (p_left : Int) (h1 : RdS w (Iv 0 w.heap.size) (RF e_Ver) 3 A1 p_a.length c1 p_a) : Cal Try.prog 25 #[.slice A1 p_a.length c1, .int .i64 (p_left)] w fun v w' => v = .int .i64 ((l_szVerS p_a p_left)) ∧ Ex w w' := by
 refine Cal.of func25 rfl ntmps25 rfl (cR (sA rfl (dn (cR (sM rfl ?_)))))
 refine sM rfl (sd rfl (yL un37 rfl rfl (sd rfl (yl_sub rfl rfl rfl (sA rfl (dn (CW.seq (cR ?_))))))))
 refine sM rfl (sd rfl (yl_lss rfl rfl rfl (dn (bcase (decide ((IntKind.wrap .i64 (p_left - (p_a.length : Int))) < 0)) (fun hb2 => ?_) (fun hb2 => ?_)))))
 ·have hb2p := dec_t hb2
  refine CW.cond_t rfl hb2 (cR (sA rfl (dn (CW.ret (tr (rr rfl (.cons rfl .nil) ?_))))))
  have hM3 : (l_szVerS p_a p_left) = (-1) := by simp only [l_szVerS, hb2, cL]
  rw [hM3]
  exact ⟨rfl, (Ex.refl w)⟩
 ·have hb2p := dec_f hb2
  refine CW.cond_f rfl hb2 (CW.skip (tn (CW.seq (cR (sA rfl (dn ?_))))))
  refine CW.block (CW.loop (fun m6 L7 w8 => ∃ (k4 : Nat) (x5 : Int), m6 = p_a.length - k4 ∧ k4 ≤ p_a.length ∧ w.heap.size ≤ w8.heap.size ∧ lkp L7 0 = some (.slice A1 p_a.length c1) ∧ lkp L7 1 = some (.int .i64 (x5)) ∧ lkp L7 5 = some (.int .i64 ((k4 : Int))) ∧ RdS w8 (Iv 0 w.heap.size) (RF e_Ver) 3 A1 p_a.length c1 p_a ∧ Ex w w8 ∧ loopM (B_l_szVerS_0 p_a p_left) (p_a.length - k4) k4 (x5) = loopM (B_l_szVerS_0 p_a p_left) (p_a.length - 0) 0 (IntKind.wrap .i64 (p_left - (p_a.length : Int)))) (p_a.length - 0) ?_ ?_)
  ·exact ⟨0, IntKind.wrap .i64 (p_left - (p_a.length : Int)), rfl, oM, Nat.le_refl _, rfl, rfl, rfl, h1, (Ex.refl w), rfl⟩
  ·rintro m9 L10 w11 ⟨k4, x5, rfl, hk12, hsz14, hl15, hl16, hl17, hf18, hf19, hI13⟩
   refine CW.sub (Sub.cons hl15 (Sub.cons hl16 (Sub.cons hl17 (Sub.nil _)))) ?_
   have hf19z := Ex.size hf19
   have hbg20 := RdS.big hf18
   rcases Nat.lt_or_ge k4 p_a.length with hlt21 | hlt21
   ·refine CW.seq (cR (sM rfl (sM rfl (sd rfl (yL un37 rfl rfl (sd rfl (yl_lss rfl rfl rfl (dn ?_))))))))
    refine CW.cond_t rfl (lt_t hlt21) (CW.skip (tn (CW.seq (CW.block (cR (sM rfl (sM rfl ?_)))))))
    obtain ⟨eb22, eo22, _, eA22, _, ebl22, _, eR22, eC22⟩ := RdS.aD hf18 d_Ver (i := k4)
    obtain rfl := eR22
    have eC22 : Cells w11 eb22 (eo22 + k4 * 3) [.int .i64 ((p_a.getD k4 d_Ver).Time), .string (bs ((p_a.getD k4 d_Ver).Val)), .bool ((p_a.getD k4 d_Ver).Gone)] := eC22
    refine sd rfl (yl_ixN un37 ty70 rfl rfl rfl eA22 (sd rfl (yl_loadN ty70 rfl rfl eC22 rfl (sM rfl (sd rfl (yC en36 rfl (oc rfl (oc rfl oz)) (Cal.mono (c_l_szVer (p_a.getD k4 d_Ver) x5) ?_)))))))
    rintro v24 w23 ⟨rfl, hE25⟩
    have hE25z := Ex.size hE25
    refine sA rfl (dn (cR (sM rfl (sd rfl (yl_lss rfl rfl rfl (dn ?_))))))
    refine bcase (decide ((l_szVer (p_a.getD k4 d_Ver) x5) < 0)) (fun hb26 => ?_) (fun hb26 => ?_)
    ·have hb26p := dec_t hb26
     refine CW.cond_t rfl hb26 (cR (sA rfl (dn (CW.ret (br (tr ?_))))))
     refine tr ?_
     have hB28 : B_l_szVerS_0 p_a p_left k4 (x5) = .ret (-1) := by simp only [B_l_szVerS_0, hb2, hb26, cL]
     have hL27 : loopM (B_l_szVerS_0 p_a p_left) (p_a.length - 0) 0 (IntKind.wrap .i64 (p_left - (p_a.length : Int))) = .ret (-1) := hI13.symm.trans (loopM.ret hlt21 hB28)
     refine br (tr (rr rfl (.cons rfl .nil) ?_))
     have hM29 : (l_szVerS p_a p_left) = (-1) := by simp only [l_szVerS, hb2, hb26, hL27, cL]
     rw [hM29]
     exact ⟨rfl, (Ex.trans hf19 hE25)⟩
    ·have hb26p := dec_f hb26
     refine CW.cond_f rfl hb26 (CW.skip (bn (tn (CW.region (sM rfl (sd rfl (yl_inc rfl rfl rfl oM (sA rfl (SeqR.done ?_)))))))))
     refine tn ?_
     have hB31 : B_l_szVerS_0 p_a p_left k4 (x5) = .cont ((l_szVer (p_a.getD k4 d_Ver) x5)) := by simp only [B_l_szVerS_0, hb2, hb26, cL]
     exact ⟨p_a.length - (k4 + 1), oM, k4 + 1, (l_szVer (p_a.getD k4 d_Ver) x5), rfl, hlt21, oM, rfl, rfl, rfl, (RdS.ex good_Ver hf18 hE25), (Ex.trans hf19 hE25), (loopM.cont hlt21 hB31).symm.trans hI13⟩
   ·refine CW.seq (cR (sM rfl (sM rfl (sd rfl (yL un37 rfl rfl (sd rfl (yl_lss rfl rfl rfl (dn ?_))))))))
    refine CW.cond_f rfl (lt_f hlt21) (CW.exit (tx (tx ?_)))
    have hL34 : loopM (B_l_szVerS_0 p_a p_left) (p_a.length - 0) 0 (IntKind.wrap .i64 (p_left - (p_a.length : Int))) = .done (x5) := hI13.symm.trans (loopM.stop hlt21)
    refine bx (tn (cR (sM rfl (sA rfl (dn (CW.ret ?_))))))
    refine rr rfl (.cons rfl .nil) ?_
    have hM35 : (l_szVerS p_a p_left) = (x5) := by simp only [l_szVerS, hb2, hL34, cL]
    rw [hM35]
    exact ⟨rfl, hf19⟩
theorem c_l_szCell {A1 : Option Addr} {c1 : Nat} {w : World} (p_a : DCell) (p_left : Int) (h1 : RdS w (Iv 0 w.heap.size) (RF e_Ver) 3 A1 p_a.Vers.length c1 p_a.Vers) : Cal Try.prog 13 #[.agg #[.string (bs (p_a.Key)), .slice A1 p_a.Vers.length c1], .int .i64 (p_left)] w fun v w' => v = .int .i64 ((l_szCell p_a p_left)) ∧ Ex w w' := by
 refine Cal.of func13 rfl ntmps13 rfl (cR (sd rfl (yl_box rfl rfl rfl ?_)))
 intro b2 w3 hs4 hz5 hB6 hE7
 refine sA rfl (dn (cR (sM rfl (sd rfl (yl_fieldAddr fd39_0 rfl rfl (sd rfl (yl_load1 ty9 rfl rfl ((hB6.cell 0).trans rfl) (sd rfl (yl_slen un9 (a := p_a.Key) rfl rfl ?_)))))))))
 refine sd rfl (yl_sub rfl rfl rfl (sA rfl (dn (CW.seq (cR (sM rfl (sd rfl (yl_lss rfl rfl rfl ?_))))))))
 refine dn (bcase (decide ((IntKind.wrap .i64 (p_left - (p_a.Key.length : Int))) < 0)) (fun hb8 => ?_) (fun hb8 => ?_))
 ·have hb8p := dec_t hb8
  refine CW.cond_t rfl hb8 (cR (sA rfl (dn (CW.ret (tr (rr rfl (.cons rfl .nil) ?_))))))
  have hM9 : (l_szCell p_a p_left) = (-1) := by simp only [l_szCell, hb8, cL]
  rw [hM9]
  exact ⟨rfl, (Ex.trans (Ex.refl w) hE7)⟩
 ·have hb8p := dec_f hb8
  refine CW.cond_f rfl hb8 (CW.skip (tn (cR (sd rfl (yl_fieldAddr fd39_1 rfl rfl (sd rfl (yl_load1 ty37 rfl rfl ((hB6.cell 1).trans rfl) (sM rfl (sd rfl (yC en25 rfl (oc rfl (oc rfl oz)) (Cal.mono (c_l_szVerS p_a.Vers (IntKind.wrap .i64 (p_left - (p_a.Key.length : Int))) (RdS.up (RdS.ex good_Ver h1 hE7) good_Ver)) ?_)))))))))))
  rintro v13 w12 ⟨rfl, hE14⟩
  refine sA rfl (dn (CW.seq (cR (sM rfl (sd rfl (yl_lss rfl rfl rfl (SeqR.done ?_)))))))
  refine tn (bcase (decide ((l_szVerS p_a.Vers (IntKind.wrap .i64 (p_left - (p_a.Key.length : Int)))) < 0)) (fun hb15 => ?_) (fun hb15 => ?_))
  ·have hb15p := dec_t hb15
   refine CW.cond_t rfl hb15 (cR (sA rfl (dn (CW.ret (tr (rr rfl (.cons rfl .nil) ?_))))))
   have hM16 : (l_szCell p_a p_left) = (-1) := by simp only [l_szCell, hb8, hb15, cL]
   rw [hM16]
   exact ⟨rfl, (Ex.trans (Ex.trans (Ex.refl w) hE7) hE14)⟩
  ·have hb15p := dec_f hb15
   refine CW.cond_f rfl hb15 (CW.skip (tn (cR (sM rfl (sA rfl (dn ?_))))))
   refine CW.ret (rr rfl (.cons rfl .nil) ?_)
   have hM19 : (l_szCell p_a p_left) = ((l_szVerS p_a.Vers (IntKind.wrap .i64 (p_left - (p_a.Key.length : Int))))) := by simp only [l_szCell, hb8, hb15, cL]
   rw [hM19]
   exact ⟨rfl, (Ex.trans (Ex.trans (Ex.refl w) hE7) hE14)⟩
theorem c_l_szCellS {A1 : Option Addr} {c1 : Nat} {w : World} (p_a : List DCell) (p_left : Int) (h1 : RdS w (Iv 0 w.heap.size) R_Cell 2 A1 p_a.length c1 p_a) : Cal Try.prog 4 #[.slice A1 p_a.length c1, .int .i64 (p_left)] w fun v w' => v = .int .i64 ((l_szCellS p_a p_left)) ∧ Ex w w' := by
 refine Cal.of func4 rfl ntmps4 rfl (cR (sA rfl (dn (cR (sM rfl ?_)))))
 refine sM rfl (sd rfl (yL un22 rfl rfl (sd rfl (yl_sub rfl rfl rfl (sA rfl (dn (CW.seq (cR ?_))))))))
 refine sM rfl (sd rfl (yl_lss rfl rfl rfl (dn (bcase (decide ((IntKind.wrap .i64 (p_left - (p_a.length : Int))) < 0)) (fun hb2 => ?_) (fun hb2 => ?_)))))
 ·have hb2p := dec_t hb2
  refine CW.cond_t rfl hb2 (cR (sA rfl (dn (CW.ret (tr (rr rfl (.cons rfl .nil) ?_))))))
  have hM3 : (l_szCellS p_a p_left) = (-1) := by simp only [l_szCellS, hb2, cL]
  rw [hM3]
  exact ⟨rfl, (Ex.refl w)⟩
 ·have hb2p := dec_f hb2
  refine CW.cond_f rfl hb2 (CW.skip (tn (CW.seq (cR (sA rfl (dn ?_))))))
  refine CW.block (CW.loop (fun m6 L7 w8 => ∃ (k4 : Nat) (x5 : Int), m6 = p_a.length - k4 ∧ k4 ≤ p_a.length ∧ w.heap.size ≤ w8.heap.size ∧ lkp L7 0 = some (.slice A1 p_a.length c1) ∧ lkp L7 1 = some (.int .i64 (x5)) ∧ lkp L7 5 = some (.int .i64 ((k4 : Int))) ∧ RdS w8 (Iv 0 w.heap.size) R_Cell 2 A1 p_a.length c1 p_a ∧ Ex w w8 ∧ loopM (B_l_szCellS_0 p_a p_left) (p_a.length - k4) k4 (x5) = loopM (B_l_szCellS_0 p_a p_left) (p_a.length - 0) 0 (IntKind.wrap .i64 (p_left - (p_a.length : Int)))) (p_a.length - 0) ?_ ?_)
  ·exact ⟨0, IntKind.wrap .i64 (p_left - (p_a.length : Int)), rfl, oM, Nat.le_refl _, rfl, rfl, rfl, h1, (Ex.refl w), rfl⟩
  ·rintro m9 L10 w11 ⟨k4, x5, rfl, hk12, hsz14, hl15, hl16, hl17, hf18, hf19, hI13⟩
   refine CW.sub (Sub.cons hl15 (Sub.cons hl16 (Sub.cons hl17 (Sub.nil _)))) ?_
   have hf19z := Ex.size hf19
   have hbg20 := RdS.big hf18
   rcases Nat.lt_or_ge k4 p_a.length with hlt21 | hlt21
   ·refine CW.seq (cR (sM rfl (sM rfl (sd rfl (yL un22 rfl rfl (sd rfl (yl_lss rfl rfl rfl (dn ?_))))))))
    refine CW.cond_t rfl (lt_t hlt21) (CW.skip (tn (CW.seq (CW.block (cR (sM rfl (sM rfl ?_)))))))
    obtain ⟨_, _, _, eA22, _, ebl22, _, eR22, eC22⟩ := RdS.aD hf18 d_Cell (i := k4)
    obtain ⟨A23, c23, rfl, h23⟩ := eR22
    refine sd rfl (yl_ixN un22 ty39 rfl rfl rfl eA22 (sd rfl (yl_loadN ty39 rfl rfl eC22 rfl (sM rfl (sd rfl (yC en13 rfl (oc rfl (oc rfl oz)) (Cal.mono (c_l_szCell (p_a.getD k4 d_Cell) x5 (RdS.up h23 good_Ver)) ?_)))))))
    rintro v25 w24 ⟨rfl, hE26⟩
    have hE26z := Ex.size hE26
    refine sA rfl (dn (cR (sM rfl (sd rfl (yl_lss rfl rfl rfl (dn ?_))))))
    refine bcase (decide ((l_szCell (p_a.getD k4 d_Cell) x5) < 0)) (fun hb27 => ?_) (fun hb27 => ?_)
    ·have hb27p := dec_t hb27
     refine CW.cond_t rfl hb27 (cR (sA rfl (dn (CW.ret (br (tr ?_))))))
     refine tr ?_
     have hB29 : B_l_szCellS_0 p_a p_left k4 (x5) = .ret (-1) := by simp only [B_l_szCellS_0, hb2, hb27, cL]
     have hL28 : loopM (B_l_szCellS_0 p_a p_left) (p_a.length - 0) 0 (IntKind.wrap .i64 (p_left - (p_a.length : Int))) = .ret (-1) := hI13.symm.trans (loopM.ret hlt21 hB29)
     refine br (tr (rr rfl (.cons rfl .nil) ?_))
     have hM30 : (l_szCellS p_a p_left) = (-1) := by simp only [l_szCellS, hb2, hb27, hL28, cL]
     rw [hM30]
     exact ⟨rfl, (Ex.trans hf19 hE26)⟩
    ·have hb27p := dec_f hb27
     refine CW.cond_f rfl hb27 (CW.skip (bn (tn (CW.region (sM rfl (sd rfl (yl_inc rfl rfl rfl oM (sA rfl (SeqR.done ?_)))))))))
     refine tn ?_
     have hB32 : B_l_szCellS_0 p_a p_left k4 (x5) = .cont ((l_szCell (p_a.getD k4 d_Cell) x5)) := by simp only [B_l_szCellS_0, hb2, hb27, cL]
     exact ⟨p_a.length - (k4 + 1), oM, k4 + 1, (l_szCell (p_a.getD k4 d_Cell) x5), rfl, hlt21, oM, rfl, rfl, rfl, (RdS.ex good_Cell hf18 hE26), (Ex.trans hf19 hE26), (loopM.cont hlt21 hB32).symm.trans hI13⟩
   ·refine CW.seq (cR (sM rfl (sM rfl (sd rfl (yL un22 rfl rfl (sd rfl (yl_lss rfl rfl rfl (dn ?_))))))))
    refine CW.cond_f rfl (lt_f hlt21) (CW.exit (tx (tx ?_)))
    have hL35 : loopM (B_l_szCellS_0 p_a p_left) (p_a.length - 0) 0 (IntKind.wrap .i64 (p_left - (p_a.length : Int))) = .done (x5) := hI13.symm.trans (loopM.stop hlt21)
    refine bx (tn (cR (sM rfl (sA rfl (dn (CW.ret ?_))))))
    refine rr rfl (.cons rfl .nil) ?_
    have hM36 : (l_szCellS p_a p_left) = (x5) := by simp only [l_szCellS, hb2, hL35, cL]
    rw [hM36]
    exact ⟨rfl, hf19⟩
theorem c_s_l1In {w : World} (p_n : Int) (p_lo : Int) (p_hi : Int) : Cal Try.prog 38 #[.int .i64 (p_n), .int .i64 (p_lo), .int .i64 (p_hi)] w fun v w' => v = .bool ((s_l1In p_n p_lo p_hi)) ∧ Ex w w' := by
 refine Cal.of func38 rfl ntmps38 rfl (cR (sA rfl (dn (cR (sM rfl ?_)))))
 refine sM rfl (sd rfl (yl_geq rfl rfl rfl (sM rfl (bcase (decide (p_lo ≤ p_n)) (fun hb1 => ?_) (fun hb1 => ?_)))))
 ·have hb1p := dec_t hb1
  refine sy rfl rfl hb1 (yM rfl rfl (sy rfl rfl hb1 (yM rfl rfl (sy rfl rfl hb1 (yl_leq rfl rfl rfl (sd rfl (yl_pick_t rfl rfl hb1 rfl (sA rfl (dn (CW.ret (rr rfl (.cons rfl .nil) ?_)))))))))))
  have hM2 : (s_l1In p_n p_lo p_hi) = (decide (p_n ≤ p_hi)) := by simp only [s_l1In, hb1, cL]
  rw [hM2]
  exact ⟨rfl, (Ex.refl w)⟩
 ·have hb1p := dec_f hb1
  refine sz rfl rfl hb1 (sz rfl rfl hb1 (sz rfl rfl hb1 (sd rfl (yl_pick_f rfl rfl hb1 rfl (sA rfl (dn (CW.ret (rr rfl (.cons rfl .nil) ?_))))))))
  have hM3 : (s_l1In p_n p_lo p_hi) = (false) := by simp only [s_l1In, hb1, cL]
  rw [hM3]
  exact ⟨rfl, (Ex.refl w)⟩
theorem c_s_l3Time {w : World} (p_t : Int) : Cal Try.prog 46 #[.int .i64 (p_t)] w fun v w' => v = .bool ((s_l3Time p_t)) ∧ Ex w w' := by
 refine Cal.of func46 rfl ntmps46 rfl (cR (sA rfl (dn (cR (sM rfl ?_)))))
 refine sd rfl (yC en38 rfl (oc rfl (oc rfl (oc rfl oz))) (Cal.mono (c_s_l1In p_t 1 100000) ?_))
 rintro v2 w1 ⟨rfl, hE3⟩
 refine sA rfl (dn (CW.ret (rr rfl (.cons rfl .nil) ?_)))
 have hM4 : (s_l3Time p_t) = ((s_l1In p_t 1 100000)) := by simp only [s_l3Time, cL]
 rw [hM4]
 exact ⟨rfl, (Ex.trans (Ex.refl w) hE3)⟩
theorem c_s_l3Bytes {w : World} (p_s : Str) (p_more : Str) (o1 : okS p_s) (o2 : okS p_more) : Cal Try.prog 53 #[.string (bs (p_s)), .string (bs (p_more))] w fun v w' => v = .bool ((s_l3Bytes p_s p_more)) ∧ Ex w w' := by
 have hol3 : p_s.length ≤ 1073741824 := o1
 have hol4 : p_more.length ≤ 1073741824 := o2
 refine Cal.of func53 rfl ntmps53 rfl (cR (sA rfl (dn (CW.seq (cR ?_)))))
 refine sA rfl (dn (CW.block (CW.loop (fun m6 L7 w8 => ∃ (k5 : Nat), m6 = p_s.length - k5 ∧ k5 ≤ p_s.length ∧ w.heap.size ≤ w8.heap.size ∧ lkp L7 0 = some (.string (bs (p_s))) ∧ lkp L7 1 = some (.string (bs (p_more))) ∧ lkp L7 5 = some (.int .i64 ((k5 : Int))) ∧ Ex w w8 ∧ loopM (B_s_l3Bytes_0 p_s p_more) (p_s.length - k5) k5 () = loopM (B_s_l3Bytes_0 p_s p_more) (p_s.length - 0) 0 ()) (p_s.length - 0) ?_ ?_)))
 ·exact ⟨0, rfl, oM, Nat.le_refl _, rfl, rfl, rfl, (Ex.refl w), rfl⟩
 ·rintro m9 L10 w11 ⟨k5, rfl, hk12, hsz14, hl15, hl16, hl17, hf18, hI13⟩
  refine CW.sub (Sub.cons hl15 (Sub.cons hl16 (Sub.cons hl17 (Sub.nil _)))) ?_
  have hf18z := Ex.size hf18
  have hbg19 : p_s.length ≤ 1073741824 := o1
  rcases Nat.lt_or_ge k5 p_s.length with hlt20 | hlt20
  ·refine CW.seq (cR (sM rfl (sM rfl (sd rfl (yl_slen un9 (a := p_s) rfl rfl (sd rfl (yl_lss rfl rfl rfl (dn ?_))))))))
   refine CW.cond_t rfl (lt_t hlt20) (CW.skip (tn (CW.seq (CW.block (cR (sM rfl (sM rfl ?_)))))))
   refine sd rfl (yl_sindexN un9 (a := p_s) rfl rfl rfl Bo (sd rfl (yl_geq rfl rfl rfl (sM rfl (bcase (decide (97 ≤ ((p_s.getD k5 0).toNat : Int))) (fun hb21 => ?_) (fun hb21 => ?_))))))
   ·have hb21p := dec_t hb21
    refine sy rfl rfl hb21 (yM rfl rfl (sy rfl rfl hb21 (yM rfl rfl (sy rfl rfl hb21 (yl_sindexN un9 (a := p_s) rfl rfl rfl Bo (sy rfl rfl hb21 (yl_leq rfl rfl rfl (sd rfl (yl_pick_t rfl rfl hb21 rfl (sM rfl (bcase (decide (((p_s.getD k5 0).toNat : Int) ≤ 122)) (fun hb22 => ?_) (fun hb22 => ?_))))))))))))
    ·have hb22p := dec_t hb22
     refine sz rfl rfl hb22 (sz rfl rfl hb22 (sz rfl rfl hb22 (sz rfl rfl hb22 (sz rfl rfl hb22 (sq rfl rfl (sq rfl rfl (sq rfl rfl (sq rfl rfl ?_))))))))
     refine sz rfl rfl hb22 (sd rfl (yl_pick_t rfl rfl hb22 rfl (sA rfl (dn (CW.seq (cR (sA rfl ?_)))))))
     refine dn (CW.block (CW.loop (fun m25 L26 w27 => ∃ (k23 : Nat) (x24 : Bool), m25 = p_more.length - k23 ∧ k23 ≤ p_more.length ∧ w11.heap.size ≤ w27.heap.size ∧ lkp L26 0 = some (.string (bs (p_s))) ∧ lkp L26 1 = some (.string (bs (p_more))) ∧ lkp L26 5 = some (.int .i64 ((k5 : Int))) ∧ lkp L26 6 = some (.bool (x24)) ∧ lkp L26 7 = some (.int .i64 ((k23 : Int))) ∧ lkp L26 19 = some (.string (bs (p_s))) ∧ lkp L26 20 = some (.int .i64 ((k5 : Int))) ∧ lkp L26 21 = some (.int .u8 (((p_s.getD k5 0).toNat : Int))) ∧ lkp L26 22 = some (.bool (decide (((p_s.getD k5 0).toNat : Int) ≤ 122))) ∧ lkp L26 25 = some (undef) ∧ lkp L26 26 = some (undef) ∧ lkp L26 27 = some (undef) ∧ lkp L26 28 = some (undef) ∧ lkp L26 29 = some (undef) ∧ lkp L26 30 = some (undef) ∧ lkp L26 31 = some (undef) ∧ lkp L26 32 = some (undef) ∧ lkp L26 33 = some (undef) ∧ lkp L26 34 = some (undef) ∧ Ex w w27 ∧ loopM (B_s_l3Bytes_1 p_s p_more k5) (p_more.length - k23) k23 (x24) = loopM (B_s_l3Bytes_1 p_s p_more k5) (p_more.length - 0) 0 (true)) (p_more.length - 0) ?_ ?_))
     ·exact ⟨0, true, rfl, oM, Nat.le_refl _, rfl, rfl, rfl, rfl, rfl, rfl, rfl, rfl, rfl, rfl, rfl, rfl, rfl, rfl, rfl, rfl, rfl, rfl, rfl, hf18, rfl⟩
     ·rintro m28 L29 w30 ⟨k23, x24, rfl, hk31, hsz33, hl34, hl35, hl36, hl37, hl38, hl39, hl40, hl41, hl42, hl43, hl44, hl45, hl46, hl47, hl48, hl49, hl50, hl51, hl52, hf53, hI32⟩
      refine CW.sub (Sub.cons hl34 (Sub.cons hl35 (Sub.cons hl36 (Sub.cons hl37 (Sub.cons hl38 (Sub.cons hl39 (Sub.cons hl40 (Sub.cons hl41 (Sub.cons hl42 (Sub.cons hl43 (Sub.cons hl44 (Sub.cons hl45 (Sub.cons hl46 (Sub.cons hl47 (Sub.cons hl48 (Sub.cons hl49 (Sub.cons hl50 (Sub.cons hl51 (Sub.cons hl52 (Sub.nil _)))))))))))))))))))) ?_
      have hf53z := Ex.size hf53
      have hbg54 : p_more.length ≤ 1073741824 := o2
      rcases Nat.lt_or_ge k23 p_more.length with hlt55 | hlt55
      ·refine CW.seq (cR (sM rfl (sM rfl (sd rfl (yl_slen un9 (a := p_more) rfl rfl (sd rfl (yl_lss rfl rfl rfl (dn ?_))))))))
       refine CW.cond_t rfl (lt_t hlt55) (CW.skip (tn (CW.seq (CW.block (bcase (x24) (fun hb56 => ?_) (fun hb56 => ?_))))))
       ·refine drI 11 [.bool (x24), .bool (x24), undef, undef, undef, undef, undef, undef, undef, .bool (true), .bool (true)] Try.follows rfl ⟨?_, ?_, ?_, ?_, ?_, ?_, ?_, ?_, ?_, ?_, ?_, trivial⟩ ?_
        ·exact oI rfl fun h => yM rfl (h.old 6 _ rfl rfl) kI
        ·exact oI rfl fun h => yM rfl (h.dt 0 42 rfl rfl rfl) kI
        ·exact oS rfl rfl rfl rfl rfl hb56
        ·exact oS rfl rfl rfl rfl rfl hb56
        ·exact oS rfl rfl rfl rfl rfl hb56
        ·exact oS rfl rfl rfl rfl rfl hb56
        ·exact oS rfl rfl rfl rfl rfl hb56
        ·exact oS rfl rfl rfl rfl rfl hb56
        ·exact oS rfl rfl rfl rfl rfl hb56
        ·exact oI rfl fun h => yl_pick_t rfl (h.dt 1 43 rfl rfl rfl) hb56 rfl kI
        ·exact oI rfl fun h => yA rfl (h.dt 9 51 rfl rfl rfl) kI
        ·intro fl116 fh117 L113 w114 hp115
         have hE118 := hp115.ex
         have hE118z := Ex.size hE118
         refine SeqR.done (bn (tn (CW.sub (sC 0 (hp115.old 0 _ rfl rfl) (sC 1 (hp115.old 1 _ rfl rfl) (sC 5 (hp115.old 5 _ rfl rfl) (sC 6 (hp115.nt 10 6 rfl rfl rfl) (sC 7 (hp115.old 7 _ rfl rfl) (sC 19 (hp115.old 19 _ rfl rfl) (sC 20 (hp115.old 20 _ rfl rfl) (sC 21 (hp115.old 21 _ rfl rfl) (sC 22 (hp115.old 22 _ rfl rfl) (sC 25 (hp115.old 25 _ rfl rfl) (sC 26 (hp115.old 26 _ rfl rfl) (sC 27 (hp115.old 27 _ rfl rfl) (sC 28 (hp115.old 28 _ rfl rfl) (sC 29 (hp115.old 29 _ rfl rfl) (sC 30 (hp115.old 30 _ rfl rfl) (sC 31 (hp115.old 31 _ rfl rfl) (sC 32 (hp115.old 32 _ rfl rfl) (sC 33 (hp115.old 33 _ rfl rfl) (sC 34 (hp115.old 34 _ rfl rfl) (sC 44 (hp115.nt 2 44 rfl rfl rfl) (sC 45 (hp115.nt 3 45 rfl rfl rfl) (sC 46 (hp115.nt 4 46 rfl rfl rfl) (sC 47 (hp115.nt 5 47 rfl rfl rfl) (sC 48 (hp115.nt 6 48 rfl rfl rfl) (sC 49 (hp115.nt 7 49 rfl rfl rfl) (sC 50 (hp115.nt 8 50 rfl rfl rfl) (Sub.nil _))))))))))))))))))))))))))) (CW.region (sM rfl (sd rfl (yl_inc rfl rfl rfl oM (sA rfl (SeqR.done ?_)))))))))
         refine tn ?_
         have hB145 : B_s_l3Bytes_1 p_s p_more k5 k23 (x24) = .cont (true) := by simp only [B_s_l3Bytes_1, hb21, hb22, hb56, cL]
         exact ⟨p_more.length - (k23 + 1), oM, k23 + 1, true, rfl, hlt55, oM, rfl, rfl, rfl, rfl, rfl, rfl, rfl, rfl, rfl, rfl, rfl, rfl, rfl, rfl, rfl, rfl, rfl, rfl, rfl, (Ex.trans hf53 hE118), (loopM.cont hlt55 hB145).symm.trans hI32⟩
       ·refine drI 11 [.bool (x24), .bool (x24), .string (bs (p_s)), .int .i64 ((k5 : Int)), .int .u8 (((p_s.getD k5 0).toNat : Int)), .string (bs (p_more)), .int .i64 ((k23 : Int)), .int .u8 (((p_more.getD k23 0).toNat : Int)), .bool (decide (((p_s.getD k5 0).toNat : Int) = ((p_more.getD k23 0).toNat : Int))), .bool (decide (((p_s.getD k5 0).toNat : Int) = ((p_more.getD k23 0).toNat : Int))), .bool (decide (((p_s.getD k5 0).toNat : Int) = ((p_more.getD k23 0).toNat : Int)))] Try.follows rfl ⟨?_, ?_, ?_, ?_, ?_, ?_, ?_, ?_, ?_, ?_, ?_, trivial⟩ ?_
        ·exact oI rfl fun h => yM rfl (h.old 6 _ rfl rfl) kI
        ·exact oI rfl fun h => yM rfl (h.dt 0 42 rfl rfl rfl) kI
        ·exact oW rfl rfl rfl rfl hb56 fun h => yM rfl (h.old 0 _ rfl rfl) kI
        ·exact oW rfl rfl rfl rfl hb56 fun h => yM rfl (h.old 5 _ rfl rfl) kI
        ·intro L169 w170 hi171
         have hE172 := hi171.ex
         have hE172z := Ex.size hE172
         exact OpR.want rfl rfl (hi171.dt 1 43 rfl rfl rfl) hb56 (Yl.sameI (yl_sindexN un9 (a := p_s) rfl (hi171.dt 2 44 rfl rfl rfl) (hi171.dt 3 45 rfl rfl rfl) Bo kI))
        ·exact oW rfl rfl rfl rfl hb56 fun h => yM rfl (h.old 1 _ rfl rfl) kI
        ·exact oW rfl rfl rfl rfl hb56 fun h => yM rfl (h.old 7 _ rfl rfl) kI
        ·intro L188 w189 hi190
         have hE191 := hi190.ex
         have hE191z := Ex.size hE191
         exact OpR.want rfl rfl (hi190.dt 1 43 rfl rfl rfl) hb56 (Yl.sameI (yl_sindexN un9 (a := p_more) rfl (hi190.dt 5 47 rfl rfl rfl) (hi190.dt 6 48 rfl rfl rfl) Bo kI))
        ·exact oW rfl rfl rfl rfl hb56 fun h => yl_eql rfl (h.dt 4 46 rfl rfl rfl) (h.dt 7 49 rfl rfl rfl) kI
        ·exact oI rfl fun h => yl_pick_f rfl (h.dt 1 43 rfl rfl rfl) hb56 (h.dt 8 50 rfl rfl rfl) kI
        ·exact oI rfl fun h => yA rfl (h.dt 9 51 rfl rfl rfl) kI
        ·intro fl216 fh217 L213 w214 hp215
         have hE218 := hp215.ex
         have hE218z := Ex.size hE218
         refine SeqR.done (bn (tn (CW.sub (sC 0 (hp215.old 0 _ rfl rfl) (sC 1 (hp215.old 1 _ rfl rfl) (sC 5 (hp215.old 5 _ rfl rfl) (sC 6 (hp215.nt 10 6 rfl rfl rfl) (sC 7 (hp215.old 7 _ rfl rfl) (sC 19 (hp215.old 19 _ rfl rfl) (sC 20 (hp215.old 20 _ rfl rfl) (sC 21 (hp215.old 21 _ rfl rfl) (sC 22 (hp215.old 22 _ rfl rfl) (sC 25 (hp215.old 25 _ rfl rfl) (sC 26 (hp215.old 26 _ rfl rfl) (sC 27 (hp215.old 27 _ rfl rfl) (sC 28 (hp215.old 28 _ rfl rfl) (sC 29 (hp215.old 29 _ rfl rfl) (sC 30 (hp215.old 30 _ rfl rfl) (sC 31 (hp215.old 31 _ rfl rfl) (sC 32 (hp215.old 32 _ rfl rfl) (sC 33 (hp215.old 33 _ rfl rfl) (sC 34 (hp215.old 34 _ rfl rfl) (sC 44 (hp215.nt 2 44 rfl rfl rfl) (sC 45 (hp215.nt 3 45 rfl rfl rfl) (sC 46 (hp215.nt 4 46 rfl rfl rfl) (sC 47 (hp215.nt 5 47 rfl rfl rfl) (sC 48 (hp215.nt 6 48 rfl rfl rfl) (sC 49 (hp215.nt 7 49 rfl rfl rfl) (sC 50 (hp215.nt 8 50 rfl rfl rfl) (Sub.nil _))))))))))))))))))))))))))) (CW.region (sM rfl (sd rfl (yl_inc rfl rfl rfl oM (sA rfl (SeqR.done ?_)))))))))
         refine tn ?_
         have hB245 : B_s_l3Bytes_1 p_s p_more k5 k23 (x24) = .cont (decide (((p_s.getD k5 0).toNat : Int) = ((p_more.getD k23 0).toNat : Int))) := by simp only [B_s_l3Bytes_1, hb21, hb22, hb56, cL]
         exact ⟨p_more.length - (k23 + 1), oM, k23 + 1, decide (((p_s.getD k5 0).toNat : Int) = ((p_more.getD k23 0).toNat : Int)), rfl, hlt55, oM, rfl, rfl, rfl, rfl, rfl, rfl, rfl, rfl, rfl, rfl, rfl, rfl, rfl, rfl, rfl, rfl, rfl, rfl, rfl, (Ex.trans hf53 hE218), (loopM.cont hlt55 hB245).symm.trans hI32⟩
      ·refine CW.seq (cR (sM rfl (sM rfl (sd rfl (yl_slen un9 (a := p_more) rfl rfl (sd rfl (yl_lss rfl rfl rfl (dn ?_))))))))
       refine CW.cond_f rfl (lt_f hlt55) (CW.exit (tx (tx ?_)))
       have hL247 : loopM (B_s_l3Bytes_1 p_s p_more k5) (p_more.length - 0) 0 (true) = .done (x24) := hI32.symm.trans (loopM.stop hlt55)
       refine bx (tn (cR (sM rfl (sd rfl (yl_not rfl rfl (dn (bcase (x24) (fun hb248 => ?_) (fun hb248 => ?_))))))))
       ·refine CW.cond_f rfl (not_t hb248) (CW.skip (bn (tn (CW.region (sM rfl (sd rfl (yl_inc rfl rfl rfl oM (sA rfl (SeqR.done ?_)))))))))
        refine tn ?_
        have hB249 : B_s_l3Bytes_0 p_s p_more k5 () = .cont () := by simp only [B_s_l3Bytes_0, hb21, hb22, hb248, hL247, cL]
        exact ⟨p_s.length - (k5 + 1), oM, k5 + 1, rfl, hlt20, oM, rfl, rfl, rfl, hf53, (loopM.cont hlt20 hB249).symm.trans hI13⟩
       ·refine CW.cond_t rfl (not_f hb248) (cR (sA rfl (dn (CW.ret (br (tr ?_))))))
        refine tr ?_
        have hB251 : B_s_l3Bytes_0 p_s p_more k5 () = .ret false := by simp only [B_s_l3Bytes_0, hb21, hb22, hb248, hL247, cL]
        have hL250 : loopM (B_s_l3Bytes_0 p_s p_more) (p_s.length - 0) 0 () = .ret false := hI13.symm.trans (loopM.ret hlt20 hB251)
        refine br (tr (rr rfl (.cons rfl .nil) ?_))
        have hM252 : (s_l3Bytes p_s p_more) = (false) := by simp only [s_l3Bytes, hb21, hb22, hb248, hL247, hL250, cL]
        rw [hM252]
        exact ⟨rfl, hf53⟩
    ·have hb22p := dec_f hb22
     refine sy rfl rfl hb22 (yM rfl rfl (sy rfl rfl hb22 (yM rfl rfl (sy rfl rfl hb22 (yl_sindexN un9 (a := p_s) rfl rfl rfl Bo (sy rfl rfl hb22 (yl_geq rfl rfl rfl (sy rfl rfl hb22 (yM rfl rfl (bcase (decide (48 ≤ ((p_s.getD k5 0).toNat : Int))) (fun hb253 => ?_) (fun hb253 => ?_)))))))))))
     ·have hb253p := dec_t hb253
      refine sy rfl rfl hb253 (yM rfl rfl (sy rfl rfl hb253 (yM rfl rfl (sy rfl rfl hb253 (yl_sindexN un9 (a := p_s) rfl rfl rfl Bo (sy rfl rfl hb253 (yl_leq rfl rfl rfl (sy rfl rfl hb22 (yl_pick_t rfl rfl hb253 rfl (sd rfl (yl_pick_f rfl rfl hb22 rfl (sA rfl (dn ?_)))))))))))))
      refine CW.seq (cR (sA rfl (dn (CW.block (CW.loop (fun m256 L257 w258 => ∃ (k254 : Nat) (x255 : Bool), m256 = p_more.length - k254 ∧ k254 ≤ p_more.length ∧ w11.heap.size ≤ w258.heap.size ∧ lkp L257 0 = some (.string (bs (p_s))) ∧ lkp L257 1 = some (.string (bs (p_more))) ∧ lkp L257 5 = some (.int .i64 ((k5 : Int))) ∧ lkp L257 6 = some (.bool (x255)) ∧ lkp L257 7 = some (.int .i64 ((k254 : Int))) ∧ lkp L257 19 = some (.string (bs (p_s))) ∧ lkp L257 20 = some (.int .i64 ((k5 : Int))) ∧ lkp L257 21 = some (.int .u8 (((p_s.getD k5 0).toNat : Int))) ∧ lkp L257 22 = some (.bool (decide (((p_s.getD k5 0).toNat : Int) ≤ 122))) ∧ lkp L257 25 = some (.string (bs (p_s))) ∧ lkp L257 26 = some (.int .i64 ((k5 : Int))) ∧ lkp L257 27 = some (.int .u8 (((p_s.getD k5 0).toNat : Int))) ∧ lkp L257 28 = some (.bool (decide (48 ≤ ((p_s.getD k5 0).toNat : Int)))) ∧ lkp L257 29 = some (.bool (decide (48 ≤ ((p_s.getD k5 0).toNat : Int)))) ∧ lkp L257 30 = some (.string (bs (p_s))) ∧ lkp L257 31 = some (.int .i64 ((k5 : Int))) ∧ lkp L257 32 = some (.int .u8 (((p_s.getD k5 0).toNat : Int))) ∧ lkp L257 33 = some (.bool (decide (((p_s.getD k5 0).toNat : Int) ≤ 57))) ∧ lkp L257 34 = some (.bool (decide (((p_s.getD k5 0).toNat : Int) ≤ 57))) ∧ Ex w w258 ∧ loopM (B_s_l3Bytes_1 p_s p_more k5) (p_more.length - k254) k254 (x255) = loopM (B_s_l3Bytes_1 p_s p_more k5) (p_more.length - 0) 0 (decide (((p_s.getD k5 0).toNat : Int) ≤ 57))) (p_more.length - 0) ?_ ?_)))))
      ·exact ⟨0, decide (((p_s.getD k5 0).toNat : Int) ≤ 57), rfl, oM, Nat.le_refl _, rfl, rfl, rfl, rfl, rfl, rfl, rfl, rfl, rfl, rfl, rfl, rfl, rfl, rfl, rfl, rfl, rfl, rfl, rfl, hf18, rfl⟩
      ·rintro m259 L260 w261 ⟨k254, x255, rfl, hk262, hsz264, hl265, hl266, hl267, hl268, hl269, hl270, hl271, hl272, hl273, hl274, hl275, hl276, hl277, hl278, hl279, hl280, hl281, hl282, hl283, hf284, hI263⟩
       refine CW.sub (Sub.cons hl265 (Sub.cons hl266 (Sub.cons hl267 (Sub.cons hl268 (Sub.cons hl269 (Sub.cons hl270 (Sub.cons hl271 (Sub.cons hl272 (Sub.cons hl273 (Sub.cons hl274 (Sub.cons hl275 (Sub.cons hl276 (Sub.cons hl277 (Sub.cons hl278 (Sub.cons hl279 (Sub.cons hl280 (Sub.cons hl281 (Sub.cons hl282 (Sub.cons hl283 (Sub.nil _)))))))))))))))))))) ?_
       have hf284z := Ex.size hf284
       have hbg285 : p_more.length ≤ 1073741824 := o2
       rcases Nat.lt_or_ge k254 p_more.length with hlt286 | hlt286
       ·refine CW.seq (cR (sM rfl (sM rfl (sd rfl (yl_slen un9 (a := p_more) rfl rfl (sd rfl (yl_lss rfl rfl rfl (dn ?_))))))))
        refine CW.cond_t rfl (lt_t hlt286) (CW.skip (tn (CW.seq (CW.block (bcase (x255) (fun hb287 => ?_) (fun hb287 => ?_))))))
        ·refine drI 11 [.bool (x255), .bool (x255), undef, undef, undef, undef, undef, undef, undef, .bool (true), .bool (true)] Try.follows rfl ⟨?_, ?_, ?_, ?_, ?_, ?_, ?_, ?_, ?_, ?_, ?_, trivial⟩ ?_
         ·exact oI rfl fun h => yM rfl (h.old 6 _ rfl rfl) kI
         ·exact oI rfl fun h => yM rfl (h.dt 0 42 rfl rfl rfl) kI
         ·exact oS rfl rfl rfl rfl rfl hb287
         ·exact oS rfl rfl rfl rfl rfl hb287
         ·exact oS rfl rfl rfl rfl rfl hb287
         ·exact oS rfl rfl rfl rfl rfl hb287
         ·exact oS rfl rfl rfl rfl rfl hb287
         ·exact oS rfl rfl rfl rfl rfl hb287
         ·exact oS rfl rfl rfl rfl rfl hb287
         ·exact oI rfl fun h => yl_pick_t rfl (h.dt 1 43 rfl rfl rfl) hb287 rfl kI
         ·exact oI rfl fun h => yA rfl (h.dt 9 51 rfl rfl rfl) kI
         ·intro fl347 fh348 L344 w345 hp346
          have hE349 := hp346.ex
          have hE349z := Ex.size hE349
          refine SeqR.done (bn (tn (CW.sub (sC 0 (hp346.old 0 _ rfl rfl) (sC 1 (hp346.old 1 _ rfl rfl) (sC 5 (hp346.old 5 _ rfl rfl) (sC 6 (hp346.nt 10 6 rfl rfl rfl) (sC 7 (hp346.old 7 _ rfl rfl) (sC 19 (hp346.old 19 _ rfl rfl) (sC 20 (hp346.old 20 _ rfl rfl) (sC 21 (hp346.old 21 _ rfl rfl) (sC 22 (hp346.old 22 _ rfl rfl) (sC 25 (hp346.old 25 _ rfl rfl) (sC 26 (hp346.old 26 _ rfl rfl) (sC 27 (hp346.old 27 _ rfl rfl) (sC 28 (hp346.old 28 _ rfl rfl) (sC 29 (hp346.old 29 _ rfl rfl) (sC 30 (hp346.old 30 _ rfl rfl) (sC 31 (hp346.old 31 _ rfl rfl) (sC 32 (hp346.old 32 _ rfl rfl) (sC 33 (hp346.old 33 _ rfl rfl) (sC 34 (hp346.old 34 _ rfl rfl) (sC 44 (hp346.nt 2 44 rfl rfl rfl) (sC 45 (hp346.nt 3 45 rfl rfl rfl) (sC 46 (hp346.nt 4 46 rfl rfl rfl) (sC 47 (hp346.nt 5 47 rfl rfl rfl) (sC 48 (hp346.nt 6 48 rfl rfl rfl) (sC 49 (hp346.nt 7 49 rfl rfl rfl) (sC 50 (hp346.nt 8 50 rfl rfl rfl) (Sub.nil _))))))))))))))))))))))))))) (CW.region (sM rfl (sd rfl (yl_inc rfl rfl rfl oM (sA rfl (SeqR.done ?_)))))))))
          refine tn ?_
          have hB376 : B_s_l3Bytes_1 p_s p_more k5 k254 (x255) = .cont (true) := by simp only [B_s_l3Bytes_1, hb21, hb22, hb253, hb287, cL]
          exact ⟨p_more.length - (k254 + 1), oM, k254 + 1, true, rfl, hlt286, oM, rfl, rfl, rfl, rfl, rfl, rfl, rfl, rfl, rfl, rfl, rfl, rfl, rfl, rfl, rfl, rfl, rfl, rfl, rfl, (Ex.trans hf284 hE349), (loopM.cont hlt286 hB376).symm.trans hI263⟩
        ·refine drI 11 [.bool (x255), .bool (x255), .string (bs (p_s)), .int .i64 ((k5 : Int)), .int .u8 (((p_s.getD k5 0).toNat : Int)), .string (bs (p_more)), .int .i64 ((k254 : Int)), .int .u8 (((p_more.getD k254 0).toNat : Int)), .bool (decide (((p_s.getD k5 0).toNat : Int) = ((p_more.getD k254 0).toNat : Int))), .bool (decide (((p_s.getD k5 0).toNat : Int) = ((p_more.getD k254 0).toNat : Int))), .bool (decide (((p_s.getD k5 0).toNat : Int) = ((p_more.getD k254 0).toNat : Int)))] Try.follows rfl ⟨?_, ?_, ?_, ?_, ?_, ?_, ?_, ?_, ?_, ?_, ?_, trivial⟩ ?_
         ·exact oI rfl fun h => yM rfl (h.old 6 _ rfl rfl) kI
         ·exact oI rfl fun h => yM rfl (h.dt 0 42 rfl rfl rfl) kI
         ·exact oW rfl rfl rfl rfl hb287 fun h => yM rfl (h.old 0 _ rfl rfl) kI
         ·exact oW rfl rfl rfl rfl hb287 fun h => yM rfl (h.old 5 _ rfl rfl) kI
         ·intro L400 w401 hi402
          have hE403 := hi402.ex
          have hE403z := Ex.size hE403
          exact OpR.want rfl rfl (hi402.dt 1 43 rfl rfl rfl) hb287 (Yl.sameI (yl_sindexN un9 (a := p_s) rfl (hi402.dt 2 44 rfl rfl rfl) (hi402.dt 3 45 rfl rfl rfl) Bo kI))
         ·exact oW rfl rfl rfl rfl hb287 fun h => yM rfl (h.old 1 _ rfl rfl) kI
         ·exact oW rfl rfl rfl rfl hb287 fun h => yM rfl (h.old 7 _ rfl rfl) kI
         ·intro L419 w420 hi421
          have hE422 := hi421.ex
          have hE422z := Ex.size hE422
          exact OpR.want rfl rfl (hi421.dt 1 43 rfl rfl rfl) hb287 (Yl.sameI (yl_sindexN un9 (a := p_more) rfl (hi421.dt 5 47 rfl rfl rfl) (hi421.dt 6 48 rfl rfl rfl) Bo kI))
         ·exact oW rfl rfl rfl rfl hb287 fun h => yl_eql rfl (h.dt 4 46 rfl rfl rfl) (h.dt 7 49 rfl rfl rfl) kI
         ·exact oI rfl fun h => yl_pick_f rfl (h.dt 1 43 rfl rfl rfl) hb287 (h.dt 8 50 rfl rfl rfl) kI
         ·exact oI rfl fun h => yA rfl (h.dt 9 51 rfl rfl rfl) kI
         ·intro fl447 fh448 L444 w445 hp446
          have hE449 := hp446.ex
          have hE449z := Ex.size hE449
          refine SeqR.done (bn (tn (CW.sub (sC 0 (hp446.old 0 _ rfl rfl) (sC 1 (hp446.old 1 _ rfl rfl) (sC 5 (hp446.old 5 _ rfl rfl) (sC 6 (hp446.nt 10 6 rfl rfl rfl) (sC 7 (hp446.old 7 _ rfl rfl) (sC 19 (hp446.old 19 _ rfl rfl) (sC 20 (hp446.old 20 _ rfl rfl) (sC 21 (hp446.old 21 _ rfl rfl) (sC 22 (hp446.old 22 _ rfl rfl) (sC 25 (hp446.old 25 _ rfl rfl) (sC 26 (hp446.old 26 _ rfl rfl) (sC 27 (hp446.old 27 _ rfl rfl) (sC 28 (hp446.old 28 _ rfl rfl) (sC 29 (hp446.old 29 _ rfl rfl) (sC 30 (hp446.old 30 _ rfl rfl) (sC 31 (hp446.old 31 _ rfl rfl) (sC 32 (hp446.old 32 _ rfl rfl) (sC 33 (hp446.old 33 _ rfl rfl) (sC 34 (hp446.old 34 _ rfl rfl) (sC 44 (hp446.nt 2 44 rfl rfl rfl) (sC 45 (hp446.nt 3 45 rfl rfl rfl) (sC 46 (hp446.nt 4 46 rfl rfl rfl) (sC 47 (hp446.nt 5 47 rfl rfl rfl) (sC 48 (hp446.nt 6 48 rfl rfl rfl) (sC 49 (hp446.nt 7 49 rfl rfl rfl) (sC 50 (hp446.nt 8 50 rfl rfl rfl) (Sub.nil _))))))))))))))))))))))))))) (CW.region (sM rfl (sd rfl (yl_inc rfl rfl rfl oM (sA rfl (SeqR.done ?_)))))))))
          refine tn ?_
          have hB476 : B_s_l3Bytes_1 p_s p_more k5 k254 (x255) = .cont (decide (((p_s.getD k5 0).toNat : Int) = ((p_more.getD k254 0).toNat : Int))) := by simp only [B_s_l3Bytes_1, hb21, hb22, hb253, hb287, cL]
          exact ⟨p_more.length - (k254 + 1), oM, k254 + 1, decide (((p_s.getD k5 0).toNat : Int) = ((p_more.getD k254 0).toNat : Int)), rfl, hlt286, oM, rfl, rfl, rfl, rfl, rfl, rfl, rfl, rfl, rfl, rfl, rfl, rfl, rfl, rfl, rfl, rfl, rfl, rfl, rfl, (Ex.trans hf284 hE449), (loopM.cont hlt286 hB476).symm.trans hI263⟩
       ·refine CW.seq (cR (sM rfl (sM rfl (sd rfl (yl_slen un9 (a := p_more) rfl rfl (sd rfl (yl_lss rfl rfl rfl (dn ?_))))))))
        refine CW.cond_f rfl (lt_f hlt286) (CW.exit (tx (tx ?_)))
        have hL478 : loopM (B_s_l3Bytes_1 p_s p_more k5) (p_more.length - 0) 0 (decide (((p_s.getD k5 0).toNat : Int) ≤ 57)) = .done (x255) := hI263.symm.trans (loopM.stop hlt286)
        refine bx (tn (cR (sM rfl (sd rfl (yl_not rfl rfl (dn (bcase (x255) (fun hb479 => ?_) (fun hb479 => ?_))))))))
        ·refine CW.cond_f rfl (not_t hb479) (CW.skip (bn (tn (CW.region (sM rfl (sd rfl (yl_inc rfl rfl rfl oM (sA rfl (SeqR.done ?_)))))))))
         refine tn ?_
         have hB480 : B_s_l3Bytes_0 p_s p_more k5 () = .cont () := by simp only [B_s_l3Bytes_0, hb21, hb22, hb253, hb479, hL478, cL]
         exact ⟨p_s.length - (k5 + 1), oM, k5 + 1, rfl, hlt20, oM, rfl, rfl, rfl, hf284, (loopM.cont hlt20 hB480).symm.trans hI13⟩
        ·refine CW.cond_t rfl (not_f hb479) (cR (sA rfl (dn (CW.ret (br (tr ?_))))))
         refine tr ?_
         have hB482 : B_s_l3Bytes_0 p_s p_more k5 () = .ret false := by simp only [B_s_l3Bytes_0, hb21, hb22, hb253, hb479, hL478, cL]
         have hL481 : loopM (B_s_l3Bytes_0 p_s p_more) (p_s.length - 0) 0 () = .ret false := hI13.symm.trans (loopM.ret hlt20 hB482)
         refine br (tr (rr rfl (.cons rfl .nil) ?_))
         have hM483 : (s_l3Bytes p_s p_more) = (false) := by simp only [s_l3Bytes, hb21, hb22, hb253, hb479, hL478, hL481, cL]
         rw [hM483]
         exact ⟨rfl, hf284⟩
     ·have hb253p := dec_f hb253
      refine sz rfl rfl hb253 (sz rfl rfl hb253 (sz rfl rfl hb253 (sz rfl rfl hb253 (sy rfl rfl hb22 (yl_pick_f rfl rfl hb253 rfl (sd rfl (yl_pick_f rfl rfl hb22 rfl (sA rfl (dn ?_)))))))))
      refine CW.seq (cR (sA rfl (dn (CW.block (CW.loop (fun m486 L487 w488 => ∃ (k484 : Nat) (x485 : Bool), m486 = p_more.length - k484 ∧ k484 ≤ p_more.length ∧ w11.heap.size ≤ w488.heap.size ∧ lkp L487 0 = some (.string (bs (p_s))) ∧ lkp L487 1 = some (.string (bs (p_more))) ∧ lkp L487 5 = some (.int .i64 ((k5 : Int))) ∧ lkp L487 6 = some (.bool (x485)) ∧ lkp L487 7 = some (.int .i64 ((k484 : Int))) ∧ lkp L487 19 = some (.string (bs (p_s))) ∧ lkp L487 20 = some (.int .i64 ((k5 : Int))) ∧ lkp L487 21 = some (.int .u8 (((p_s.getD k5 0).toNat : Int))) ∧ lkp L487 22 = some (.bool (decide (((p_s.getD k5 0).toNat : Int) ≤ 122))) ∧ lkp L487 25 = some (.string (bs (p_s))) ∧ lkp L487 26 = some (.int .i64 ((k5 : Int))) ∧ lkp L487 27 = some (.int .u8 (((p_s.getD k5 0).toNat : Int))) ∧ lkp L487 28 = some (.bool (decide (48 ≤ ((p_s.getD k5 0).toNat : Int)))) ∧ lkp L487 29 = some (.bool (decide (48 ≤ ((p_s.getD k5 0).toNat : Int)))) ∧ lkp L487 30 = some (undef) ∧ lkp L487 31 = some (undef) ∧ lkp L487 32 = some (undef) ∧ lkp L487 33 = some (undef) ∧ lkp L487 34 = some (.bool (false)) ∧ Ex w w488 ∧ loopM (B_s_l3Bytes_1 p_s p_more k5) (p_more.length - k484) k484 (x485) = loopM (B_s_l3Bytes_1 p_s p_more k5) (p_more.length - 0) 0 (false)) (p_more.length - 0) ?_ ?_)))))
      ·exact ⟨0, false, rfl, oM, Nat.le_refl _, rfl, rfl, rfl, rfl, rfl, rfl, rfl, rfl, rfl, rfl, rfl, rfl, rfl, rfl, rfl, rfl, rfl, rfl, rfl, hf18, rfl⟩
      ·rintro m489 L490 w491 ⟨k484, x485, rfl, hk492, hsz494, hl495, hl496, hl497, hl498, hl499, hl500, hl501, hl502, hl503, hl504, hl505, hl506, hl507, hl508, hl509, hl510, hl511, hl512, hl513, hf514, hI493⟩
       refine CW.sub (Sub.cons hl495 (Sub.cons hl496 (Sub.cons hl497 (Sub.cons hl498 (Sub.cons hl499 (Sub.cons hl500 (Sub.cons hl501 (Sub.cons hl502 (Sub.cons hl503 (Sub.cons hl504 (Sub.cons hl505 (Sub.cons hl506 (Sub.cons hl507 (Sub.cons hl508 (Sub.cons hl509 (Sub.cons hl510 (Sub.cons hl511 (Sub.cons hl512 (Sub.cons hl513 (Sub.nil _)))))))))))))))))))) ?_
       have hf514z := Ex.size hf514
       have hbg515 : p_more.length ≤ 1073741824 := o2
       rcases Nat.lt_or_ge k484 p_more.length with hlt516 | hlt516
       ·refine CW.seq (cR (sM rfl (sM rfl (sd rfl (yl_slen un9 (a := p_more) rfl rfl (sd rfl (yl_lss rfl rfl rfl (dn ?_))))))))
        refine CW.cond_t rfl (lt_t hlt516) (CW.skip (tn (CW.seq (CW.block (bcase (x485) (fun hb517 => ?_) (fun hb517 => ?_))))))
        ·refine drI 11 [.bool (x485), .bool (x485), undef, undef, undef, undef, undef, undef, undef, .bool (true), .bool (true)] Try.follows rfl ⟨?_, ?_, ?_, ?_, ?_, ?_, ?_, ?_, ?_, ?_, ?_, trivial⟩ ?_
         ·exact oI rfl fun h => yM rfl (h.old 6 _ rfl rfl) kI
         ·exact oI rfl fun h => yM rfl (h.dt 0 42 rfl rfl rfl) kI
         ·exact oS rfl rfl rfl rfl rfl hb517
         ·exact oS rfl rfl rfl rfl rfl hb517
         ·exact oS rfl rfl rfl rfl rfl hb517
         ·exact oS rfl rfl rfl rfl rfl hb517
         ·exact oS rfl rfl rfl rfl rfl hb517
         ·exact oS rfl rfl rfl rfl rfl hb517
         ·exact oS rfl rfl rfl rfl rfl hb517
         ·exact oI rfl fun h => yl_pick_t rfl (h.dt 1 43 rfl rfl rfl) hb517 rfl kI
         ·exact oI rfl fun h => yA rfl (h.dt 9 51 rfl rfl rfl) kI
         ·intro fl577 fh578 L574 w575 hp576
          have hE579 := hp576.ex
          have hE579z := Ex.size hE579
          refine SeqR.done (bn (tn (CW.sub (sC 0 (hp576.old 0 _ rfl rfl) (sC 1 (hp576.old 1 _ rfl rfl) (sC 5 (hp576.old 5 _ rfl rfl) (sC 6 (hp576.nt 10 6 rfl rfl rfl) (sC 7 (hp576.old 7 _ rfl rfl) (sC 19 (hp576.old 19 _ rfl rfl) (sC 20 (hp576.old 20 _ rfl rfl) (sC 21 (hp576.old 21 _ rfl rfl) (sC 22 (hp576.old 22 _ rfl rfl) (sC 25 (hp576.old 25 _ rfl rfl) (sC 26 (hp576.old 26 _ rfl rfl) (sC 27 (hp576.old 27 _ rfl rfl) (sC 28 (hp576.old 28 _ rfl rfl) (sC 29 (hp576.old 29 _ rfl rfl) (sC 30 (hp576.old 30 _ rfl rfl) (sC 31 (hp576.old 31 _ rfl rfl) (sC 32 (hp576.old 32 _ rfl rfl) (sC 33 (hp576.old 33 _ rfl rfl) (sC 34 (hp576.old 34 _ rfl rfl) (sC 44 (hp576.nt 2 44 rfl rfl rfl) (sC 45 (hp576.nt 3 45 rfl rfl rfl) (sC 46 (hp576.nt 4 46 rfl rfl rfl) (sC 47 (hp576.nt 5 47 rfl rfl rfl) (sC 48 (hp576.nt 6 48 rfl rfl rfl) (sC 49 (hp576.nt 7 49 rfl rfl rfl) (sC 50 (hp576.nt 8 50 rfl rfl rfl) (Sub.nil _))))))))))))))))))))))))))) (CW.region (sM rfl (sd rfl (yl_inc rfl rfl rfl oM (sA rfl (SeqR.done ?_)))))))))
          refine tn ?_
          have hB606 : B_s_l3Bytes_1 p_s p_more k5 k484 (x485) = .cont (true) := by simp only [B_s_l3Bytes_1, hb21, hb22, hb253, hb517, cL]
          exact ⟨p_more.length - (k484 + 1), oM, k484 + 1, true, rfl, hlt516, oM, rfl, rfl, rfl, rfl, rfl, rfl, rfl, rfl, rfl, rfl, rfl, rfl, rfl, rfl, rfl, rfl, rfl, rfl, rfl, (Ex.trans hf514 hE579), (loopM.cont hlt516 hB606).symm.trans hI493⟩
        ·refine drI 11 [.bool (x485), .bool (x485), .string (bs (p_s)), .int .i64 ((k5 : Int)), .int .u8 (((p_s.getD k5 0).toNat : Int)), .string (bs (p_more)), .int .i64 ((k484 : Int)), .int .u8 (((p_more.getD k484 0).toNat : Int)), .bool (decide (((p_s.getD k5 0).toNat : Int) = ((p_more.getD k484 0).toNat : Int))), .bool (decide (((p_s.getD k5 0).toNat : Int) = ((p_more.getD k484 0).toNat : Int))), .bool (decide (((p_s.getD k5 0).toNat : Int) = ((p_more.getD k484 0).toNat : Int)))] Try.follows rfl ⟨?_, ?_, ?_, ?_, ?_, ?_, ?_, ?_, ?_, ?_, ?_, trivial⟩ ?_
         ·exact oI rfl fun h => yM rfl (h.old 6 _ rfl rfl) kI
         ·exact oI rfl fun h => yM rfl (h.dt 0 42 rfl rfl rfl) kI
         ·exact oW rfl rfl rfl rfl hb517 fun h => yM rfl (h.old 0 _ rfl rfl) kI
         ·exact oW rfl rfl rfl rfl hb517 fun h => yM rfl (h.old 5 _ rfl rfl) kI
         ·intro L630 w631 hi632
          have hE633 := hi632.ex
          have hE633z := Ex.size hE633
          exact OpR.want rfl rfl (hi632.dt 1 43 rfl rfl rfl) hb517 (Yl.sameI (yl_sindexN un9 (a := p_s) rfl (hi632.dt 2 44 rfl rfl rfl) (hi632.dt 3 45 rfl rfl rfl) Bo kI))
         ·exact oW rfl rfl rfl rfl hb517 fun h => yM rfl (h.old 1 _ rfl rfl) kI
         ·exact oW rfl rfl rfl rfl hb517 fun h => yM rfl (h.old 7 _ rfl rfl) kI
         ·intro L649 w650 hi651
          have hE652 := hi651.ex
          have hE652z := Ex.size hE652
          exact OpR.want rfl rfl (hi651.dt 1 43 rfl rfl rfl) hb517 (Yl.sameI (yl_sindexN un9 (a := p_more) rfl (hi651.dt 5 47 rfl rfl rfl) (hi651.dt 6 48 rfl rfl rfl) Bo kI))
         ·exact oW rfl rfl rfl rfl hb517 fun h => yl_eql rfl (h.dt 4 46 rfl rfl rfl) (h.dt 7 49 rfl rfl rfl) kI
         ·exact oI rfl fun h => yl_pick_f rfl (h.dt 1 43 rfl rfl rfl) hb517 (h.dt 8 50 rfl rfl rfl) kI
         ·exact oI rfl fun h => yA rfl (h.dt 9 51 rfl rfl rfl) kI
         ·intro fl677 fh678 L674 w675 hp676
          have hE679 := hp676.ex
          have hE679z := Ex.size hE679
          refine SeqR.done (bn (tn (CW.sub (sC 0 (hp676.old 0 _ rfl rfl) (sC 1 (hp676.old 1 _ rfl rfl) (sC 5 (hp676.old 5 _ rfl rfl) (sC 6 (hp676.nt 10 6 rfl rfl rfl) (sC 7 (hp676.old 7 _ rfl rfl) (sC 19 (hp676.old 19 _ rfl rfl) (sC 20 (hp676.old 20 _ rfl rfl) (sC 21 (hp676.old 21 _ rfl rfl) (sC 22 (hp676.old 22 _ rfl rfl) (sC 25 (hp676.old 25 _ rfl rfl) (sC 26 (hp676.old 26 _ rfl rfl) (sC 27 (hp676.old 27 _ rfl rfl) (sC 28 (hp676.old 28 _ rfl rfl) (sC 29 (hp676.old 29 _ rfl rfl) (sC 30 (hp676.old 30 _ rfl rfl) (sC 31 (hp676.old 31 _ rfl rfl) (sC 32 (hp676.old 32 _ rfl rfl) (sC 33 (hp676.old 33 _ rfl rfl) (sC 34 (hp676.old 34 _ rfl rfl) (sC 44 (hp676.nt 2 44 rfl rfl rfl) (sC 45 (hp676.nt 3 45 rfl rfl rfl) (sC 46 (hp676.nt 4 46 rfl rfl rfl) (sC 47 (hp676.nt 5 47 rfl rfl rfl) (sC 48 (hp676.nt 6 48 rfl rfl rfl) (sC 49 (hp676.nt 7 49 rfl rfl rfl) (sC 50 (hp676.nt 8 50 rfl rfl rfl) (Sub.nil _))))))))))))))))))))))))))) (CW.region (sM rfl (sd rfl (yl_inc rfl rfl rfl oM (sA rfl (SeqR.done ?_)))))))))
          refine tn ?_
          have hB706 : B_s_l3Bytes_1 p_s p_more k5 k484 (x485) = .cont (decide (((p_s.getD k5 0).toNat : Int) = ((p_more.getD k484 0).toNat : Int))) := by simp only [B_s_l3Bytes_1, hb21, hb22, hb253, hb517, cL]
          exact ⟨p_more.length - (k484 + 1), oM, k484 + 1, decide (((p_s.getD k5 0).toNat : Int) = ((p_more.getD k484 0).toNat : Int)), rfl, hlt516, oM, rfl, rfl, rfl, rfl, rfl, rfl, rfl, rfl, rfl, rfl, rfl, rfl, rfl, rfl, rfl, rfl, rfl, rfl, rfl, (Ex.trans hf514 hE679), (loopM.cont hlt516 hB706).symm.trans hI493⟩
       ·refine CW.seq (cR (sM rfl (sM rfl (sd rfl (yl_slen un9 (a := p_more) rfl rfl (sd rfl (yl_lss rfl rfl rfl (dn ?_))))))))
        refine CW.cond_f rfl (lt_f hlt516) (CW.exit (tx (tx ?_)))
        have hL708 : loopM (B_s_l3Bytes_1 p_s p_more k5) (p_more.length - 0) 0 (false) = .done (x485) := hI493.symm.trans (loopM.stop hlt516)
        refine bx (tn (cR (sM rfl (sd rfl (yl_not rfl rfl (dn (bcase (x485) (fun hb709 => ?_) (fun hb709 => ?_))))))))
        ·refine CW.cond_f rfl (not_t hb709) (CW.skip (bn (tn (CW.region (sM rfl (sd rfl (yl_inc rfl rfl rfl oM (sA rfl (SeqR.done ?_)))))))))
         refine tn ?_
         have hB710 : B_s_l3Bytes_0 p_s p_more k5 () = .cont () := by simp only [B_s_l3Bytes_0, hb21, hb22, hb253, hb709, hL708, cL]
         exact ⟨p_s.length - (k5 + 1), oM, k5 + 1, rfl, hlt20, oM, rfl, rfl, rfl, hf514, (loopM.cont hlt20 hB710).symm.trans hI13⟩
        ·refine CW.cond_t rfl (not_f hb709) (cR (sA rfl (dn (CW.ret (br (tr ?_))))))
         refine tr ?_
         have hB712 : B_s_l3Bytes_0 p_s p_more k5 () = .ret false := by simp only [B_s_l3Bytes_0, hb21, hb22, hb253, hb709, hL708, cL]
         have hL711 : loopM (B_s_l3Bytes_0 p_s p_more) (p_s.length - 0) 0 () = .ret false := hI13.symm.trans (loopM.ret hlt20 hB712)
         refine br (tr (rr rfl (.cons rfl .nil) ?_))
         have hM713 : (s_l3Bytes p_s p_more) = (false) := by simp only [s_l3Bytes, hb21, hb22, hb253, hb709, hL708, hL711, cL]
         rw [hM713]
         exact ⟨rfl, hf514⟩
   ·have hb21p := dec_f hb21
    refine sz rfl rfl hb21 (sz rfl rfl hb21 (sz rfl rfl hb21 (sz rfl rfl hb21 (sd rfl (yl_pick_f rfl rfl hb21 rfl (sM rfl (sy rfl rfl rfl (yM rfl rfl (sy rfl rfl rfl (yM rfl rfl (sy rfl rfl rfl (yl_sindexN un9 (a := p_s) rfl rfl rfl Bo ?_))))))))))))
    refine sy rfl rfl rfl (yl_geq rfl rfl rfl (sy rfl rfl rfl (yM rfl rfl (bcase (decide (48 ≤ ((p_s.getD k5 0).toNat : Int))) (fun hb714 => ?_) (fun hb714 => ?_)))))
    ·have hb714p := dec_t hb714
     refine sy rfl rfl hb714 (yM rfl rfl (sy rfl rfl hb714 (yM rfl rfl (sy rfl rfl hb714 (yl_sindexN un9 (a := p_s) rfl rfl rfl Bo (sy rfl rfl hb714 (yl_leq rfl rfl rfl (sy rfl rfl rfl (yl_pick_t rfl rfl hb714 rfl (sd rfl (yl_pick_f rfl rfl rfl rfl (sA rfl (dn ?_)))))))))))))
     refine CW.seq (cR (sA rfl (dn (CW.block (CW.loop (fun m717 L718 w719 => ∃ (k715 : Nat) (x716 : Bool), m717 = p_more.length - k715 ∧ k715 ≤ p_more.length ∧ w11.heap.size ≤ w719.heap.size ∧ lkp L718 0 = some (.string (bs (p_s))) ∧ lkp L718 1 = some (.string (bs (p_more))) ∧ lkp L718 5 = some (.int .i64 ((k5 : Int))) ∧ lkp L718 6 = some (.bool (x716)) ∧ lkp L718 7 = some (.int .i64 ((k715 : Int))) ∧ lkp L718 19 = some (undef) ∧ lkp L718 20 = some (undef) ∧ lkp L718 21 = some (undef) ∧ lkp L718 22 = some (undef) ∧ lkp L718 25 = some (.string (bs (p_s))) ∧ lkp L718 26 = some (.int .i64 ((k5 : Int))) ∧ lkp L718 27 = some (.int .u8 (((p_s.getD k5 0).toNat : Int))) ∧ lkp L718 28 = some (.bool (decide (48 ≤ ((p_s.getD k5 0).toNat : Int)))) ∧ lkp L718 29 = some (.bool (decide (48 ≤ ((p_s.getD k5 0).toNat : Int)))) ∧ lkp L718 30 = some (.string (bs (p_s))) ∧ lkp L718 31 = some (.int .i64 ((k5 : Int))) ∧ lkp L718 32 = some (.int .u8 (((p_s.getD k5 0).toNat : Int))) ∧ lkp L718 33 = some (.bool (decide (((p_s.getD k5 0).toNat : Int) ≤ 57))) ∧ lkp L718 34 = some (.bool (decide (((p_s.getD k5 0).toNat : Int) ≤ 57))) ∧ Ex w w719 ∧ loopM (B_s_l3Bytes_1 p_s p_more k5) (p_more.length - k715) k715 (x716) = loopM (B_s_l3Bytes_1 p_s p_more k5) (p_more.length - 0) 0 (decide (((p_s.getD k5 0).toNat : Int) ≤ 57))) (p_more.length - 0) ?_ ?_)))))
     ·exact ⟨0, decide (((p_s.getD k5 0).toNat : Int) ≤ 57), rfl, oM, Nat.le_refl _, rfl, rfl, rfl, rfl, rfl, rfl, rfl, rfl, rfl, rfl, rfl, rfl, rfl, rfl, rfl, rfl, rfl, rfl, rfl, hf18, rfl⟩
     ·rintro m720 L721 w722 ⟨k715, x716, rfl, hk723, hsz725, hl726, hl727, hl728, hl729, hl730, hl731, hl732, hl733, hl734, hl735, hl736, hl737, hl738, hl739, hl740, hl741, hl742, hl743, hl744, hf745, hI724⟩
      refine CW.sub (Sub.cons hl726 (Sub.cons hl727 (Sub.cons hl728 (Sub.cons hl729 (Sub.cons hl730 (Sub.cons hl731 (Sub.cons hl732 (Sub.cons hl733 (Sub.cons hl734 (Sub.cons hl735 (Sub.cons hl736 (Sub.cons hl737 (Sub.cons hl738 (Sub.cons hl739 (Sub.cons hl740 (Sub.cons hl741 (Sub.cons hl742 (Sub.cons hl743 (Sub.cons hl744 (Sub.nil _)))))))))))))))))))) ?_
      have hf745z := Ex.size hf745
      have hbg746 : p_more.length ≤ 1073741824 := o2
      rcases Nat.lt_or_ge k715 p_more.length with hlt747 | hlt747
      ·refine CW.seq (cR (sM rfl (sM rfl (sd rfl (yl_slen un9 (a := p_more) rfl rfl (sd rfl (yl_lss rfl rfl rfl (dn ?_))))))))
       refine CW.cond_t rfl (lt_t hlt747) (CW.skip (tn (CW.seq (CW.block (bcase (x716) (fun hb748 => ?_) (fun hb748 => ?_))))))
       ·refine drI 11 [.bool (x716), .bool (x716), undef, undef, undef, undef, undef, undef, undef, .bool (true), .bool (true)] Try.follows rfl ⟨?_, ?_, ?_, ?_, ?_, ?_, ?_, ?_, ?_, ?_, ?_, trivial⟩ ?_
        ·exact oI rfl fun h => yM rfl (h.old 6 _ rfl rfl) kI
        ·exact oI rfl fun h => yM rfl (h.dt 0 42 rfl rfl rfl) kI
        ·exact oS rfl rfl rfl rfl rfl hb748
        ·exact oS rfl rfl rfl rfl rfl hb748
        ·exact oS rfl rfl rfl rfl rfl hb748
        ·exact oS rfl rfl rfl rfl rfl hb748
        ·exact oS rfl rfl rfl rfl rfl hb748
        ·exact oS rfl rfl rfl rfl rfl hb748
        ·exact oS rfl rfl rfl rfl rfl hb748
        ·exact oI rfl fun h => yl_pick_t rfl (h.dt 1 43 rfl rfl rfl) hb748 rfl kI
        ·exact oI rfl fun h => yA rfl (h.dt 9 51 rfl rfl rfl) kI
        ·intro fl808 fh809 L805 w806 hp807
         have hE810 := hp807.ex
         have hE810z := Ex.size hE810
         refine SeqR.done (bn (tn (CW.sub (sC 0 (hp807.old 0 _ rfl rfl) (sC 1 (hp807.old 1 _ rfl rfl) (sC 5 (hp807.old 5 _ rfl rfl) (sC 6 (hp807.nt 10 6 rfl rfl rfl) (sC 7 (hp807.old 7 _ rfl rfl) (sC 19 (hp807.old 19 _ rfl rfl) (sC 20 (hp807.old 20 _ rfl rfl) (sC 21 (hp807.old 21 _ rfl rfl) (sC 22 (hp807.old 22 _ rfl rfl) (sC 25 (hp807.old 25 _ rfl rfl) (sC 26 (hp807.old 26 _ rfl rfl) (sC 27 (hp807.old 27 _ rfl rfl) (sC 28 (hp807.old 28 _ rfl rfl) (sC 29 (hp807.old 29 _ rfl rfl) (sC 30 (hp807.old 30 _ rfl rfl) (sC 31 (hp807.old 31 _ rfl rfl) (sC 32 (hp807.old 32 _ rfl rfl) (sC 33 (hp807.old 33 _ rfl rfl) (sC 34 (hp807.old 34 _ rfl rfl) (sC 44 (hp807.nt 2 44 rfl rfl rfl) (sC 45 (hp807.nt 3 45 rfl rfl rfl) (sC 46 (hp807.nt 4 46 rfl rfl rfl) (sC 47 (hp807.nt 5 47 rfl rfl rfl) (sC 48 (hp807.nt 6 48 rfl rfl rfl) (sC 49 (hp807.nt 7 49 rfl rfl rfl) (sC 50 (hp807.nt 8 50 rfl rfl rfl) (Sub.nil _))))))))))))))))))))))))))) (CW.region (sM rfl (sd rfl (yl_inc rfl rfl rfl oM (sA rfl (SeqR.done ?_)))))))))
         refine tn ?_
         have hB837 : B_s_l3Bytes_1 p_s p_more k5 k715 (x716) = .cont (true) := by simp only [B_s_l3Bytes_1, hb21, hb714, hb748, cL]
         exact ⟨p_more.length - (k715 + 1), oM, k715 + 1, true, rfl, hlt747, oM, rfl, rfl, rfl, rfl, rfl, rfl, rfl, rfl, rfl, rfl, rfl, rfl, rfl, rfl, rfl, rfl, rfl, rfl, rfl, (Ex.trans hf745 hE810), (loopM.cont hlt747 hB837).symm.trans hI724⟩
       ·refine drI 11 [.bool (x716), .bool (x716), .string (bs (p_s)), .int .i64 ((k5 : Int)), .int .u8 (((p_s.getD k5 0).toNat : Int)), .string (bs (p_more)), .int .i64 ((k715 : Int)), .int .u8 (((p_more.getD k715 0).toNat : Int)), .bool (decide (((p_s.getD k5 0).toNat : Int) = ((p_more.getD k715 0).toNat : Int))), .bool (decide (((p_s.getD k5 0).toNat : Int) = ((p_more.getD k715 0).toNat : Int))), .bool (decide (((p_s.getD k5 0).toNat : Int) = ((p_more.getD k715 0).toNat : Int)))] Try.follows rfl ⟨?_, ?_, ?_, ?_, ?_, ?_, ?_, ?_, ?_, ?_, ?_, trivial⟩ ?_
        ·exact oI rfl fun h => yM rfl (h.old 6 _ rfl rfl) kI
        ·exact oI rfl fun h => yM rfl (h.dt 0 42 rfl rfl rfl) kI
        ·exact oW rfl rfl rfl rfl hb748 fun h => yM rfl (h.old 0 _ rfl rfl) kI
        ·exact oW rfl rfl rfl rfl hb748 fun h => yM rfl (h.old 5 _ rfl rfl) kI
        ·intro L861 w862 hi863
         have hE864 := hi863.ex
         have hE864z := Ex.size hE864
         exact OpR.want rfl rfl (hi863.dt 1 43 rfl rfl rfl) hb748 (Yl.sameI (yl_sindexN un9 (a := p_s) rfl (hi863.dt 2 44 rfl rfl rfl) (hi863.dt 3 45 rfl rfl rfl) Bo kI))
        ·exact oW rfl rfl rfl rfl hb748 fun h => yM rfl (h.old 1 _ rfl rfl) kI
        ·exact oW rfl rfl rfl rfl hb748 fun h => yM rfl (h.old 7 _ rfl rfl) kI
        ·intro L880 w881 hi882
         have hE883 := hi882.ex
         have hE883z := Ex.size hE883
         exact OpR.want rfl rfl (hi882.dt 1 43 rfl rfl rfl) hb748 (Yl.sameI (yl_sindexN un9 (a := p_more) rfl (hi882.dt 5 47 rfl rfl rfl) (hi882.dt 6 48 rfl rfl rfl) Bo kI))
        ·exact oW rfl rfl rfl rfl hb748 fun h => yl_eql rfl (h.dt 4 46 rfl rfl rfl) (h.dt 7 49 rfl rfl rfl) kI
        ·exact oI rfl fun h => yl_pick_f rfl (h.dt 1 43 rfl rfl rfl) hb748 (h.dt 8 50 rfl rfl rfl) kI
        ·exact oI rfl fun h => yA rfl (h.dt 9 51 rfl rfl rfl) kI
        ·intro fl908 fh909 L905 w906 hp907
         have hE910 := hp907.ex
         have hE910z := Ex.size hE910
         refine SeqR.done (bn (tn (CW.sub (sC 0 (hp907.old 0 _ rfl rfl) (sC 1 (hp907.old 1 _ rfl rfl) (sC 5 (hp907.old 5 _ rfl rfl) (sC 6 (hp907.nt 10 6 rfl rfl rfl) (sC 7 (hp907.old 7 _ rfl rfl) (sC 19 (hp907.old 19 _ rfl rfl) (sC 20 (hp907.old 20 _ rfl rfl) (sC 21 (hp907.old 21 _ rfl rfl) (sC 22 (hp907.old 22 _ rfl rfl) (sC 25 (hp907.old 25 _ rfl rfl) (sC 26 (hp907.old 26 _ rfl rfl) (sC 27 (hp907.old 27 _ rfl rfl) (sC 28 (hp907.old 28 _ rfl rfl) (sC 29 (hp907.old 29 _ rfl rfl) (sC 30 (hp907.old 30 _ rfl rfl) (sC 31 (hp907.old 31 _ rfl rfl) (sC 32 (hp907.old 32 _ rfl rfl) (sC 33 (hp907.old 33 _ rfl rfl) (sC 34 (hp907.old 34 _ rfl rfl) (sC 44 (hp907.nt 2 44 rfl rfl rfl) (sC 45 (hp907.nt 3 45 rfl rfl rfl) (sC 46 (hp907.nt 4 46 rfl rfl rfl) (sC 47 (hp907.nt 5 47 rfl rfl rfl) (sC 48 (hp907.nt 6 48 rfl rfl rfl) (sC 49 (hp907.nt 7 49 rfl rfl rfl) (sC 50 (hp907.nt 8 50 rfl rfl rfl) (Sub.nil _))))))))))))))))))))))))))) (CW.region (sM rfl (sd rfl (yl_inc rfl rfl rfl oM (sA rfl (SeqR.done ?_)))))))))
         refine tn ?_
         have hB937 : B_s_l3Bytes_1 p_s p_more k5 k715 (x716) = .cont (decide (((p_s.getD k5 0).toNat : Int) = ((p_more.getD k715 0).toNat : Int))) := by simp only [B_s_l3Bytes_1, hb21, hb714, hb748, cL]
         exact ⟨p_more.length - (k715 + 1), oM, k715 + 1, decide (((p_s.getD k5 0).toNat : Int) = ((p_more.getD k715 0).toNat : Int)), rfl, hlt747, oM, rfl, rfl, rfl, rfl, rfl, rfl, rfl, rfl, rfl, rfl, rfl, rfl, rfl, rfl, rfl, rfl, rfl, rfl, rfl, (Ex.trans hf745 hE910), (loopM.cont hlt747 hB937).symm.trans hI724⟩
      ·refine CW.seq (cR (sM rfl (sM rfl (sd rfl (yl_slen un9 (a := p_more) rfl rfl (sd rfl (yl_lss rfl rfl rfl (dn ?_))))))))
       refine CW.cond_f rfl (lt_f hlt747) (CW.exit (tx (tx ?_)))
       have hL939 : loopM (B_s_l3Bytes_1 p_s p_more k5) (p_more.length - 0) 0 (decide (((p_s.getD k5 0).toNat : Int) ≤ 57)) = .done (x716) := hI724.symm.trans (loopM.stop hlt747)
       refine bx (tn (cR (sM rfl (sd rfl (yl_not rfl rfl (dn (bcase (x716) (fun hb940 => ?_) (fun hb940 => ?_))))))))
       ·refine CW.cond_f rfl (not_t hb940) (CW.skip (bn (tn (CW.region (sM rfl (sd rfl (yl_inc rfl rfl rfl oM (sA rfl (SeqR.done ?_)))))))))
        refine tn ?_
        have hB941 : B_s_l3Bytes_0 p_s p_more k5 () = .cont () := by simp only [B_s_l3Bytes_0, hb21, hb714, hb940, hL939, cL]
        exact ⟨p_s.length - (k5 + 1), oM, k5 + 1, rfl, hlt20, oM, rfl, rfl, rfl, hf745, (loopM.cont hlt20 hB941).symm.trans hI13⟩
       ·refine CW.cond_t rfl (not_f hb940) (cR (sA rfl (dn (CW.ret (br (tr ?_))))))
        refine tr ?_
        have hB943 : B_s_l3Bytes_0 p_s p_more k5 () = .ret false := by simp only [B_s_l3Bytes_0, hb21, hb714, hb940, hL939, cL]
        have hL942 : loopM (B_s_l3Bytes_0 p_s p_more) (p_s.length - 0) 0 () = .ret false := hI13.symm.trans (loopM.ret hlt20 hB943)
        refine br (tr (rr rfl (.cons rfl .nil) ?_))
        have hM944 : (s_l3Bytes p_s p_more) = (false) := by simp only [s_l3Bytes, hb21, hb714, hb940, hL939, hL942, cL]
        rw [hM944]
        exact ⟨rfl, hf745⟩
    ·have hb714p := dec_f hb714
     refine sz rfl rfl hb714 (sz rfl rfl hb714 (sz rfl rfl hb714 (sz rfl rfl hb714 (sy rfl rfl rfl (yl_pick_f rfl rfl hb714 rfl (sd rfl (yl_pick_f rfl rfl rfl rfl (sA rfl (dn ?_)))))))))
     refine CW.seq (cR (sA rfl (dn (CW.block (CW.loop (fun m947 L948 w949 => ∃ (k945 : Nat) (x946 : Bool), m947 = p_more.length - k945 ∧ k945 ≤ p_more.length ∧ w11.heap.size ≤ w949.heap.size ∧ lkp L948 0 = some (.string (bs (p_s))) ∧ lkp L948 1 = some (.string (bs (p_more))) ∧ lkp L948 5 = some (.int .i64 ((k5 : Int))) ∧ lkp L948 6 = some (.bool (x946)) ∧ lkp L948 7 = some (.int .i64 ((k945 : Int))) ∧ lkp L948 19 = some (undef) ∧ lkp L948 20 = some (undef) ∧ lkp L948 21 = some (undef) ∧ lkp L948 22 = some (undef) ∧ lkp L948 25 = some (.string (bs (p_s))) ∧ lkp L948 26 = some (.int .i64 ((k5 : Int))) ∧ lkp L948 27 = some (.int .u8 (((p_s.getD k5 0).toNat : Int))) ∧ lkp L948 28 = some (.bool (decide (48 ≤ ((p_s.getD k5 0).toNat : Int)))) ∧ lkp L948 29 = some (.bool (decide (48 ≤ ((p_s.getD k5 0).toNat : Int)))) ∧ lkp L948 30 = some (undef) ∧ lkp L948 31 = some (undef) ∧ lkp L948 32 = some (undef) ∧ lkp L948 33 = some (undef) ∧ lkp L948 34 = some (.bool (false)) ∧ Ex w w949 ∧ loopM (B_s_l3Bytes_1 p_s p_more k5) (p_more.length - k945) k945 (x946) = loopM (B_s_l3Bytes_1 p_s p_more k5) (p_more.length - 0) 0 (false)) (p_more.length - 0) ?_ ?_)))))
     ·exact ⟨0, false, rfl, oM, Nat.le_refl _, rfl, rfl, rfl, rfl, rfl, rfl, rfl, rfl, rfl, rfl, rfl, rfl, rfl, rfl, rfl, rfl, rfl, rfl, rfl, hf18, rfl⟩
     ·rintro m950 L951 w952 ⟨k945, x946, rfl, hk953, hsz955, hl956, hl957, hl958, hl959, hl960, hl961, hl962, hl963, hl964, hl965, hl966, hl967, hl968, hl969, hl970, hl971, hl972, hl973, hl974, hf975, hI954⟩
      refine CW.sub (Sub.cons hl956 (Sub.cons hl957 (Sub.cons hl958 (Sub.cons hl959 (Sub.cons hl960 (Sub.cons hl961 (Sub.cons hl962 (Sub.cons hl963 (Sub.cons hl964 (Sub.cons hl965 (Sub.cons hl966 (Sub.cons hl967 (Sub.cons hl968 (Sub.cons hl969 (Sub.cons hl970 (Sub.cons hl971 (Sub.cons hl972 (Sub.cons hl973 (Sub.cons hl974 (Sub.nil _)))))))))))))))))))) ?_
      have hf975z := Ex.size hf975
      have hbg976 : p_more.length ≤ 1073741824 := o2
      rcases Nat.lt_or_ge k945 p_more.length with hlt977 | hlt977
      ·refine CW.seq (cR (sM rfl (sM rfl (sd rfl (yl_slen un9 (a := p_more) rfl rfl (sd rfl (yl_lss rfl rfl rfl (dn ?_))))))))
       refine CW.cond_t rfl (lt_t hlt977) (CW.skip (tn (CW.seq (CW.block (bcase (x946) (fun hb978 => ?_) (fun hb978 => ?_))))))
       ·refine drI 11 [.bool (x946), .bool (x946), undef, undef, undef, undef, undef, undef, undef, .bool (true), .bool (true)] Try.follows rfl ⟨?_, ?_, ?_, ?_, ?_, ?_, ?_, ?_, ?_, ?_, ?_, trivial⟩ ?_
        ·exact oI rfl fun h => yM rfl (h.old 6 _ rfl rfl) kI
        ·exact oI rfl fun h => yM rfl (h.dt 0 42 rfl rfl rfl) kI
        ·exact oS rfl rfl rfl rfl rfl hb978
        ·exact oS rfl rfl rfl rfl rfl hb978
        ·exact oS rfl rfl rfl rfl rfl hb978
        ·exact oS rfl rfl rfl rfl rfl hb978
        ·exact oS rfl rfl rfl rfl rfl hb978
        ·exact oS rfl rfl rfl rfl rfl hb978
        ·exact oS rfl rfl rfl rfl rfl hb978
        ·exact oI rfl fun h => yl_pick_t rfl (h.dt 1 43 rfl rfl rfl) hb978 rfl kI
        ·exact oI rfl fun h => yA rfl (h.dt 9 51 rfl rfl rfl) kI
        ·intro fl1038 fh1039 L1035 w1036 hp1037
         have hE1040 := hp1037.ex
         have hE1040z := Ex.size hE1040
         refine SeqR.done (bn (tn (CW.sub (sC 0 (hp1037.old 0 _ rfl rfl) (sC 1 (hp1037.old 1 _ rfl rfl) (sC 5 (hp1037.old 5 _ rfl rfl) (sC 6 (hp1037.nt 10 6 rfl rfl rfl) (sC 7 (hp1037.old 7 _ rfl rfl) (sC 19 (hp1037.old 19 _ rfl rfl) (sC 20 (hp1037.old 20 _ rfl rfl) (sC 21 (hp1037.old 21 _ rfl rfl) (sC 22 (hp1037.old 22 _ rfl rfl) (sC 25 (hp1037.old 25 _ rfl rfl) (sC 26 (hp1037.old 26 _ rfl rfl) (sC 27 (hp1037.old 27 _ rfl rfl) (sC 28 (hp1037.old 28 _ rfl rfl) (sC 29 (hp1037.old 29 _ rfl rfl) (sC 30 (hp1037.old 30 _ rfl rfl) (sC 31 (hp1037.old 31 _ rfl rfl) (sC 32 (hp1037.old 32 _ rfl rfl) (sC 33 (hp1037.old 33 _ rfl rfl) (sC 34 (hp1037.old 34 _ rfl rfl) (sC 44 (hp1037.nt 2 44 rfl rfl rfl) (sC 45 (hp1037.nt 3 45 rfl rfl rfl) (sC 46 (hp1037.nt 4 46 rfl rfl rfl) (sC 47 (hp1037.nt 5 47 rfl rfl rfl) (sC 48 (hp1037.nt 6 48 rfl rfl rfl) (sC 49 (hp1037.nt 7 49 rfl rfl rfl) (sC 50 (hp1037.nt 8 50 rfl rfl rfl) (Sub.nil _))))))))))))))))))))))))))) (CW.region (sM rfl (sd rfl (yl_inc rfl rfl rfl oM (sA rfl (SeqR.done ?_)))))))))
         refine tn ?_
         have hB1067 : B_s_l3Bytes_1 p_s p_more k5 k945 (x946) = .cont (true) := by simp only [B_s_l3Bytes_1, hb21, hb714, hb978, cL]
         exact ⟨p_more.length - (k945 + 1), oM, k945 + 1, true, rfl, hlt977, oM, rfl, rfl, rfl, rfl, rfl, rfl, rfl, rfl, rfl, rfl, rfl, rfl, rfl, rfl, rfl, rfl, rfl, rfl, rfl, (Ex.trans hf975 hE1040), (loopM.cont hlt977 hB1067).symm.trans hI954⟩
       ·refine drI 11 [.bool (x946), .bool (x946), .string (bs (p_s)), .int .i64 ((k5 : Int)), .int .u8 (((p_s.getD k5 0).toNat : Int)), .string (bs (p_more)), .int .i64 ((k945 : Int)), .int .u8 (((p_more.getD k945 0).toNat : Int)), .bool (decide (((p_s.getD k5 0).toNat : Int) = ((p_more.getD k945 0).toNat : Int))), .bool (decide (((p_s.getD k5 0).toNat : Int) = ((p_more.getD k945 0).toNat : Int))), .bool (decide (((p_s.getD k5 0).toNat : Int) = ((p_more.getD k945 0).toNat : Int)))] Try.follows rfl ⟨?_, ?_, ?_, ?_, ?_, ?_, ?_, ?_, ?_, ?_, ?_, trivial⟩ ?_
        ·exact oI rfl fun h => yM rfl (h.old 6 _ rfl rfl) kI
        ·exact oI rfl fun h => yM rfl (h.dt 0 42 rfl rfl rfl) kI
        ·exact oW rfl rfl rfl rfl hb978 fun h => yM rfl (h.old 0 _ rfl rfl) kI
        ·exact oW rfl rfl rfl rfl hb978 fun h => yM rfl (h.old 5 _ rfl rfl) kI
        ·intro L1091 w1092 hi1093
         have hE1094 := hi1093.ex
         have hE1094z := Ex.size hE1094
         exact OpR.want rfl rfl (hi1093.dt 1 43 rfl rfl rfl) hb978 (Yl.sameI (yl_sindexN un9 (a := p_s) rfl (hi1093.dt 2 44 rfl rfl rfl) (hi1093.dt 3 45 rfl rfl rfl) Bo kI))
        ·exact oW rfl rfl rfl rfl hb978 fun h => yM rfl (h.old 1 _ rfl rfl) kI
        ·exact oW rfl rfl rfl rfl hb978 fun h => yM rfl (h.old 7 _ rfl rfl) kI
        ·intro L1110 w1111 hi1112
         have hE1113 := hi1112.ex
         have hE1113z := Ex.size hE1113
         exact OpR.want rfl rfl (hi1112.dt 1 43 rfl rfl rfl) hb978 (Yl.sameI (yl_sindexN un9 (a := p_more) rfl (hi1112.dt 5 47 rfl rfl rfl) (hi1112.dt 6 48 rfl rfl rfl) Bo kI))
        ·exact oW rfl rfl rfl rfl hb978 fun h => yl_eql rfl (h.dt 4 46 rfl rfl rfl) (h.dt 7 49 rfl rfl rfl) kI
        ·exact oI rfl fun h => yl_pick_f rfl (h.dt 1 43 rfl rfl rfl) hb978 (h.dt 8 50 rfl rfl rfl) kI
        ·exact oI rfl fun h => yA rfl (h.dt 9 51 rfl rfl rfl) kI
        ·intro fl1138 fh1139 L1135 w1136 hp1137
         have hE1140 := hp1137.ex
         have hE1140z := Ex.size hE1140
         refine SeqR.done (bn (tn (CW.sub (sC 0 (hp1137.old 0 _ rfl rfl) (sC 1 (hp1137.old 1 _ rfl rfl) (sC 5 (hp1137.old 5 _ rfl rfl) (sC 6 (hp1137.nt 10 6 rfl rfl rfl) (sC 7 (hp1137.old 7 _ rfl rfl) (sC 19 (hp1137.old 19 _ rfl rfl) (sC 20 (hp1137.old 20 _ rfl rfl) (sC 21 (hp1137.old 21 _ rfl rfl) (sC 22 (hp1137.old 22 _ rfl rfl) (sC 25 (hp1137.old 25 _ rfl rfl) (sC 26 (hp1137.old 26 _ rfl rfl) (sC 27 (hp1137.old 27 _ rfl rfl) (sC 28 (hp1137.old 28 _ rfl rfl) (sC 29 (hp1137.old 29 _ rfl rfl) (sC 30 (hp1137.old 30 _ rfl rfl) (sC 31 (hp1137.old 31 _ rfl rfl) (sC 32 (hp1137.old 32 _ rfl rfl) (sC 33 (hp1137.old 33 _ rfl rfl) (sC 34 (hp1137.old 34 _ rfl rfl) (sC 44 (hp1137.nt 2 44 rfl rfl rfl) (sC 45 (hp1137.nt 3 45 rfl rfl rfl) (sC 46 (hp1137.nt 4 46 rfl rfl rfl) (sC 47 (hp1137.nt 5 47 rfl rfl rfl) (sC 48 (hp1137.nt 6 48 rfl rfl rfl) (sC 49 (hp1137.nt 7 49 rfl rfl rfl) (sC 50 (hp1137.nt 8 50 rfl rfl rfl) (Sub.nil _))))))))))))))))))))))))))) (CW.region (sM rfl (sd rfl (yl_inc rfl rfl rfl oM (sA rfl (SeqR.done ?_)))))))))
         refine tn ?_
         have hB1167 : B_s_l3Bytes_1 p_s p_more k5 k945 (x946) = .cont (decide (((p_s.getD k5 0).toNat : Int) = ((p_more.getD k945 0).toNat : Int))) := by simp only [B_s_l3Bytes_1, hb21, hb714, hb978, cL]
         exact ⟨p_more.length - (k945 + 1), oM, k945 + 1, decide (((p_s.getD k5 0).toNat : Int) = ((p_more.getD k945 0).toNat : Int)), rfl, hlt977, oM, rfl, rfl, rfl, rfl, rfl, rfl, rfl, rfl, rfl, rfl, rfl, rfl, rfl, rfl, rfl, rfl, rfl, rfl, rfl, (Ex.trans hf975 hE1140), (loopM.cont hlt977 hB1167).symm.trans hI954⟩
      ·refine CW.seq (cR (sM rfl (sM rfl (sd rfl (yl_slen un9 (a := p_more) rfl rfl (sd rfl (yl_lss rfl rfl rfl (dn ?_))))))))
       refine CW.cond_f rfl (lt_f hlt977) (CW.exit (tx (tx ?_)))
       have hL1169 : loopM (B_s_l3Bytes_1 p_s p_more k5) (p_more.length - 0) 0 (false) = .done (x946) := hI954.symm.trans (loopM.stop hlt977)
       refine bx (tn (cR (sM rfl (sd rfl (yl_not rfl rfl (dn (bcase (x946) (fun hb1170 => ?_) (fun hb1170 => ?_))))))))
       ·refine CW.cond_f rfl (not_t hb1170) (CW.skip (bn (tn (CW.region (sM rfl (sd rfl (yl_inc rfl rfl rfl oM (sA rfl (SeqR.done ?_)))))))))
        refine tn ?_
        have hB1171 : B_s_l3Bytes_0 p_s p_more k5 () = .cont () := by simp only [B_s_l3Bytes_0, hb21, hb714, hb1170, hL1169, cL]
        exact ⟨p_s.length - (k5 + 1), oM, k5 + 1, rfl, hlt20, oM, rfl, rfl, rfl, hf975, (loopM.cont hlt20 hB1171).symm.trans hI13⟩
       ·refine CW.cond_t rfl (not_f hb1170) (cR (sA rfl (dn (CW.ret (br (tr ?_))))))
        refine tr ?_
        have hB1173 : B_s_l3Bytes_0 p_s p_more k5 () = .ret false := by simp only [B_s_l3Bytes_0, hb21, hb714, hb1170, hL1169, cL]
        have hL1172 : loopM (B_s_l3Bytes_0 p_s p_more) (p_s.length - 0) 0 () = .ret false := hI13.symm.trans (loopM.ret hlt20 hB1173)
        refine br (tr (rr rfl (.cons rfl .nil) ?_))
        have hM1174 : (s_l3Bytes p_s p_more) = (false) := by simp only [s_l3Bytes, hb21, hb714, hb1170, hL1169, hL1172, cL]
        rw [hM1174]
        exact ⟨rfl, hf975⟩
  ·refine CW.seq (cR (sM rfl (sM rfl (sd rfl (yl_slen un9 (a := p_s) rfl rfl (sd rfl (yl_lss rfl rfl rfl (dn ?_))))))))
   refine CW.cond_f rfl (lt_f hlt20) (CW.exit (tx (tx ?_)))
   have hL1175 : loopM (B_s_l3Bytes_0 p_s p_more) (p_s.length - 0) 0 () = .done () := hI13.symm.trans (loopM.stop hlt20)
   refine bx (tn (cR (sA rfl (dn (CW.ret (rr rfl (.cons rfl .nil) ?_))))))
   have hM1176 : (s_l3Bytes p_s p_more) = (true) := by simp only [s_l3Bytes, hL1175, cL]
   rw [hM1176]
   exact ⟨rfl, hf18⟩
theorem c_s_l3Key {w : World} (p_s : Str) (o1 : okS p_s) : Cal Try.prog 48 #[.string (bs (p_s))] w fun v w' => v = .bool ((s_l3Key p_s)) ∧ Ex w w' := by
 refine Cal.of func48 rfl ntmps48 rfl (cR (sA rfl (dn (cR (sM rfl ?_)))))
 refine sd rfl (yl_slen un9 (a := p_s) rfl rfl (sd rfl (yC en38 rfl (oc rfl (oc rfl (oc rfl oz))) (Cal.mono (c_s_l1In (p_s.length : Int) 1 12) ?_))))
 rintro v4 w3 ⟨rfl, hE5⟩
 refine sM rfl (bcase (s_l1In (p_s.length : Int) 1 12) (fun hb6 => ?_) (fun hb6 => ?_))
 ·have hb6p := f_l1In hb6
  refine sy rfl rfl hb6 (yM rfl rfl (sy rfl rfl hb6 (yC en53 rfl (oc rfl (oc rfl oz)) (Cal.mono (c_s_l3Bytes p_s ([46, 47] : Str) o1 (okS.lit rfl)) ?_))))
  rintro v8 w7 ⟨rfl, hE9⟩
  refine sd rfl (yl_pick_t rfl rfl hb6 rfl (sA rfl (dn (CW.ret (rr rfl (.cons rfl .nil) ?_)))))
  have hM10 : (s_l3Key p_s) = ((s_l3Bytes p_s ([46, 47] : Str))) := by simp only [s_l3Key, hb6, cL]
  rw [hM10]
  exact ⟨rfl, (Ex.trans (Ex.trans (Ex.refl w) hE5) hE9)⟩
 ·refine sz rfl rfl hb6 (sz rfl rfl hb6 (sd rfl (yl_pick_f rfl rfl hb6 rfl (sA rfl (dn (CW.ret (rr rfl (.cons rfl .nil) ?_)))))))
  have hM13 : (s_l3Key p_s) = (false) := by simp only [s_l3Key, hb6, cL]
  rw [hM13]
  exact ⟨rfl, (Ex.trans (Ex.refl w) hE5)⟩
theorem c_s_l3Val {w : World} (p_s : Str) (o1 : okS p_s) : Cal Try.prog 52 #[.string (bs (p_s))] w fun v w' => v = .bool ((s_l3Val p_s)) ∧ Ex w w' := by
 refine Cal.of func52 rfl ntmps52 rfl (cR (sA rfl (dn (cR (sM rfl ?_)))))
 refine sd rfl (yl_slen un9 (a := p_s) rfl rfl (sd rfl (yl_leq rfl rfl rfl (sM rfl (bcase (decide ((p_s.length : Int) ≤ 24)) (fun hb3 => ?_) (fun hb3 => ?_))))))
 ·have hb3p := dec_t hb3
  refine sy rfl rfl hb3 (yM rfl rfl (sy rfl rfl hb3 (yC en53 rfl (oc rfl (oc rfl oz)) (Cal.mono (c_s_l3Bytes p_s ([46, 45, 44, 95] : Str) o1 (okS.lit rfl)) ?_))))
  rintro v5 w4 ⟨rfl, hE6⟩
  refine sd rfl (yl_pick_t rfl rfl hb3 rfl (sA rfl (dn (CW.ret (rr rfl (.cons rfl .nil) ?_)))))
  have hM7 : (s_l3Val p_s) = ((s_l3Bytes p_s ([46, 45, 44, 95] : Str))) := by simp only [s_l3Val, hb3, cL]
  rw [hM7]
  exact ⟨rfl, (Ex.trans (Ex.refl w) hE6)⟩
 ·have hb3p := dec_f hb3
  refine sz rfl rfl hb3 (sz rfl rfl hb3 (sd rfl (yl_pick_f rfl rfl hb3 rfl (sA rfl (dn (CW.ret (rr rfl (.cons rfl .nil) ?_)))))))
  have hM9 : (s_l3Val p_s) = (false) := by simp only [s_l3Val, hb3, cL]
  rw [hM9]
  exact ⟨rfl, (Ex.refl w)⟩
theorem c_s_l3Write {w : World} (p_key : Str) (p_val : Str) (p_gone : Bool) (o1 : okS p_key) (o2 : okS p_val) : Cal Try.prog 47 #[.string (bs (p_key)), .string (bs (p_val)), .bool (p_gone)] w fun v w' => v = .bool ((s_l3Write p_key p_val p_gone)) ∧ Ex w w' := by
 refine Cal.of func47 rfl ntmps47 rfl (cR (sA rfl (dn (cR (sM rfl ?_)))))
 refine sd rfl (yC en48 rfl (oc rfl oz) (Cal.mono (c_s_l3Key p_key o1) ?_))
 rintro v6 w5 ⟨rfl, hE7⟩
 refine sM rfl (bcase (s_l3Key p_key) (fun hb8 => ?_) (fun hb8 => ?_))
 ·refine sy rfl rfl hb8 (yM rfl rfl (sy rfl rfl hb8 (yC en52 rfl (oc rfl oz) (Cal.mono (c_s_l3Val p_val o2) ?_))))
  rintro v10 w9 ⟨rfl, hE11⟩
  refine sd rfl (yl_pick_t rfl rfl hb8 rfl (sM rfl (bcase (s_l3Val p_val) (fun hb12 => ?_) (fun hb12 => ?_))))
  ·refine sy rfl rfl hb12 (yM rfl rfl (sy rfl rfl hb12 (yl_not rfl rfl (sy rfl rfl hb12 (yM rfl rfl (bcase (p_gone) (fun hb13 => ?_) (fun hb13 => ?_)))))))
   ·refine sy rfl rfl (not_t hb13) (yM rfl rfl (sy rfl rfl (not_t hb13) (yl_seql (a := p_val) (b := ([] : Str)) rfl rfl rfl (sy rfl rfl hb12 (yl_pick_f rfl rfl (not_t hb13) rfl (sd rfl (yl_pick_t rfl rfl hb12 rfl (sA rfl (dn (CW.ret (rr rfl (.cons rfl .nil) ?_)))))))))))
    have hM14 : (s_l3Write p_key p_val p_gone) = (p_val == ([] : Str)) := by simp only [s_l3Write, hb8, hb12, hb13, cL]
    rw [hM14]
    exact ⟨rfl, (Ex.trans (Ex.trans (Ex.refl w) hE7) hE11)⟩
   ·refine sz rfl rfl (not_f hb13) (sz rfl rfl (not_f hb13) (sy rfl rfl hb12 (yl_pick_t rfl rfl (not_f hb13) rfl (sd rfl (yl_pick_t rfl rfl hb12 rfl (sA rfl (dn (CW.ret (rr rfl (.cons rfl .nil) ?_)))))))))
    have hM17 : (s_l3Write p_key p_val p_gone) = (true) := by simp only [s_l3Write, hb8, hb12, hb13, cL]
    rw [hM17]
    exact ⟨rfl, (Ex.trans (Ex.trans (Ex.refl w) hE7) hE11)⟩
  ·refine sz rfl rfl hb12 (sz rfl rfl hb12 (sz rfl rfl hb12 (sq rfl rfl (sq rfl rfl (sz rfl rfl hb12 (sd rfl (yl_pick_f rfl rfl hb12 rfl (sA rfl (SeqR.done ?_)))))))))
   refine tn (CW.ret (rr rfl (.cons rfl .nil) ?_))
   have hM20 : (s_l3Write p_key p_val p_gone) = (false) := by simp only [s_l3Write, hb8, hb12, cL]
   rw [hM20]
   exact ⟨rfl, (Ex.trans (Ex.trans (Ex.refl w) hE7) hE11)⟩
 ·refine sz rfl rfl hb8 (sz rfl rfl hb8 (sd rfl (yl_pick_f rfl rfl hb8 rfl (sM rfl (sz rfl rfl rfl (sz rfl rfl rfl (sz rfl rfl rfl (sq rfl rfl (sq rfl rfl ?_)))))))))
  refine sz rfl rfl rfl (sd rfl (yl_pick_f rfl rfl rfl rfl (sA rfl (dn (CW.ret (rr rfl (.cons rfl .nil) ?_))))))
  have hM23 : (s_l3Write p_key p_val p_gone) = (false) := by simp only [s_l3Write, hb8, cL]
  rw [hM23]
  exact ⟨rfl, (Ex.trans (Ex.refl w) hE7)⟩
theorem c_s_l3Cell {A1 : Option Addr} {c1 : Nat} {w : World} (p_c : DCell) (h1 : RdS w (Iv 0 w.heap.size) (RF e_Ver) 3 A1 p_c.Vers.length c1 p_c.Vers) (o2 : ok_Cell p_c) : Cal Try.prog 37 #[.agg #[.string (bs (p_c.Key)), .slice A1 p_c.Vers.length c1]] w fun v w' => v = .bool ((s_l3Cell p_c)) ∧ Ex w w' := by
 have hol3 : p_c.Key.length ≤ 1073741824 := o2.1
 have hol4 := o2.2.1
 refine Cal.of func37 rfl ntmps37 rfl (cR (sd rfl (yl_box rfl rfl rfl ?_)))
 intro b5 w6 hs7 hz8 hB9 hE10
 refine sA rfl (dn (CW.seq (cR (sd rfl (yl_fieldAddr fd44_1 rfl rfl (sd rfl (yl_load1 ty42 rfl rfl ((hB9.cell 1).trans rfl) (sd rfl (yL un42 rfl rfl ?_)))))))))
 refine sM rfl (dn (CW.block (CW.loop (fun m39 L40 w41 => ∃ (k11 : Nat), m39 = p_c.Vers.length - k11 ∧ k11 ≤ p_c.Vers.length ∧ w6.heap.size ≤ w41.heap.size ∧ lkp L40 1 = some (.pointer (some ⟨b5, 0, none⟩)) ∧ lkp L40 6 = some (.slice A1 p_c.Vers.length c1) ∧ lkp L40 7 = some (.int .i64 ((p_c.Vers.length : Int))) ∧ lkp L40 8 = some (.int .i64 ((k11 : Int))) ∧ Box w41 b5 44 [.string (bs (p_c.Key)), .slice A1 p_c.Vers.length c1] ∧ RdS w41 (Iv 0 w.heap.size) (RF e_Ver) 3 A1 p_c.Vers.length c1 p_c.Vers ∧ Ex w w41 ∧ loopM (B_s_l3Cell_0 p_c) (p_c.Vers.length - k11) k11 () = loopM (B_s_l3Cell_0 p_c) (p_c.Vers.length - 0) 0 ()) (p_c.Vers.length - 0) ?_ ?_)))
 ·exact ⟨0, rfl, oM, Nat.le_refl _, rfl, rfl, rfl, rfl, hB9, (RdS.ex good_Ver h1 hE10), (Ex.trans (Ex.refl w) hE10), rfl⟩
 ·rintro m44 L45 w46 ⟨k11, rfl, hk47, hsz49, hl50, hl51, hl52, hl53, hf54, hf55, hf56, hI48⟩
  refine CW.sub (Sub.cons hl50 (Sub.cons hl51 (Sub.cons hl52 (Sub.cons hl53 (Sub.nil _))))) ?_
  have hf54z := Box.lt hf54
  have hf56z := Ex.size hf56
  have hbg57 := RdS.big hf55
  rcases Nat.lt_or_ge k11 p_c.Vers.length with hlt58 | hlt58
  ·refine cR (sd rfl (yl_lss rfl rfl rfl (dn (CW.seq (CW.cond_t rfl (lt_t hlt58) (CW.skip (tn ?_)))))))
   refine CW.seq (CW.block (cR (sM rfl ?_)))
   obtain ⟨eb59, eo59, _, eA59, _, ebl59, _, eR59, eC59⟩ := RdS.aD hf55 d_Ver (i := k11)
   obtain rfl := eR59
   have eC59 : Cells w46 eb59 (eo59 + k11 * 3) [.int .i64 ((p_c.Vers.getD k11 d_Ver).Time), .string (bs ((p_c.Vers.getD k11 d_Ver).Val)), .bool ((p_c.Vers.getD k11 d_Ver).Gone)] := eC59
   refine sd rfl (yl_ixN un42 ty68 rfl rfl rfl eA59 (sd rfl (yl_loadN ty68 rfl rfl eC59 rfl (sd rfl (yB ty68 (cs := [.int .i64 (0), .string (bs (([] : Str))), .bool (false)]) rfl rfl ?_)))))
   intro b60 w61 hs62 hz63 hB64 hE65
   refine sA rfl (SeqR.u rfl rfl (yl_store (vs := [.int .i64 ((p_c.Vers.getD k11 d_Ver).Time), .string (bs ((p_c.Vers.getD k11 d_Ver).Val)), .bool ((p_c.Vers.getD k11 d_Ver).Gone)]) ty68 rfl rfl rfl rfl rfl rfl hB64 (nb rfl) ?_))
   intro w66 hB67 hO68
   have hB67 : Box w66 b60 68 [.int .i64 ((p_c.Vers.getD k11 d_Ver).Time), .string (bs ((p_c.Vers.getD k11 d_Ver).Val)), .bool ((p_c.Vers.getD k11 d_Ver).Gone)] := hB67
   have hO68z := hO68.size
   refine dn (CW.seq (bcase (s_l3Time ((p_c.Vers.getD k11 d_Ver).Time)) (fun hb70 => ?_) (fun hb70 => ?_)))
   ·refine bcase (s_l3Write p_c.Key ((p_c.Vers.getD k11 d_Ver).Val) ((p_c.Vers.getD k11 d_Ver).Gone)) (fun hb75 => ?_) (fun hb75 => ?_)
    ·refine bcase (decide (0 < (k11 : Int))) (fun hb80 => ?_) (fun hb80 => ?_)
     ·have hb80p := dec_t hb80
      have q83 := Box.only (Box.ex hf54 hE65) hO68 oM
      have q86 := RdS.only good_Ver (RdS.ex good_Ver hf55 hE65) hO68 (by simp only [Iv]; omega)
      obtain ⟨eb87, eo87, _, eA87, _, ebl87, _, eR87, eC87⟩ := RdS.atD q86 d_Ver (i := (IntKind.wrap .i64 ((k11 : Int) - 1)).toNat) Bo
      obtain rfl := eR87
      have eC87 : Cells w66 eb87 (eo87 + ((IntKind.wrap .i64 ((k11 : Int) - 1)).toNat) * 3) [.int .i64 ((p_c.Vers.getD ((IntKind.wrap .i64 ((k11 : Int) - 1)).toNat) d_Ver).Time), .string (bs ((p_c.Vers.getD ((IntKind.wrap .i64 ((k11 : Int) - 1)).toNat) d_Ver).Val)), .bool ((p_c.Vers.getD ((IntKind.wrap .i64 ((k11 : Int) - 1)).toNat) d_Ver).Gone)] := eC87
      refine drI 30 [.pointer (some ⟨b60, 0 + 0, none⟩), .int .i64 ((p_c.Vers.getD k11 d_Ver).Time), .bool ((s_l3Time ((p_c.Vers.getD k11 d_Ver).Time))), .bool (!(s_l3Time ((p_c.Vers.getD k11 d_Ver).Time))), .bool (!(s_l3Time ((p_c.Vers.getD k11 d_Ver).Time))), .pointer (some ⟨b5, 0 + 0, none⟩), .string (bs (p_c.Key)), .pointer (some ⟨b60, 0 + 1, none⟩), .string (bs ((p_c.Vers.getD k11 d_Ver).Val)), .pointer (some ⟨b60, 0 + 2, none⟩), .bool ((p_c.Vers.getD k11 d_Ver).Gone), .bool ((s_l3Write p_c.Key ((p_c.Vers.getD k11 d_Ver).Val) ((p_c.Vers.getD k11 d_Ver).Gone))), .bool (!(s_l3Write p_c.Key ((p_c.Vers.getD k11 d_Ver).Val) ((p_c.Vers.getD k11 d_Ver).Gone))), .bool (!(s_l3Write p_c.Key ((p_c.Vers.getD k11 d_Ver).Val) ((p_c.Vers.getD k11 d_Ver).Gone))), .bool (!(s_l3Write p_c.Key ((p_c.Vers.getD k11 d_Ver).Val) ((p_c.Vers.getD k11 d_Ver).Gone))), .int .i64 ((k11 : Int)), .bool (decide (0 < (k11 : Int))), .bool (decide (0 < (k11 : Int))), .pointer (some ⟨b5, 0 + 1, none⟩), .slice A1 p_c.Vers.length c1, .int .i64 ((k11 : Int)), .int .i64 (IntKind.wrap .i64 ((k11 : Int) - 1)), .pointer (some ⟨eb87, eo87 + ((IntKind.wrap .i64 ((k11 : Int) - 1)).toNat) * 3, none⟩), .pointer (some ⟨eb87, eo87 + ((IntKind.wrap .i64 ((k11 : Int) - 1)).toNat) * 3 + 0, none⟩), .int .i64 ((p_c.Vers.getD ((IntKind.wrap .i64 ((k11 : Int) - 1)).toNat) d_Ver).Time), .pointer (some ⟨b60, 0 + 0, none⟩), .int .i64 ((p_c.Vers.getD k11 d_Ver).Time), .bool (decide (((p_c.Vers.getD k11 d_Ver).Time) ≤ ((p_c.Vers.getD ((IntKind.wrap .i64 ((k11 : Int) - 1)).toNat) d_Ver).Time))), .bool (decide (((p_c.Vers.getD k11 d_Ver).Time) ≤ ((p_c.Vers.getD ((IntKind.wrap .i64 ((k11 : Int) - 1)).toNat) d_Ver).Time))), .bool (decide (((p_c.Vers.getD k11 d_Ver).Time) ≤ ((p_c.Vers.getD ((IntKind.wrap .i64 ((k11 : Int) - 1)).toNat) d_Ver).Time)))] Try.follows rfl ⟨?_, ?_, ?_, ?_, ?_, ?_, ?_, ?_, ?_, ?_, ?_, ?_, ?_, ?_, ?_, ?_, ?_, ?_, ?_, ?_, ?_, ?_, ?_, ?_, ?_, ?_, ?_, ?_, ?_, ?_, trivial⟩ ?_
      ·exact oI rfl fun h => yl_fieldAddr fd68_0 rfl (h.old 4 _ rfl rfl) kI
      ·exact oI rfl fun h => yl_load1 ty3 rfl (h.dt 0 13 rfl rfl rfl) (((Box.ex hB67 h.ex).cell 0).trans rfl) kI
      ·intro L99 w100 hi101
       exact OpR.op' rfl (yC en46 rfl (oc (hi101.dt 1 14 rfl rfl rfl) oz) (Cal.mono (c_s_l3Time ((p_c.Vers.getD k11 d_Ver).Time)) fun _ _ h => h))
      ·exact oI rfl fun h => yl_not rfl (h.dt 2 15 rfl rfl rfl) kI
      ·exact oI rfl fun h => yM rfl (h.dt 3 16 rfl rfl rfl) kI
      ·exact oW rfl rfl rfl rfl (not_t hb70) fun h => yl_fieldAddr fd44_0 rfl (h.old 1 _ rfl rfl) kI
      ·exact oW rfl rfl rfl rfl (not_t hb70) fun h => yl_load1 ty9 rfl (h.dt 5 18 rfl rfl rfl) (((Box.ex q83 h.ex).cell 0).trans rfl) kI
      ·exact oW rfl rfl rfl rfl (not_t hb70) fun h => yl_fieldAddr fd68_1 rfl (h.old 4 _ rfl rfl) kI
      ·exact oW rfl rfl rfl rfl (not_t hb70) fun h => yl_load1 ty9 rfl (h.dt 7 20 rfl rfl rfl) (((Box.ex hB67 h.ex).cell 1).trans rfl) kI
      ·exact oW rfl rfl rfl rfl (not_t hb70) fun h => yl_fieldAddr fd68_2 rfl (h.old 4 _ rfl rfl) kI
      ·exact oW rfl rfl rfl rfl (not_t hb70) fun h => yl_load1 ty4 rfl (h.dt 9 22 rfl rfl rfl) (((Box.ex hB67 h.ex).cell 2).trans rfl) kI
      ·intro L156 w157 hi158
       exact OpR.want rfl rfl (hi158.dt 4 17 rfl rfl rfl) (not_t hb70) (yC en47 rfl (oc (hi158.dt 6 19 rfl rfl rfl) (oc (hi158.dt 8 21 rfl rfl rfl) (oc (hi158.dt 10 23 rfl rfl rfl) oz))) (Cal.mono (c_s_l3Write p_c.Key ((p_c.Vers.getD k11 d_Ver).Val) ((p_c.Vers.getD k11 d_Ver).Gone) o2.1 (okL.getD o2.2 ok_d_Ver _)) fun _ _ h => h))
      ·exact oW rfl rfl rfl rfl (not_t hb70) fun h => yl_not rfl (h.dt 11 24 rfl rfl rfl) kI
      ·exact oI rfl fun h => yl_pick_f rfl (h.dt 4 17 rfl rfl rfl) (not_t hb70) (h.dt 12 25 rfl rfl rfl) kI
      ·exact oI rfl fun h => yM rfl (h.dt 13 26 rfl rfl rfl) kI
      ·exact oW rfl rfl rfl rfl (not_t hb75) fun h => yM rfl (h.old 3 _ rfl rfl) kI
      ·exact oW rfl rfl rfl rfl (not_t hb75) fun h => yl_gtr rfl (h.dt 15 28 rfl rfl rfl) rfl kI
      ·exact oW rfl rfl rfl rfl (not_t hb75) fun h => yM rfl (h.dt 16 29 rfl rfl rfl) kI
      ·exact oW rfl rfl rfl rfl hb80 fun h => yl_fieldAddr fd44_1 rfl (h.old 1 _ rfl rfl) kI
      ·exact oW rfl rfl rfl rfl hb80 fun h => yl_load1 ty42 rfl (h.dt 18 31 rfl rfl rfl) (((Box.ex q83 h.ex).cell 1).trans rfl) kI
      ·exact oW rfl rfl rfl rfl hb80 fun h => yM rfl (h.old 3 _ rfl rfl) kI
      ·exact oW rfl rfl rfl rfl hb80 fun h => yl_sub rfl (h.dt 20 33 rfl rfl rfl) rfl kI
      ·intro L227 w228 hi229
       have hE230 := hi229.ex
       have hE230z := Ex.size hE230
       exact OpR.want rfl rfl (hi229.dt 17 30 rfl rfl rfl) hb80 (Yl.sameI (yl_indexAddr un42 ty68 rfl (hi229.dt 19 32 rfl rfl rfl) (hi229.dt 21 34 rfl rfl rfl) eA87 Bo Bo kI))
      ·exact oW rfl rfl rfl rfl hb80 fun h => yl_fieldAddr fd68_0 rfl (h.dt 22 35 rfl rfl rfl) kI
      ·exact oW rfl rfl rfl rfl hb80 fun h => yl_load1 ty3 rfl (h.dt 23 36 rfl rfl rfl) ((Cells.ex eC87 h.ex) 0 _ rfl) kI
      ·exact oW rfl rfl rfl rfl hb80 fun h => yl_fieldAddr fd68_0 rfl (h.old 4 _ rfl rfl) kI
      ·exact oW rfl rfl rfl rfl hb80 fun h => yl_load1 ty3 rfl (h.dt 25 38 rfl rfl rfl) (((Box.ex hB67 h.ex).cell 0).trans rfl) kI
      ·exact oW rfl rfl rfl rfl hb80 fun h => yl_geq rfl (h.dt 24 37 rfl rfl rfl) (h.dt 26 39 rfl rfl rfl) kI
      ·exact oW rfl rfl rfl rfl (not_t hb75) fun h => yl_pick_t rfl (h.dt 17 30 rfl rfl rfl) hb80 (h.dt 27 40 rfl rfl rfl) kI
      ·exact oI rfl fun h => yl_pick_f rfl (h.dt 14 27 rfl rfl rfl) (not_t hb75) (h.dt 28 41 rfl rfl rfl) kI
      ·intro fl283 fh284 L280 w281 hp282
       have hE285 := hp282.ex
       have hE285z := Ex.size hE285
       refine dn (CW.sub (sC 1 (hp282.old 1 _ rfl rfl) (sC 6 (hp282.old 6 _ rfl rfl) (sC 7 (hp282.old 7 _ rfl rfl) (sC 8 (hp282.old 8 _ rfl rfl) (sC 18 (hp282.nt 5 18 rfl rfl rfl) (sC 19 (hp282.nt 6 19 rfl rfl rfl) (sC 20 (hp282.nt 7 20 rfl rfl rfl) (sC 21 (hp282.nt 8 21 rfl rfl rfl) (sC 22 (hp282.nt 9 22 rfl rfl rfl) (sC 23 (hp282.nt 10 23 rfl rfl rfl) (sC 24 (hp282.nt 11 24 rfl rfl rfl) (sC 25 (hp282.nt 12 25 rfl rfl rfl) (sC 28 (hp282.nt 15 28 rfl rfl rfl) (sC 29 (hp282.nt 16 29 rfl rfl rfl) (sC 30 (hp282.nt 17 30 rfl rfl rfl) (sC 31 (hp282.nt 18 31 rfl rfl rfl) (sC 32 (hp282.nt 19 32 rfl rfl rfl) (sC 33 (hp282.nt 20 33 rfl rfl rfl) (sC 34 (hp282.nt 21 34 rfl rfl rfl) (sC 35 (hp282.nt 22 35 rfl rfl rfl) (sC 36 (hp282.nt 23 36 rfl rfl rfl) (sC 37 (hp282.nt 24 37 rfl rfl rfl) (sC 38 (hp282.nt 25 38 rfl rfl rfl) (sC 39 (hp282.nt 26 39 rfl rfl rfl) (sC 40 (hp282.nt 27 40 rfl rfl rfl) (sC 41 (hp282.nt 28 41 rfl rfl rfl) (sC 42 (hp282.nt 29 42 rfl rfl rfl) (Sub.nil _)))))))))))))))))))))))))))) (bcase (decide (((p_c.Vers.getD k11 d_Ver).Time) ≤ ((p_c.Vers.getD ((IntKind.wrap .i64 ((k11 : Int) - 1)).toNat) d_Ver).Time))) (fun hb313 => ?_) (fun hb313 => ?_)))
       ·have hb313p := dec_t hb313
        refine CW.cond_t rfl hb313 (cR (sA rfl (dn (CW.ret (br (tr ?_))))))
        refine tr ?_
        have hB315 : B_s_l3Cell_0 p_c k11 () = .ret false := by simp only [B_s_l3Cell_0, hb70, hb75, hb80, hb313, cL]
        have hL314 : loopM (B_s_l3Cell_0 p_c) (p_c.Vers.length - 0) 0 () = .ret false := hI48.symm.trans (loopM.ret hlt58 hB315)
        refine br (tr (rr rfl (.cons rfl .nil) ?_))
        have hM316 : (s_l3Cell p_c) = (false) := by simp only [s_l3Cell, hb70, hb75, hb80, hb313, hL314, cL]
        rw [hM316]
        exact ⟨rfl, (Ex.trans (Below.only (Ex.trans hf56 hE65) hO68 oM) hE285)⟩
       ·have hb313p := dec_f hb313
        refine CW.cond_f rfl hb313 (CW.skip (bn (tn (CW.region (sd rfl (yl_inc rfl rfl rfl oM (sM rfl (dn ?_))))))))
        have hB320 : B_s_l3Cell_0 p_c k11 () = .cont () := by simp only [B_s_l3Cell_0, hb70, hb75, hb80, hb313, cL]
        exact ⟨p_c.Vers.length - (k11 + 1), oM, k11 + 1, rfl, hlt58, oM, rfl, rfl, rfl, rfl, (Box.ex q83 hE285), (RdS.ex good_Ver q86 hE285), (Ex.trans (Below.only (Ex.trans hf56 hE65) hO68 oM) hE285), (loopM.cont hlt58 hB320).symm.trans hI48⟩
     ·have hb80p := dec_f hb80
      have q328 := Box.only (Box.ex hf54 hE65) hO68 oM
      refine drI 30 [.pointer (some ⟨b60, 0 + 0, none⟩), .int .i64 ((p_c.Vers.getD k11 d_Ver).Time), .bool ((s_l3Time ((p_c.Vers.getD k11 d_Ver).Time))), .bool (!(s_l3Time ((p_c.Vers.getD k11 d_Ver).Time))), .bool (!(s_l3Time ((p_c.Vers.getD k11 d_Ver).Time))), .pointer (some ⟨b5, 0 + 0, none⟩), .string (bs (p_c.Key)), .pointer (some ⟨b60, 0 + 1, none⟩), .string (bs ((p_c.Vers.getD k11 d_Ver).Val)), .pointer (some ⟨b60, 0 + 2, none⟩), .bool ((p_c.Vers.getD k11 d_Ver).Gone), .bool ((s_l3Write p_c.Key ((p_c.Vers.getD k11 d_Ver).Val) ((p_c.Vers.getD k11 d_Ver).Gone))), .bool (!(s_l3Write p_c.Key ((p_c.Vers.getD k11 d_Ver).Val) ((p_c.Vers.getD k11 d_Ver).Gone))), .bool (!(s_l3Write p_c.Key ((p_c.Vers.getD k11 d_Ver).Val) ((p_c.Vers.getD k11 d_Ver).Gone))), .bool (!(s_l3Write p_c.Key ((p_c.Vers.getD k11 d_Ver).Val) ((p_c.Vers.getD k11 d_Ver).Gone))), .int .i64 ((k11 : Int)), .bool (decide (0 < (k11 : Int))), .bool (decide (0 < (k11 : Int))), undef, undef, undef, undef, undef, undef, undef, undef, undef, undef, .bool (false), .bool (false)] Try.follows rfl ⟨?_, ?_, ?_, ?_, ?_, ?_, ?_, ?_, ?_, ?_, ?_, ?_, ?_, ?_, ?_, ?_, ?_, ?_, ?_, ?_, ?_, ?_, ?_, ?_, ?_, ?_, ?_, ?_, ?_, ?_, trivial⟩ ?_
      ·exact oI rfl fun h => yl_fieldAddr fd68_0 rfl (h.old 4 _ rfl rfl) kI
      ·exact oI rfl fun h => yl_load1 ty3 rfl (h.dt 0 13 rfl rfl rfl) (((Box.ex hB67 h.ex).cell 0).trans rfl) kI
      ·intro L341 w342 hi343
       exact OpR.op' rfl (yC en46 rfl (oc (hi343.dt 1 14 rfl rfl rfl) oz) (Cal.mono (c_s_l3Time ((p_c.Vers.getD k11 d_Ver).Time)) fun _ _ h => h))
      ·exact oI rfl fun h => yl_not rfl (h.dt 2 15 rfl rfl rfl) kI
      ·exact oI rfl fun h => yM rfl (h.dt 3 16 rfl rfl rfl) kI
      ·exact oW rfl rfl rfl rfl (not_t hb70) fun h => yl_fieldAddr fd44_0 rfl (h.old 1 _ rfl rfl) kI
      ·exact oW rfl rfl rfl rfl (not_t hb70) fun h => yl_load1 ty9 rfl (h.dt 5 18 rfl rfl rfl) (((Box.ex q328 h.ex).cell 0).trans rfl) kI
      ·exact oW rfl rfl rfl rfl (not_t hb70) fun h => yl_fieldAddr fd68_1 rfl (h.old 4 _ rfl rfl) kI
      ·exact oW rfl rfl rfl rfl (not_t hb70) fun h => yl_load1 ty9 rfl (h.dt 7 20 rfl rfl rfl) (((Box.ex hB67 h.ex).cell 1).trans rfl) kI
      ·exact oW rfl rfl rfl rfl (not_t hb70) fun h => yl_fieldAddr fd68_2 rfl (h.old 4 _ rfl rfl) kI
      ·exact oW rfl rfl rfl rfl (not_t hb70) fun h => yl_load1 ty4 rfl (h.dt 9 22 rfl rfl rfl) (((Box.ex hB67 h.ex).cell 2).trans rfl) kI
      ·intro L398 w399 hi400
       exact OpR.want rfl rfl (hi400.dt 4 17 rfl rfl rfl) (not_t hb70) (yC en47 rfl (oc (hi400.dt 6 19 rfl rfl rfl) (oc (hi400.dt 8 21 rfl rfl rfl) (oc (hi400.dt 10 23 rfl rfl rfl) oz))) (Cal.mono (c_s_l3Write p_c.Key ((p_c.Vers.getD k11 d_Ver).Val) ((p_c.Vers.getD k11 d_Ver).Gone) o2.1 (okL.getD o2.2 ok_d_Ver _)) fun _ _ h => h))
      ·exact oW rfl rfl rfl rfl (not_t hb70) fun h => yl_not rfl (h.dt 11 24 rfl rfl rfl) kI
      ·exact oI rfl fun h => yl_pick_f rfl (h.dt 4 17 rfl rfl rfl) (not_t hb70) (h.dt 12 25 rfl rfl rfl) kI
      ·exact oI rfl fun h => yM rfl (h.dt 13 26 rfl rfl rfl) kI
      ·exact oW rfl rfl rfl rfl (not_t hb75) fun h => yM rfl (h.old 3 _ rfl rfl) kI
      ·exact oW rfl rfl rfl rfl (not_t hb75) fun h => yl_gtr rfl (h.dt 15 28 rfl rfl rfl) rfl kI
      ·exact oW rfl rfl rfl rfl (not_t hb75) fun h => yM rfl (h.dt 16 29 rfl rfl rfl) kI
      ·exact oS rfl rfl rfl rfl rfl hb80
      ·exact oS rfl rfl rfl rfl rfl hb80
      ·exact oS rfl rfl rfl rfl rfl hb80
      ·exact oS rfl rfl rfl rfl rfl hb80
      ·exact oS rfl rfl rfl rfl rfl hb80
      ·exact oS rfl rfl rfl rfl rfl hb80
      ·exact oS rfl rfl rfl rfl rfl hb80
      ·exact oS rfl rfl rfl rfl rfl hb80
      ·exact oS rfl rfl rfl rfl rfl hb80
      ·exact oS rfl rfl rfl rfl rfl hb80
      ·exact oW rfl rfl rfl rfl (not_t hb75) fun h => yl_pick_f rfl (h.dt 17 30 rfl rfl rfl) hb80 rfl kI
      ·exact oI rfl fun h => yl_pick_f rfl (h.dt 14 27 rfl rfl rfl) (not_t hb75) (h.dt 28 41 rfl rfl rfl) kI
      ·intro fl510 fh511 L507 w508 hp509
       have hE512 := hp509.ex
       have hE512z := Ex.size hE512
       refine dn (CW.sub (sC 1 (hp509.old 1 _ rfl rfl) (sC 6 (hp509.old 6 _ rfl rfl) (sC 7 (hp509.old 7 _ rfl rfl) (sC 8 (hp509.old 8 _ rfl rfl) (sC 18 (hp509.nt 5 18 rfl rfl rfl) (sC 19 (hp509.nt 6 19 rfl rfl rfl) (sC 20 (hp509.nt 7 20 rfl rfl rfl) (sC 21 (hp509.nt 8 21 rfl rfl rfl) (sC 22 (hp509.nt 9 22 rfl rfl rfl) (sC 23 (hp509.nt 10 23 rfl rfl rfl) (sC 24 (hp509.nt 11 24 rfl rfl rfl) (sC 25 (hp509.nt 12 25 rfl rfl rfl) (sC 28 (hp509.nt 15 28 rfl rfl rfl) (sC 29 (hp509.nt 16 29 rfl rfl rfl) (sC 30 (hp509.nt 17 30 rfl rfl rfl) (sC 31 (hp509.nt 18 31 rfl rfl rfl) (sC 32 (hp509.nt 19 32 rfl rfl rfl) (sC 33 (hp509.nt 20 33 rfl rfl rfl) (sC 34 (hp509.nt 21 34 rfl rfl rfl) (sC 35 (hp509.nt 22 35 rfl rfl rfl) (sC 36 (hp509.nt 23 36 rfl rfl rfl) (sC 37 (hp509.nt 24 37 rfl rfl rfl) (sC 38 (hp509.nt 25 38 rfl rfl rfl) (sC 39 (hp509.nt 26 39 rfl rfl rfl) (sC 40 (hp509.nt 27 40 rfl rfl rfl) (sC 41 (hp509.nt 28 41 rfl rfl rfl) (sC 42 (hp509.nt 29 42 rfl rfl rfl) (Sub.nil _)))))))))))))))))))))))))))) (CW.cond_f rfl rfl (CW.skip (bn (tn (CW.region (sd rfl (yl_inc rfl rfl rfl oM ?_))))))))
       refine sM rfl (dn ?_)
       have hB540 : B_s_l3Cell_0 p_c k11 () = .cont () := by simp only [B_s_l3Cell_0, hb70, hb75, hb80, cL]
       exact ⟨p_c.Vers.length - (k11 + 1), oM, k11 + 1, rfl, hlt58, oM, rfl, rfl, rfl, rfl, (Box.ex q328 hE512), (RdS.ex good_Ver (RdS.only good_Ver (RdS.ex good_Ver hf55 hE65) hO68 (by simp only [Iv]; omega)) hE512), (Ex.trans (Below.only (Ex.trans hf56 hE65) hO68 oM) hE512), (loopM.cont hlt58 hB540).symm.trans hI48⟩
    ·refine drI 30 [.pointer (some ⟨b60, 0 + 0, none⟩), .int .i64 ((p_c.Vers.getD k11 d_Ver).Time), .bool ((s_l3Time ((p_c.Vers.getD k11 d_Ver).Time))), .bool (!(s_l3Time ((p_c.Vers.getD k11 d_Ver).Time))), .bool (!(s_l3Time ((p_c.Vers.getD k11 d_Ver).Time))), .pointer (some ⟨b5, 0 + 0, none⟩), .string (bs (p_c.Key)), .pointer (some ⟨b60, 0 + 1, none⟩), .string (bs ((p_c.Vers.getD k11 d_Ver).Val)), .pointer (some ⟨b60, 0 + 2, none⟩), .bool ((p_c.Vers.getD k11 d_Ver).Gone), .bool ((s_l3Write p_c.Key ((p_c.Vers.getD k11 d_Ver).Val) ((p_c.Vers.getD k11 d_Ver).Gone))), .bool (!(s_l3Write p_c.Key ((p_c.Vers.getD k11 d_Ver).Val) ((p_c.Vers.getD k11 d_Ver).Gone))), .bool (!(s_l3Write p_c.Key ((p_c.Vers.getD k11 d_Ver).Val) ((p_c.Vers.getD k11 d_Ver).Gone))), .bool (!(s_l3Write p_c.Key ((p_c.Vers.getD k11 d_Ver).Val) ((p_c.Vers.getD k11 d_Ver).Gone))), undef, undef, undef, undef, undef, undef, undef, undef, undef, undef, undef, undef, undef, undef, .bool (true)] Try.follows rfl ⟨?_, ?_, ?_, ?_, ?_, ?_, ?_, ?_, ?_, ?_, ?_, ?_, ?_, ?_, ?_, ?_, ?_, ?_, ?_, ?_, ?_, ?_, ?_, ?_, ?_, ?_, ?_, ?_, ?_, ?_, trivial⟩ ?_
     ·exact oI rfl fun h => yl_fieldAddr fd68_0 rfl (h.old 4 _ rfl rfl) kI
     ·exact oI rfl fun h => yl_load1 ty3 rfl (h.dt 0 13 rfl rfl rfl) (((Box.ex hB67 h.ex).cell 0).trans rfl) kI
     ·intro L563 w564 hi565
      exact OpR.op' rfl (yC en46 rfl (oc (hi565.dt 1 14 rfl rfl rfl) oz) (Cal.mono (c_s_l3Time ((p_c.Vers.getD k11 d_Ver).Time)) fun _ _ h => h))
     ·exact oI rfl fun h => yl_not rfl (h.dt 2 15 rfl rfl rfl) kI
     ·exact oI rfl fun h => yM rfl (h.dt 3 16 rfl rfl rfl) kI
     ·exact oW rfl rfl rfl rfl (not_t hb70) fun h => yl_fieldAddr fd44_0 rfl (h.old 1 _ rfl rfl) kI
     ·intro L587 w588 hi589
      have hE590 := hi589.ex
      have hE590z := Ex.size hE590
      exact OpR.want rfl rfl (hi589.dt 4 17 rfl rfl rfl) (not_t hb70) (Yl.sameI (yl_load1 ty9 rfl (hi589.dt 5 18 rfl rfl rfl) (((Box.ex (Box.only (Box.ex hf54 hE65) hO68 oM) hE590).cell 0).trans rfl) kI))
     ·exact oW rfl rfl rfl rfl (not_t hb70) fun h => yl_fieldAddr fd68_1 rfl (h.old 4 _ rfl rfl) kI
     ·exact oW rfl rfl rfl rfl (not_t hb70) fun h => yl_load1 ty9 rfl (h.dt 7 20 rfl rfl rfl) (((Box.ex hB67 h.ex).cell 1).trans rfl) kI
     ·exact oW rfl rfl rfl rfl (not_t hb70) fun h => yl_fieldAddr fd68_2 rfl (h.old 4 _ rfl rfl) kI
     ·exact oW rfl rfl rfl rfl (not_t hb70) fun h => yl_load1 ty4 rfl (h.dt 9 22 rfl rfl rfl) (((Box.ex hB67 h.ex).cell 2).trans rfl) kI
     ·intro L620 w621 hi622
      exact OpR.want rfl rfl (hi622.dt 4 17 rfl rfl rfl) (not_t hb70) (yC en47 rfl (oc (hi622.dt 6 19 rfl rfl rfl) (oc (hi622.dt 8 21 rfl rfl rfl) (oc (hi622.dt 10 23 rfl rfl rfl) oz))) (Cal.mono (c_s_l3Write p_c.Key ((p_c.Vers.getD k11 d_Ver).Val) ((p_c.Vers.getD k11 d_Ver).Gone) o2.1 (okL.getD o2.2 ok_d_Ver _)) fun _ _ h => h))
     ·exact oW rfl rfl rfl rfl (not_t hb70) fun h => yl_not rfl (h.dt 11 24 rfl rfl rfl) kI
     ·exact oI rfl fun h => yl_pick_f rfl (h.dt 4 17 rfl rfl rfl) (not_t hb70) (h.dt 12 25 rfl rfl rfl) kI
     ·exact oI rfl fun h => yM rfl (h.dt 13 26 rfl rfl rfl) kI
     ·exact oS rfl rfl rfl rfl rfl (not_f hb75)
     ·exact oS rfl rfl rfl rfl rfl (not_f hb75)
     ·exact oS rfl rfl rfl rfl rfl (not_f hb75)
     ·exact oU rfl rfl rfl rfl rfl
     ·exact oU rfl rfl rfl rfl rfl
     ·exact oU rfl rfl rfl rfl rfl
     ·exact oU rfl rfl rfl rfl rfl
     ·exact oU rfl rfl rfl rfl rfl
     ·exact oU rfl rfl rfl rfl rfl
     ·exact oU rfl rfl rfl rfl rfl
     ·exact oU rfl rfl rfl rfl rfl
     ·exact oU rfl rfl rfl rfl rfl
     ·exact oU rfl rfl rfl rfl rfl
     ·exact oS rfl rfl rfl rfl rfl (not_f hb75)
     ·exact oI rfl fun h => yl_pick_t rfl (h.dt 14 27 rfl rfl rfl) (not_f hb75) rfl kI
     ·intro fl727 fh728 L724 w725 hp726
      have hE729 := hp726.ex
      have hE729z := Ex.size hE729
      refine dn (CW.sub (sC 1 (hp726.old 1 _ rfl rfl) (sC 6 (hp726.old 6 _ rfl rfl) (sC 7 (hp726.old 7 _ rfl rfl) (sC 8 (hp726.old 8 _ rfl rfl) (sC 18 (hp726.nt 5 18 rfl rfl rfl) (sC 19 (hp726.nt 6 19 rfl rfl rfl) (sC 20 (hp726.nt 7 20 rfl rfl rfl) (sC 21 (hp726.nt 8 21 rfl rfl rfl) (sC 22 (hp726.nt 9 22 rfl rfl rfl) (sC 23 (hp726.nt 10 23 rfl rfl rfl) (sC 24 (hp726.nt 11 24 rfl rfl rfl) (sC 25 (hp726.nt 12 25 rfl rfl rfl) (sC 28 (hp726.nt 15 28 rfl rfl rfl) (sC 29 (hp726.nt 16 29 rfl rfl rfl) (sC 30 (hp726.nt 17 30 rfl rfl rfl) (sC 31 (hp726.nt 18 31 rfl rfl rfl) (sC 32 (hp726.nt 19 32 rfl rfl rfl) (sC 33 (hp726.nt 20 33 rfl rfl rfl) (sC 34 (hp726.nt 21 34 rfl rfl rfl) (sC 35 (hp726.nt 22 35 rfl rfl rfl) (sC 36 (hp726.nt 23 36 rfl rfl rfl) (sC 37 (hp726.nt 24 37 rfl rfl rfl) (sC 38 (hp726.nt 25 38 rfl rfl rfl) (sC 39 (hp726.nt 26 39 rfl rfl rfl) (sC 40 (hp726.nt 27 40 rfl rfl rfl) (sC 41 (hp726.nt 28 41 rfl rfl rfl) (sC 42 (hp726.nt 29 42 rfl rfl rfl) (Sub.nil _)))))))))))))))))))))))))))) (CW.cond_t rfl rfl (cR (sA rfl (dn ?_)))))
      refine CW.ret (br (tr (tr ?_)))
      have hB758 : B_s_l3Cell_0 p_c k11 () = .ret false := by simp only [B_s_l3Cell_0, hb70, hb75, cL]
      have hL757 : loopM (B_s_l3Cell_0 p_c) (p_c.Vers.length - 0) 0 () = .ret false := hI48.symm.trans (loopM.ret hlt58 hB758)
      refine br (tr (rr rfl (.cons rfl .nil) ?_))
      have hM759 : (s_l3Cell p_c) = (false) := by simp only [s_l3Cell, hb70, hb75, hL757, cL]
      rw [hM759]
      exact ⟨rfl, (Ex.trans (Below.only (Ex.trans hf56 hE65) hO68 oM) hE729)⟩
   ·refine drI 30 [.pointer (some ⟨b60, 0 + 0, none⟩), .int .i64 ((p_c.Vers.getD k11 d_Ver).Time), .bool ((s_l3Time ((p_c.Vers.getD k11 d_Ver).Time))), .bool (!(s_l3Time ((p_c.Vers.getD k11 d_Ver).Time))), .bool (!(s_l3Time ((p_c.Vers.getD k11 d_Ver).Time))), undef, undef, undef, undef, undef, undef, undef, undef, .bool (true), .bool (true), undef, undef, undef, undef, undef, undef, undef, undef, undef, undef, undef, undef, undef, undef, .bool (true)] Try.follows rfl ⟨?_, ?_, ?_, ?_, ?_, ?_, ?_, ?_, ?_, ?_, ?_, ?_, ?_, ?_, ?_, ?_, ?_, ?_, ?_, ?_, ?_, ?_, ?_, ?_, ?_, ?_, ?_, ?_, ?_, ?_, trivial⟩ ?_
    ·exact oI rfl fun h => yl_fieldAddr fd68_0 rfl (h.old 4 _ rfl rfl) kI
    ·exact oI rfl fun h => yl_load1 ty3 rfl (h.dt 0 13 rfl rfl rfl) (((Box.ex hB67 h.ex).cell 0).trans rfl) kI
    ·intro L775 w776 hi777
     exact OpR.op' rfl (yC en46 rfl (oc (hi777.dt 1 14 rfl rfl rfl) oz) (Cal.mono (c_s_l3Time ((p_c.Vers.getD k11 d_Ver).Time)) fun _ _ h => h))
    ·exact oI rfl fun h => yl_not rfl (h.dt 2 15 rfl rfl rfl) kI
    ·exact oI rfl fun h => yM rfl (h.dt 3 16 rfl rfl rfl) kI
    ·exact oS rfl rfl rfl rfl rfl (not_f hb70)
    ·exact oS rfl rfl rfl rfl rfl (not_f hb70)
    ·exact oS rfl rfl rfl rfl rfl (not_f hb70)
    ·exact oS rfl rfl rfl rfl rfl (not_f hb70)
    ·exact oS rfl rfl rfl rfl rfl (not_f hb70)
    ·exact oS rfl rfl rfl rfl rfl (not_f hb70)
    ·exact oS rfl rfl rfl rfl rfl (not_f hb70)
    ·exact oS rfl rfl rfl rfl rfl (not_f hb70)
    ·exact oI rfl fun h => yl_pick_t rfl (h.dt 4 17 rfl rfl rfl) (not_f hb70) rfl kI
    ·exact oI rfl fun h => yM rfl (h.dt 13 26 rfl rfl rfl) kI
    ·exact oS rfl rfl rfl rfl rfl rfl
    ·exact oS rfl rfl rfl rfl rfl rfl
    ·exact oS rfl rfl rfl rfl rfl rfl
    ·exact oU rfl rfl rfl rfl rfl
    ·exact oU rfl rfl rfl rfl rfl
    ·exact oU rfl rfl rfl rfl rfl
    ·exact oU rfl rfl rfl rfl rfl
    ·exact oU rfl rfl rfl rfl rfl
    ·exact oU rfl rfl rfl rfl rfl
    ·exact oU rfl rfl rfl rfl rfl
    ·exact oU rfl rfl rfl rfl rfl
    ·exact oU rfl rfl rfl rfl rfl
    ·exact oU rfl rfl rfl rfl rfl
    ·exact oS rfl rfl rfl rfl rfl rfl
    ·exact oI rfl fun h => yl_pick_t rfl (h.dt 14 27 rfl rfl rfl) rfl rfl kI
    ·intro fl923 fh924 L920 w921 hp922
     have hE925 := hp922.ex
     have hE925z := Ex.size hE925
     refine dn (CW.sub (sC 1 (hp922.old 1 _ rfl rfl) (sC 6 (hp922.old 6 _ rfl rfl) (sC 7 (hp922.old 7 _ rfl rfl) (sC 8 (hp922.old 8 _ rfl rfl) (sC 18 (hp922.nt 5 18 rfl rfl rfl) (sC 19 (hp922.nt 6 19 rfl rfl rfl) (sC 20 (hp922.nt 7 20 rfl rfl rfl) (sC 21 (hp922.nt 8 21 rfl rfl rfl) (sC 22 (hp922.nt 9 22 rfl rfl rfl) (sC 23 (hp922.nt 10 23 rfl rfl rfl) (sC 24 (hp922.nt 11 24 rfl rfl rfl) (sC 25 (hp922.nt 12 25 rfl rfl rfl) (sC 28 (hp922.nt 15 28 rfl rfl rfl) (sC 29 (hp922.nt 16 29 rfl rfl rfl) (sC 30 (hp922.nt 17 30 rfl rfl rfl) (sC 31 (hp922.nt 18 31 rfl rfl rfl) (sC 32 (hp922.nt 19 32 rfl rfl rfl) (sC 33 (hp922.nt 20 33 rfl rfl rfl) (sC 34 (hp922.nt 21 34 rfl rfl rfl) (sC 35 (hp922.nt 22 35 rfl rfl rfl) (sC 36 (hp922.nt 23 36 rfl rfl rfl) (sC 37 (hp922.nt 24 37 rfl rfl rfl) (sC 38 (hp922.nt 25 38 rfl rfl rfl) (sC 39 (hp922.nt 26 39 rfl rfl rfl) (sC 40 (hp922.nt 27 40 rfl rfl rfl) (sC 41 (hp922.nt 28 41 rfl rfl rfl) (sC 42 (hp922.nt 29 42 rfl rfl rfl) (Sub.nil _)))))))))))))))))))))))))))) (CW.cond_t rfl rfl (cR (sA rfl (dn ?_)))))
     refine CW.ret (br (tr (tr ?_)))
     have hB954 : B_s_l3Cell_0 p_c k11 () = .ret false := by simp only [B_s_l3Cell_0, hb70, cL]
     have hL953 : loopM (B_s_l3Cell_0 p_c) (p_c.Vers.length - 0) 0 () = .ret false := hI48.symm.trans (loopM.ret hlt58 hB954)
     refine br (tr (rr rfl (.cons rfl .nil) ?_))
     have hM955 : (s_l3Cell p_c) = (false) := by simp only [s_l3Cell, hb70, hL953, cL]
     rw [hM955]
     exact ⟨rfl, (Ex.trans (Below.only (Ex.trans hf56 hE65) hO68 oM) hE925)⟩
  ·refine cR (sd rfl (yl_lss rfl rfl rfl (dn (CW.seq (CW.cond_f rfl (lt_f hlt58) (CW.exit (tx ?_)))))))
   refine tx ?_
   have hL959 : loopM (B_s_l3Cell_0 p_c) (p_c.Vers.length - 0) 0 () = .done () := hI48.symm.trans (loopM.stop hlt58)
   refine bx (tn (cR (sd rfl (yl_fieldAddr fd44_0 rfl rfl (sd rfl (yl_load1 ty9 rfl rfl ((hf54.cell 0).trans rfl) (sd rfl (yC en48 rfl (oc rfl oz) (Cal.mono (c_s_l3Key p_c.Key o2.1) ?_)))))))))
   rintro v961 w960 ⟨rfl, hE962⟩
   have hE962z := Ex.size hE962
   refine sM rfl (bcase (s_l3Key p_c.Key) (fun hb963 => ?_) (fun hb963 => ?_))
   ·refine sy rfl rfl hb963 (yl_fieldAddr fd44_1 rfl rfl (sy rfl rfl hb963 (yl_load1 ty42 rfl rfl (((Box.ex hf54 hE962).cell 1).trans rfl) (sy rfl rfl hb963 (yL un42 rfl rfl (sy rfl rfl hb963 (yC en38 rfl (oc rfl (oc rfl (oc rfl oz))) (Cal.mono (c_s_l1In (p_c.Vers.length : Int) 1 16) ?_))))))))
    rintro v966 w965 ⟨rfl, hE967⟩
    have hE967z := Ex.size hE967
    refine sd rfl (yl_pick_t rfl rfl hb963 rfl (sA rfl (dn (CW.ret (rr rfl (.cons rfl .nil) ?_)))))
    have hM968 : (s_l3Cell p_c) = ((s_l1In (p_c.Vers.length : Int) 1 16)) := by simp only [s_l3Cell, hb963, hL959, cL]
    rw [hM968]
    exact ⟨rfl, (Ex.trans (Ex.trans hf56 hE962) hE967)⟩
   ·refine sz rfl rfl hb963 (sz rfl rfl hb963 (sz rfl rfl hb963 (sz rfl rfl hb963 (sd rfl (yl_pick_f rfl rfl hb963 rfl (sA rfl (dn (CW.ret ?_))))))))
    refine rr rfl (.cons rfl .nil) ?_
    have hM971 : (s_l3Cell p_c) = (false) := by simp only [s_l3Cell, hb963, hL959, cL]
    rw [hM971]
    exact ⟨rfl, (Ex.trans hf56 hE962)⟩
theorem c_s_l3Good {A1 : Option Addr} {c1 : Nat} {w : World} (p_l : List DCell) (h1 : RdS w (Iv 0 w.heap.size) R_Cell 2 A1 p_l.length c1 p_l) (o2 : (okL ok_Cell) p_l) : Cal Try.prog 26 #[.slice A1 p_l.length c1] w fun v w' => v = .bool ((s_l3Good p_l)) ∧ Ex w w' := by
 have hol3 := o2.1
 refine Cal.of func26 rfl ntmps26 rfl (cR (sA rfl (dn (CW.seq (cR ?_)))))
 refine sM rfl (sd rfl (yL un29 rfl rfl (sM rfl (dn (CW.block (CW.loop (fun m26 L27 w28 => ∃ (k4 : Nat), m26 = p_l.length - k4 ∧ k4 ≤ p_l.length ∧ w.heap.size ≤ w28.heap.size ∧ lkp L27 0 = some (.slice A1 p_l.length c1) ∧ lkp L27 5 = some (.slice A1 p_l.length c1) ∧ lkp L27 6 = some (.int .i64 ((p_l.length : Int))) ∧ lkp L27 7 = some (.int .i64 ((k4 : Int))) ∧ RdS w28 (Iv 0 w.heap.size) R_Cell 2 A1 p_l.length c1 p_l ∧ Ex w w28 ∧ loopM (B_s_l3Good_0 p_l) (p_l.length - k4) k4 () = loopM (B_s_l3Good_0 p_l) (p_l.length - 0) 0 ()) (p_l.length - 0) ?_ ?_))))))
 ·exact ⟨0, rfl, oM, Nat.le_refl _, rfl, rfl, rfl, rfl, h1, (Ex.refl w), rfl⟩
 ·rintro m29 L30 w31 ⟨k4, rfl, hk32, hsz34, hl35, hl36, hl37, hl38, hf39, hf40, hI33⟩
  refine CW.sub (Sub.cons hl35 (Sub.cons hl36 (Sub.cons hl37 (Sub.cons hl38 (Sub.nil _))))) ?_
  have hf40z := Ex.size hf40
  have hbg41 := RdS.big hf39
  rcases Nat.lt_or_ge k4 p_l.length with hlt42 | hlt42
  ·refine cR (sd rfl (yl_lss rfl rfl rfl (dn (CW.seq (CW.cond_t rfl (lt_t hlt42) (CW.skip (tn ?_)))))))
   refine CW.seq (CW.block (cR (sM rfl ?_)))
   obtain ⟨_, _, _, eA43, _, ebl43, _, eR43, eC43⟩ := RdS.aD hf39 d_Cell (i := k4)
   obtain ⟨A44, c44, rfl, h44⟩ := eR43
   refine sd rfl (yl_ixN un29 ty44 rfl rfl rfl eA43 (sd rfl (yl_loadN ty44 rfl rfl eC43 rfl (sd rfl (yB ty44 (cs := [.string (bs (([] : Str))), .slice none 0 0]) rfl rfl ?_)))))
   intro b45 w46 hs47 hz48 hB49 hE50
   refine sA rfl (SeqR.u rfl rfl (yl_store (vs := [.string (bs ((p_l.getD k4 d_Cell).Key)), .slice A44 (((p_l.getD k4 d_Cell).Vers).length) c44]) ty44 rfl rfl rfl rfl rfl rfl hB49 (nb rfl) ?_))
   intro w51 hB52 hO53
   have hB52 : Box w51 b45 44 [.string (bs ((p_l.getD k4 d_Cell).Key)), .slice A44 (((p_l.getD k4 d_Cell).Vers).length) c44] := hB52
   have hO53z := hO53.size
   refine dn (CW.seq (bcase (s_l3Cell (p_l.getD k4 d_Cell)) (fun hb57 => ?_) (fun hb57 => ?_)))
   ·refine bcase (decide (0 < (k4 : Int))) (fun hb61 => ?_) (fun hb61 => ?_)
    ·have hb61p := dec_t hb61
     have q66 := RdS.only good_Cell (RdS.ex good_Cell hf39 hE50) hO53 (by simp only [Iv]; omega)
     obtain ⟨eb67, eo67, _, eA67, _, ebl67, _, eR67, eC67⟩ := RdS.atD q66 d_Cell (i := (IntKind.wrap .i64 ((k4 : Int) - 1)).toNat) Bo
     obtain ⟨A68, c68, rfl, h68⟩ := eR67
     refine drI 18 [.agg #[.string (bs ((p_l.getD k4 d_Cell).Key)), .slice A44 (((p_l.getD k4 d_Cell).Vers).length) c44], .bool ((s_l3Cell (p_l.getD k4 d_Cell))), .bool (!(s_l3Cell (p_l.getD k4 d_Cell))), .bool (!(s_l3Cell (p_l.getD k4 d_Cell))), .int .i64 ((k4 : Int)), .bool (decide (0 < (k4 : Int))), .bool (decide (0 < (k4 : Int))), .slice A1 p_l.length c1, .int .i64 ((k4 : Int)), .int .i64 (IntKind.wrap .i64 ((k4 : Int) - 1)), .pointer (some ⟨eb67, eo67 + ((IntKind.wrap .i64 ((k4 : Int) - 1)).toNat) * 2, none⟩), .pointer (some ⟨eb67, eo67 + ((IntKind.wrap .i64 ((k4 : Int) - 1)).toNat) * 2 + 0, none⟩), .string (bs ((p_l.getD ((IntKind.wrap .i64 ((k4 : Int) - 1)).toNat) d_Cell).Key)), .pointer (some ⟨b45, 0 + 0, none⟩), .string (bs ((p_l.getD k4 d_Cell).Key)), .bool (!(sLt ((p_l.getD ((IntKind.wrap .i64 ((k4 : Int) - 1)).toNat) d_Cell).Key) ((p_l.getD k4 d_Cell).Key))), .bool (!(sLt ((p_l.getD ((IntKind.wrap .i64 ((k4 : Int) - 1)).toNat) d_Cell).Key) ((p_l.getD k4 d_Cell).Key))), .bool (!(sLt ((p_l.getD ((IntKind.wrap .i64 ((k4 : Int) - 1)).toNat) d_Cell).Key) ((p_l.getD k4 d_Cell).Key)))] Try.follows rfl ⟨?_, ?_, ?_, ?_, ?_, ?_, ?_, ?_, ?_, ?_, ?_, ?_, ?_, ?_, ?_, ?_, ?_, ?_, trivial⟩ ?_
     ·exact oI rfl fun h => yl_loadN ty44 rfl (h.old 4 _ rfl rfl) ((Box.ex hB52 h.ex).cells (n := 2) rfl) rfl kI
     ·intro L75 w76 hi77
      have hE78 := hi77.ex
      have hE78z := Ex.size hE78
      exact OpR.op' rfl (yC en37 rfl (oc (hi77.dt 0 12 rfl rfl rfl) oz) (Cal.mono (c_s_l3Cell (p_l.getD k4 d_Cell) (RdS.up (RdS.ex good_Ver (RdS.only good_Ver (RdS.ex good_Ver h44 hE50) hO53 (by simp only [Iv]; omega)) hE78) good_Ver) (okL.getD o2 ok_d_Cell _)) fun _ _ h => h))
     ·exact oI rfl fun h => yl_not rfl (h.dt 1 13 rfl rfl rfl) kI
     ·exact oI rfl fun h => yM rfl (h.dt 2 14 rfl rfl rfl) kI
     ·exact oW rfl rfl rfl rfl (not_t hb57) fun h => yM rfl (h.old 3 _ rfl rfl) kI
     ·exact oW rfl rfl rfl rfl (not_t hb57) fun h => yl_gtr rfl (h.dt 4 16 rfl rfl rfl) rfl kI
     ·exact oW rfl rfl rfl rfl (not_t hb57) fun h => yM rfl (h.dt 5 17 rfl rfl rfl) kI
     ·exact oW rfl rfl rfl rfl hb61 fun h => yM rfl (h.old 0 _ rfl rfl) kI
     ·exact oW rfl rfl rfl rfl hb61 fun h => yM rfl (h.old 3 _ rfl rfl) kI
     ·exact oW rfl rfl rfl rfl hb61 fun h => yl_sub rfl (h.dt 8 20 rfl rfl rfl) rfl kI
     ·intro L130 w131 hi132
      have hE133 := hi132.ex
      have hE133z := Ex.size hE133
      exact OpR.want rfl rfl (hi132.dt 6 18 rfl rfl rfl) hb61 (Yl.sameI (yl_indexAddr un29 ty44 rfl (hi132.dt 7 19 rfl rfl rfl) (hi132.dt 9 21 rfl rfl rfl) eA67 Bo Bo kI))
     ·exact oW rfl rfl rfl rfl hb61 fun h => yl_fieldAddr fd44_0 rfl (h.dt 10 22 rfl rfl rfl) kI
     ·exact oW rfl rfl rfl rfl hb61 fun h => yl_load1 ty9 rfl (h.dt 11 23 rfl rfl rfl) ((Cells.ex eC67 h.ex) 0 _ rfl) kI
     ·exact oW rfl rfl rfl rfl hb61 fun h => yl_fieldAddr fd44_0 rfl (h.old 4 _ rfl rfl) kI
     ·exact oW rfl rfl rfl rfl hb61 fun h => yl_load1 ty9 rfl (h.dt 13 25 rfl rfl rfl) (((Box.ex hB52 h.ex).cell 0).trans rfl) kI
     ·exact oW rfl rfl rfl rfl hb61 fun h => yl_sgeq (a := ((p_l.getD ((IntKind.wrap .i64 ((k4 : Int) - 1)).toNat) d_Cell).Key)) (b := ((p_l.getD k4 d_Cell).Key)) rfl (h.dt 12 24 rfl rfl rfl) (h.dt 14 26 rfl rfl rfl) kI
     ·exact oW rfl rfl rfl rfl (not_t hb57) fun h => yl_pick_t rfl (h.dt 6 18 rfl rfl rfl) hb61 (h.dt 15 27 rfl rfl rfl) kI
     ·exact oI rfl fun h => yl_pick_f rfl (h.dt 3 15 rfl rfl rfl) (not_t hb57) (h.dt 16 28 rfl rfl rfl) kI
     ·intro fl186 fh187 L183 w184 hp185
      have hE188 := hp185.ex
      have hE188z := Ex.size hE188
      refine dn (CW.sub (sC 0 (hp185.old 0 _ rfl rfl) (sC 5 (hp185.old 5 _ rfl rfl) (sC 6 (hp185.old 6 _ rfl rfl) (sC 7 (hp185.old 7 _ rfl rfl) (sC 16 (hp185.nt 4 16 rfl rfl rfl) (sC 17 (hp185.nt 5 17 rfl rfl rfl) (sC 18 (hp185.nt 6 18 rfl rfl rfl) (sC 19 (hp185.nt 7 19 rfl rfl rfl) (sC 20 (hp185.nt 8 20 rfl rfl rfl) (sC 21 (hp185.nt 9 21 rfl rfl rfl) (sC 22 (hp185.nt 10 22 rfl rfl rfl) (sC 23 (hp185.nt 11 23 rfl rfl rfl) (sC 24 (hp185.nt 12 24 rfl rfl rfl) (sC 25 (hp185.nt 13 25 rfl rfl rfl) (sC 26 (hp185.nt 14 26 rfl rfl rfl) (sC 27 (hp185.nt 15 27 rfl rfl rfl) (sC 28 (hp185.nt 16 28 rfl rfl rfl) (sC 29 (hp185.nt 17 29 rfl rfl rfl) (Sub.nil _))))))))))))))))))) (bcase (sLt ((p_l.getD ((IntKind.wrap .i64 ((k4 : Int) - 1)).toNat) d_Cell).Key) ((p_l.getD k4 d_Cell).Key)) (fun hb207 => ?_) (fun hb207 => ?_)))
      ·refine CW.cond_f rfl (not_t hb207) (CW.skip (bn (tn (CW.region (sd rfl (yl_inc rfl rfl rfl oM (sM rfl (dn ?_))))))))
       have hB208 : B_s_l3Good_0 p_l k4 () = .cont () := by simp only [B_s_l3Good_0, hb57, hb61, hb207, cL]
       exact ⟨p_l.length - (k4 + 1), oM, k4 + 1, rfl, hlt42, oM, rfl, rfl, rfl, rfl, (RdS.ex good_Cell q66 hE188), (Ex.trans (Below.only (Ex.trans hf40 hE50) hO53 oM) hE188), (loopM.cont hlt42 hB208).symm.trans hI33⟩
      ·refine CW.cond_t rfl (not_f hb207) (cR (sA rfl (dn (CW.ret (br (tr ?_))))))
       refine tr ?_
       have hB214 : B_s_l3Good_0 p_l k4 () = .ret false := by simp only [B_s_l3Good_0, hb57, hb61, hb207, cL]
       have hL213 : loopM (B_s_l3Good_0 p_l) (p_l.length - 0) 0 () = .ret false := hI33.symm.trans (loopM.ret hlt42 hB214)
       refine br (tr (rr rfl (.cons rfl .nil) ?_))
       have hM215 : (s_l3Good p_l) = (false) := by simp only [s_l3Good, hb57, hb61, hb207, hL213, cL]
       rw [hM215]
       exact ⟨rfl, (Ex.trans (Below.only (Ex.trans hf40 hE50) hO53 oM) hE188)⟩
    ·have hb61p := dec_f hb61
     refine drI 18 [.agg #[.string (bs ((p_l.getD k4 d_Cell).Key)), .slice A44 (((p_l.getD k4 d_Cell).Vers).length) c44], .bool ((s_l3Cell (p_l.getD k4 d_Cell))), .bool (!(s_l3Cell (p_l.getD k4 d_Cell))), .bool (!(s_l3Cell (p_l.getD k4 d_Cell))), .int .i64 ((k4 : Int)), .bool (decide (0 < (k4 : Int))), .bool (decide (0 < (k4 : Int))), undef, undef, undef, undef, undef, undef, undef, undef, undef, .bool (false), .bool (false)] Try.follows rfl ⟨?_, ?_, ?_, ?_, ?_, ?_, ?_, ?_, ?_, ?_, ?_, ?_, ?_, ?_, ?_, ?_, ?_, ?_, trivial⟩ ?_
     ·exact oI rfl fun h => yl_loadN ty44 rfl (h.old 4 _ rfl rfl) ((Box.ex hB52 h.ex).cells (n := 2) rfl) rfl kI
     ·intro L228 w229 hi230
      have hE231 := hi230.ex
      have hE231z := Ex.size hE231
      exact OpR.op' rfl (yC en37 rfl (oc (hi230.dt 0 12 rfl rfl rfl) oz) (Cal.mono (c_s_l3Cell (p_l.getD k4 d_Cell) (RdS.up (RdS.ex good_Ver (RdS.only good_Ver (RdS.ex good_Ver h44 hE50) hO53 (by simp only [Iv]; omega)) hE231) good_Ver) (okL.getD o2 ok_d_Cell _)) fun _ _ h => h))
     ·exact oI rfl fun h => yl_not rfl (h.dt 1 13 rfl rfl rfl) kI
     ·exact oI rfl fun h => yM rfl (h.dt 2 14 rfl rfl rfl) kI
     ·exact oW rfl rfl rfl rfl (not_t hb57) fun h => yM rfl (h.old 3 _ rfl rfl) kI
     ·exact oW rfl rfl rfl rfl (not_t hb57) fun h => yl_gtr rfl (h.dt 4 16 rfl rfl rfl) rfl kI
     ·exact oW rfl rfl rfl rfl (not_t hb57) fun h => yM rfl (h.dt 5 17 rfl rfl rfl) kI
     ·exact oS rfl rfl rfl rfl rfl hb61
     ·exact oS rfl rfl rfl rfl rfl hb61
     ·exact oS rfl rfl rfl rfl rfl hb61
     ·exact oS rfl rfl rfl rfl rfl hb61
     ·exact oS rfl rfl rfl rfl rfl hb61
     ·exact oS rfl rfl rfl rfl rfl hb61
     ·exact oS rfl rfl rfl rfl rfl hb61
     ·exact oS rfl rfl rfl rfl rfl hb61
     ·exact oS rfl rfl rfl rfl rfl hb61
     ·exact oW rfl rfl rfl rfl (not_t hb57) fun h => yl_pick_f rfl (h.dt 6 18 rfl rfl rfl) hb61 rfl kI
     ·exact oI rfl fun h => yl_pick_f rfl (h.dt 3 15 rfl rfl rfl) (not_t hb57) (h.dt 16 28 rfl rfl rfl) kI
     ·intro fl326 fh327 L323 w324 hp325
      have hE328 := hp325.ex
      have hE328z := Ex.size hE328
      refine dn (CW.sub (sC 0 (hp325.old 0 _ rfl rfl) (sC 5 (hp325.old 5 _ rfl rfl) (sC 6 (hp325.old 6 _ rfl rfl) (sC 7 (hp325.old 7 _ rfl rfl) (sC 16 (hp325.nt 4 16 rfl rfl rfl) (sC 17 (hp325.nt 5 17 rfl rfl rfl) (sC 18 (hp325.nt 6 18 rfl rfl rfl) (sC 19 (hp325.nt 7 19 rfl rfl rfl) (sC 20 (hp325.nt 8 20 rfl rfl rfl) (sC 21 (hp325.nt 9 21 rfl rfl rfl) (sC 22 (hp325.nt 10 22 rfl rfl rfl) (sC 23 (hp325.nt 11 23 rfl rfl rfl) (sC 24 (hp325.nt 12 24 rfl rfl rfl) (sC 25 (hp325.nt 13 25 rfl rfl rfl) (sC 26 (hp325.nt 14 26 rfl rfl rfl) (sC 27 (hp325.nt 15 27 rfl rfl rfl) (sC 28 (hp325.nt 16 28 rfl rfl rfl) (sC 29 (hp325.nt 17 29 rfl rfl rfl) (Sub.nil _))))))))))))))))))) (CW.cond_f rfl rfl (CW.skip (bn (tn (CW.region (sd rfl (yl_inc rfl rfl rfl oM ?_))))))))
      refine sM rfl (dn ?_)
      have hB347 : B_s_l3Good_0 p_l k4 () = .cont () := by simp only [B_s_l3Good_0, hb57, hb61, cL]
      exact ⟨p_l.length - (k4 + 1), oM, k4 + 1, rfl, hlt42, oM, rfl, rfl, rfl, rfl, (RdS.ex good_Cell (RdS.only good_Cell (RdS.ex good_Cell hf39 hE50) hO53 (by simp only [Iv]; omega)) hE328), (Ex.trans (Below.only (Ex.trans hf40 hE50) hO53 oM) hE328), (loopM.cont hlt42 hB347).symm.trans hI33⟩
   ·refine drI 18 [.agg #[.string (bs ((p_l.getD k4 d_Cell).Key)), .slice A44 (((p_l.getD k4 d_Cell).Vers).length) c44], .bool ((s_l3Cell (p_l.getD k4 d_Cell))), .bool (!(s_l3Cell (p_l.getD k4 d_Cell))), .bool (!(s_l3Cell (p_l.getD k4 d_Cell))), undef, undef, undef, undef, undef, undef, undef, undef, undef, undef, undef, undef, undef, .bool (true)] Try.follows rfl ⟨?_, ?_, ?_, ?_, ?_, ?_, ?_, ?_, ?_, ?_, ?_, ?_, ?_, ?_, ?_, ?_, ?_, ?_, trivial⟩ ?_
    ·exact oI rfl fun h => yl_loadN ty44 rfl (h.old 4 _ rfl rfl) ((Box.ex hB52 h.ex).cells (n := 2) rfl) rfl kI
    ·intro L363 w364 hi365
     have hE366 := hi365.ex
     have hE366z := Ex.size hE366
     exact OpR.op' rfl (yC en37 rfl (oc (hi365.dt 0 12 rfl rfl rfl) oz) (Cal.mono (c_s_l3Cell (p_l.getD k4 d_Cell) (RdS.up (RdS.ex good_Ver (RdS.only good_Ver (RdS.ex good_Ver h44 hE50) hO53 (by simp only [Iv]; omega)) hE366) good_Ver) (okL.getD o2 ok_d_Cell _)) fun _ _ h => h))
    ·exact oI rfl fun h => yl_not rfl (h.dt 1 13 rfl rfl rfl) kI
    ·exact oI rfl fun h => yM rfl (h.dt 2 14 rfl rfl rfl) kI
    ·exact oS rfl rfl rfl rfl rfl (not_f hb57)
    ·exact oS rfl rfl rfl rfl rfl (not_f hb57)
    ·exact oS rfl rfl rfl rfl rfl (not_f hb57)
    ·exact oU rfl rfl rfl rfl rfl
    ·exact oU rfl rfl rfl rfl rfl
    ·exact oU rfl rfl rfl rfl rfl
    ·exact oU rfl rfl rfl rfl rfl
    ·exact oU rfl rfl rfl rfl rfl
    ·exact oU rfl rfl rfl rfl rfl
    ·exact oU rfl rfl rfl rfl rfl
    ·exact oU rfl rfl rfl rfl rfl
    ·exact oU rfl rfl rfl rfl rfl
    ·exact oS rfl rfl rfl rfl rfl (not_f hb57)
    ·exact oI rfl fun h => yl_pick_t rfl (h.dt 3 15 rfl rfl rfl) (not_f hb57) rfl kI
    ·intro fl456 fh457 L453 w454 hp455
     have hE458 := hp455.ex
     have hE458z := Ex.size hE458
     refine dn (CW.sub (sC 0 (hp455.old 0 _ rfl rfl) (sC 5 (hp455.old 5 _ rfl rfl) (sC 6 (hp455.old 6 _ rfl rfl) (sC 7 (hp455.old 7 _ rfl rfl) (sC 16 (hp455.nt 4 16 rfl rfl rfl) (sC 17 (hp455.nt 5 17 rfl rfl rfl) (sC 18 (hp455.nt 6 18 rfl rfl rfl) (sC 19 (hp455.nt 7 19 rfl rfl rfl) (sC 20 (hp455.nt 8 20 rfl rfl rfl) (sC 21 (hp455.nt 9 21 rfl rfl rfl) (sC 22 (hp455.nt 10 22 rfl rfl rfl) (sC 23 (hp455.nt 11 23 rfl rfl rfl) (sC 24 (hp455.nt 12 24 rfl rfl rfl) (sC 25 (hp455.nt 13 25 rfl rfl rfl) (sC 26 (hp455.nt 14 26 rfl rfl rfl) (sC 27 (hp455.nt 15 27 rfl rfl rfl) (sC 28 (hp455.nt 16 28 rfl rfl rfl) (sC 29 (hp455.nt 17 29 rfl rfl rfl) (Sub.nil _))))))))))))))))))) (CW.cond_t rfl rfl (cR (sA rfl (dn ?_)))))
     refine CW.ret (br (tr (tr ?_)))
     have hB478 : B_s_l3Good_0 p_l k4 () = .ret false := by simp only [B_s_l3Good_0, hb57, cL]
     have hL477 : loopM (B_s_l3Good_0 p_l) (p_l.length - 0) 0 () = .ret false := hI33.symm.trans (loopM.ret hlt42 hB478)
     refine br (tr (rr rfl (.cons rfl .nil) ?_))
     have hM479 : (s_l3Good p_l) = (false) := by simp only [s_l3Good, hb57, hL477, cL]
     rw [hM479]
     exact ⟨rfl, (Ex.trans (Below.only (Ex.trans hf40 hE50) hO53 oM) hE458)⟩
  ·refine cR (sd rfl (yl_lss rfl rfl rfl (dn (CW.seq (CW.cond_f rfl (lt_f hlt42) (CW.exit (tx ?_)))))))
   refine tx ?_
   have hL483 : loopM (B_s_l3Good_0 p_l) (p_l.length - 0) 0 () = .done () := hI33.symm.trans (loopM.stop hlt42)
   refine bx (tn (cR (sM rfl (sd rfl (yL un29 rfl rfl (sd rfl (yl_leq rfl rfl rfl (sA rfl (SeqR.done ?_)))))))))
   refine tn (CW.ret (rr rfl (.cons rfl .nil) ?_))
   have hM484 : (s_l3Good p_l) = (decide ((p_l.length : Int) ≤ 24)) := by simp only [s_l3Good, hL483, cL]
   rw [hM484]
   exact ⟨rfl, hf40⟩
theorem c_s_l2True {w : World} (p_t : Int) : Cal Try.prog 27 #[.int .i64 (p_t)] w fun v w' => v = .bool ((s_l2True p_t)) ∧ Ex w w' := by
 refine Cal.of func27 rfl ntmps27 rfl (cR (sA rfl (dn (cR (sM rfl ?_)))))
 refine sd rfl (yC en38 rfl (oc rfl (oc rfl (oc rfl oz))) (Cal.mono (c_s_l1In p_t 0 100000) ?_))
 rintro v2 w1 ⟨rfl, hE3⟩
 refine sA rfl (dn (CW.ret (rr rfl (.cons rfl .nil) ?_)))
 have hM4 : (s_l2True p_t) = ((s_l1In p_t 0 100000)) := by simp only [s_l2True, cL]
 rw [hM4]
 exact ⟨rfl, (Ex.trans (Ex.refl w) hE3)⟩
theorem c_s_l3Ver {A1 : Option Addr} {c1 : Nat} {w : World} (p_c : DCell) (p_time : Int) (h1 : RdS w (Iv 0 w.heap.size) (RF e_Ver) 3 A1 p_c.Vers.length c1 p_c.Vers) (o2 : ok_Cell p_c) : Cal Try.prog 39 #[.agg #[.string (bs (p_c.Key)), .slice A1 p_c.Vers.length c1], .int .i64 (p_time)] w fun v w' => v = .tuple #[.agg #[.int .i64 ((s_l3Ver p_c p_time).1.Time), .string (bs ((s_l3Ver p_c p_time).1.Val)), .bool ((s_l3Ver p_c p_time).1.Gone)], .bool ((s_l3Ver p_c p_time).2)] ∧ ok_Ver ((s_l3Ver p_c p_time).1) ∧ Ex w w' := by
 have hol3 : p_c.Key.length ≤ 1073741824 := o2.1
 have hol4 := o2.2.1
 refine Cal.of func39 rfl ntmps39 rfl (cR (sd rfl (yl_box rfl rfl rfl ?_)))
 intro b5 w6 hs7 hz8 hB9 hE10
 refine sd rfl (yB ty68 (cs := [.int .i64 (0), .string (bs (([] : Str))), .bool (false)]) rfl rfl ?_)
 intro b11 w12 hs13 hz14 hB15 hE16
 refine sA rfl (dn (cR (sd rfl (yB ty68 (cs := [.int .i64 (0), .string (bs (([] : Str))), .bool (false)]) rfl rfl ?_))))
 intro b17 w18 hs19 hz20 hB21 hE22
 refine dn (cR (sA rfl (dn (CW.seq (CW.seq ?_)))))
 refine CW.region (sd rfl (yl_fieldAddr fd44_1 rfl rfl (sd rfl (yl_load1 ty42 rfl rfl (((Box.ex (Box.ex hB9 hE16) hE22).cell 1).trans rfl) (sd rfl (yL un42 rfl rfl (sM rfl (dn (CW.block (CW.loop (fun m45 L46 w47 => ∃ (k25 : Nat) (x41 : Bool) (x42 : Int) (x43 : Str) (x44 : Bool), m45 = p_c.Vers.length - k25 ∧ k25 ≤ p_c.Vers.length ∧ w18.heap.size ≤ w47.heap.size ∧ lkp L46 1 = some (.int .i64 (p_time)) ∧ lkp L46 4 = some (.pointer (some ⟨b11, 0, none⟩)) ∧ lkp L46 6 = some (.pointer (some ⟨b17, 0, none⟩)) ∧ lkp L46 7 = some (.bool (x41)) ∧ lkp L46 11 = some (.slice A1 p_c.Vers.length c1) ∧ lkp L46 12 = some (.int .i64 ((p_c.Vers.length : Int))) ∧ lkp L46 13 = some (.int .i64 ((k25 : Int))) ∧ Box w47 b11 68 [.int .i64 (0), .string (bs (([] : Str))), .bool (false)] ∧ Box w47 b17 68 [.int .i64 (x42), .string (bs (x43)), .bool (x44)] ∧ RdS w47 (Iv 0 w.heap.size) (RF e_Ver) 3 A1 p_c.Vers.length c1 p_c.Vers ∧ Ex w w47 ∧ okS x43 ∧ loopM (B_s_l3Ver_0 p_c p_time) (p_c.Vers.length - k25) k25 (x41, x42, x43, x44) = loopM (B_s_l3Ver_0 p_c p_time) (p_c.Vers.length - 0) 0 (false, 0, ([] : Str), false)) (p_c.Vers.length - 0) ?_ ?_))))))))))
 ·exact ⟨0, false, 0, ([] : Str), false, rfl, oM, Nat.le_refl _, rfl, rfl, rfl, rfl, rfl, rfl, rfl, (Box.ex hB15 hE22), hB21, (RdS.ex good_Ver (RdS.ex good_Ver (RdS.ex good_Ver h1 hE10) hE16) hE22), (Ex.trans (Ex.trans (Ex.trans (Ex.refl w) hE10) hE16) hE22), (okS.lit rfl), rfl⟩
 ·rintro m55 L56 w57 ⟨k25, x41, x42, x43, x44, rfl, hk58, hsz60, hl61, hl62, hl63, hl64, hl65, hl66, hl67, hf68, hf69, hf70, hf71, hok72, hI59⟩
  refine CW.sub (Sub.cons hl61 (Sub.cons hl62 (Sub.cons hl63 (Sub.cons hl64 (Sub.cons hl65 (Sub.cons hl66 (Sub.cons hl67 (Sub.nil _)))))))) ?_
  have hf68z := Box.lt hf68
  have hf69z := Box.lt hf69
  have hf71z := Ex.size hf71
  have hbg73 := RdS.big hf70
  rcases Nat.lt_or_ge k25 p_c.Vers.length with hlt74 | hlt74
  ·refine cR (sd rfl (yl_lss rfl rfl rfl (dn (CW.seq (CW.cond_t rfl (lt_t hlt74) (CW.skip (tn ?_)))))))
   refine CW.seq (CW.block (cR ?_))
   obtain ⟨eb75, eo75, _, eA75, _, ebl75, _, eR75, eC75⟩ := RdS.aD hf70 d_Ver (i := k25)
   obtain rfl := eR75
   have eC75 : Cells w57 eb75 (eo75 + k25 * 3) [.int .i64 ((p_c.Vers.getD k25 d_Ver).Time), .string (bs ((p_c.Vers.getD k25 d_Ver).Val)), .bool ((p_c.Vers.getD k25 d_Ver).Gone)] := eC75
   refine sd rfl (yl_ixN un42 ty68 rfl rfl rfl eA75 (sd rfl (yl_loadN ty68 rfl rfl eC75 rfl (sd rfl (yB ty68 (cs := [.int .i64 (0), .string (bs (([] : Str))), .bool (false)]) rfl rfl ?_)))))
   intro b76 w77 hs78 hz79 hB80 hE81
   refine SeqR.u rfl rfl (yl_store (vs := [.int .i64 ((p_c.Vers.getD k25 d_Ver).Time), .string (bs ((p_c.Vers.getD k25 d_Ver).Val)), .bool ((p_c.Vers.getD k25 d_Ver).Gone)]) ty68 rfl rfl rfl rfl rfl rfl hB80 (nb rfl) ?_)
   intro w82 hB83 hO84
   have hB83 : Box w82 b76 68 [.int .i64 ((p_c.Vers.getD k25 d_Ver).Time), .string (bs ((p_c.Vers.getD k25 d_Ver).Val)), .bool ((p_c.Vers.getD k25 d_Ver).Gone)] := hB83
   have hO84z := hO84.size
   refine dn (cR (sd rfl (yl_fieldAddr fd68_0 rfl rfl (sd rfl (yl_load1 ty3 rfl rfl ((hB83.cell 0).trans rfl) (sM rfl (sd rfl (yl_leq rfl rfl rfl (SeqR.done ?_)))))))))
   refine tn (bcase (decide (((p_c.Vers.getD k25 d_Ver).Time) ≤ p_time)) (fun hb85 => ?_) (fun hb85 => ?_))
   ·have hb85p := dec_t hb85
    refine CW.cond_t rfl hb85 (cR (sd rfl (yl_loadN ty68 rfl rfl (hB83.cells (n := 3) rfl) rfl (SeqR.u rfl rfl (yl_store (vs := [.int .i64 ((p_c.Vers.getD k25 d_Ver).Time), .string (bs ((p_c.Vers.getD k25 d_Ver).Val)), .bool ((p_c.Vers.getD k25 d_Ver).Gone)]) ty68 rfl rfl rfl rfl rfl rfl (Box.only (Box.ex hf69 hE81) hO84 oM) (nb rfl) ?_)))))
    intro w88 hB89 hO90
    have hB89 : Box w88 b17 68 [.int .i64 ((p_c.Vers.getD k25 d_Ver).Time), .string (bs ((p_c.Vers.getD k25 d_Ver).Val)), .bool ((p_c.Vers.getD k25 d_Ver).Gone)] := hB89
    have hO90z := hO90.size
    refine dn (CW.region (sA rfl (SeqR.done (bn (tn (CW.region (sd rfl (yl_inc rfl rfl rfl oM ?_))))))))
    refine sM rfl (dn ?_)
    have hB91 : B_s_l3Ver_0 p_c p_time k25 (x41, x42, x43, x44) = .cont (true, (p_c.Vers.getD k25 d_Ver).Time, (p_c.Vers.getD k25 d_Ver).Val, (p_c.Vers.getD k25 d_Ver).Gone) := by simp only [B_s_l3Ver_0, hb85, cL]
    exact ⟨p_c.Vers.length - (k25 + 1), oM, k25 + 1, true, (p_c.Vers.getD k25 d_Ver).Time, (p_c.Vers.getD k25 d_Ver).Val, (p_c.Vers.getD k25 d_Ver).Gone, rfl, hlt74, oM, rfl, rfl, rfl, rfl, rfl, rfl, rfl, (Box.only (Box.only (Box.ex hf68 hE81) hO84 oM) hO90 oM), hB89, (RdS.only good_Ver (RdS.only good_Ver (RdS.ex good_Ver hf70 hE81) hO84 (by simp only [Iv]; omega)) hO90 (by simp only [Iv]; omega)), (Below.only (Below.only (Ex.trans hf71 hE81) hO84 oM) hO90 oM), (okL.getD o2.2 ok_d_Ver _), (loopM.cont hlt74 hB91).symm.trans hI59⟩
   ·have hb85p := dec_f hb85
    refine CW.cond_f rfl hb85 (CW.skip (bn (tn (CW.region (sd rfl (yl_inc rfl rfl rfl oM (sM rfl (dn ?_))))))))
    have hB101 : B_s_l3Ver_0 p_c p_time k25 (x41, x42, x43, x44) = .cont (x41, x42, x43, x44) := by simp only [B_s_l3Ver_0, hb85, cL]
    exact ⟨p_c.Vers.length - (k25 + 1), oM, k25 + 1, x41, x42, x43, x44, rfl, hlt74, oM, rfl, rfl, rfl, rfl, rfl, rfl, rfl, (Box.only (Box.ex hf68 hE81) hO84 oM), (Box.only (Box.ex hf69 hE81) hO84 oM), (RdS.only good_Ver (RdS.ex good_Ver hf70 hE81) hO84 (by simp only [Iv]; omega)), (Below.only (Ex.trans hf71 hE81) hO84 oM), hok72, (loopM.cont hlt74 hB101).symm.trans hI59⟩
  ·refine cR (sd rfl (yl_lss rfl rfl rfl (dn (CW.seq (CW.cond_f rfl (lt_f hlt74) (CW.exit (tx ?_)))))))
   refine tx ?_
   have hL110 : loopM (B_s_l3Ver_0 p_c p_time) (p_c.Vers.length - 0) 0 (false, 0, ([] : Str), false) = .done (x41, x42, x43, x44) := hI59.symm.trans (loopM.stop hlt74)
   refine bx (tn (cR (sd rfl (yl_loadN ty68 rfl rfl (hf69.cells (n := 3) rfl) rfl (sM rfl (SeqR.u rfl rfl (yl_store (vs := [.int .i64 (x42), .string (bs (x43)), .bool (x44)]) ty68 rfl rfl rfl rfl rfl rfl hf68 (nb rfl) ?_)))))))
   intro w111 hB112 hO113
   have hB112 : Box w111 b11 68 [.int .i64 (x42), .string (bs (x43)), .bool (x44)] := hB112
   have hO113z := hO113.size
   refine sA rfl (dn (CW.ret (rr rfl (.cons ⟨_, rfl, run_loadN ty68 (cs := [.int .i64 (x42), .string (bs (x43)), .bool (x44)]) rfl (hB112.cells (n := 3) rfl)⟩ (.cons rfl .nil)) ?_)))
   have hM114 : (s_l3Ver p_c p_time) = (((⟨x42, x43, x44⟩ : DVer), x41)) := by simp only [s_l3Ver, hL110, cL]
   rw [hM114]
   exact ⟨rfl, hok72, (Below.only hf71 hO113 oM)⟩
theorem c_s_l3All {A1 : Option Addr} {c1 : Nat} {w : World} (p_l : List DCell) (p_time : Int) (h1 : RdS w (Iv 0 w.heap.size) R_Cell 2 A1 p_l.length c1 p_l) (o2 : (okL ok_Cell) p_l) : Cal Try.prog 28 #[.slice A1 p_l.length c1, .int .i64 (p_time)] w fun v w' => ∃ A_1 c_1 lo_1 hi_1, v = .slice A_1 ((s_l3All p_l p_time).length) c_1 ∧ OwnL w' lo_1 hi_1 63 3 (RF e_Write) A_1 ((s_l3All p_l p_time).length) c_1 (s_l3All p_l p_time) ∧ (okL ok_Write) (s_l3All p_l p_time) ∧ (w.heap.size ≤ lo_1 ∧ lo_1 ≤ hi_1 ∧ hi_1 ≤ w'.heap.size) ∧ Ex w w' := by
 have hol3 := o2.1
 refine Cal.of func28 rfl ntmps28 rfl (cR (sA rfl (dn (cR (sA rfl ?_)))))
 refine dn (CW.seq (cR (sM rfl (sd rfl (yL un29 rfl rfl (sM rfl (SeqR.done ?_)))))))
 refine tn (CW.block (CW.loop (fun m90 L91 w92 => ∃ (k4 : Nat) (x86 : List DWrite) (A87 : Option Addr) (c88 : Nat) (u89 : Nat), m90 = p_l.length - k4 ∧ k4 ≤ p_l.length ∧ w.heap.size ≤ w92.heap.size ∧ lkp L91 1 = some (.int .i64 (p_time)) ∧ lkp L91 5 = some (.slice A87 x86.length c88) ∧ lkp L91 10 = some (.slice A1 p_l.length c1) ∧ lkp L91 11 = some (.int .i64 ((p_l.length : Int))) ∧ lkp L91 12 = some (.int .i64 ((k4 : Int))) ∧ OwnL w92 w.heap.size u89 63 3 (RF e_Write) A87 x86.length c88 x86 ∧ RdS w92 (Iv 0 w.heap.size) R_Cell 2 A1 p_l.length c1 p_l ∧ Ex w w92 ∧ (w.heap.size ≤ u89 ∧ u89 ≤ w92.heap.size) ∧ x86.length ≤ 0 + 1 * (k4 - 0) ∧ (∀ y ∈ x86, ok_Write y) ∧ loopM (B_s_l3All_0 p_l p_time) (p_l.length - k4) k4 (x86) = loopM (B_s_l3All_0 p_l p_time) (p_l.length - 0) 0 (([] : List DWrite))) (p_l.length - 0) ?_ ?_))
 ·exact ⟨0, ([] : List DWrite), none, 0, w.heap.size, rfl, oM, Nat.le_refl _, rfl, rfl, rfl, rfl, rfl, (OwnL.nil w w.heap.size w.heap.size 63 3 (RF e_Write)), h1, (Ex.refl w), oM, (by first | (simp; done) | (first | omega | (simp only [lN, toS_length]; omega))), okE.nil, rfl⟩
 ·rintro m93 L94 w95 ⟨k4, x86, A87, c88, u89, rfl, hk96, hsz98, hl99, hl100, hl101, hl102, hl103, hf104, hf105, hf106, hu107, hln108, hok109, hI97⟩
  refine CW.sub (Sub.cons hl99 (Sub.cons hl100 (Sub.cons hl101 (Sub.cons hl102 (Sub.cons hl103 (Sub.nil _)))))) ?_
  have hf106z := Ex.size hf106
  have hbg110 := RdS.big hf105
  rcases Nat.lt_or_ge k4 p_l.length with hlt111 | hlt111
  ·refine cR (sd rfl (yl_lss rfl rfl rfl (dn (CW.seq (CW.cond_t rfl (lt_t hlt111) (CW.skip (tn ?_)))))))
   refine CW.seq (CW.block (cR ?_))
   obtain ⟨_, _, _, eA112, _, ebl112, _, eR112, eC112⟩ := RdS.aD hf105 d_Cell (i := k4)
   obtain ⟨A113, c113, rfl, h113⟩ := eR112
   refine sd rfl (yl_ixN un29 ty44 rfl rfl rfl eA112 (sd rfl (yl_loadN ty44 rfl rfl eC112 rfl (sd rfl (yB ty44 (cs := [.string (bs (([] : Str))), .slice none 0 0]) rfl rfl ?_)))))
   intro b114 w115 hs116 hz117 hB118 hE119
   refine SeqR.u rfl rfl (yl_store (vs := [.string (bs ((p_l.getD k4 d_Cell).Key)), .slice A113 (((p_l.getD k4 d_Cell).Vers).length) c113]) ty44 rfl rfl rfl rfl rfl rfl hB118 (nb rfl) ?_)
   intro w120 hB121 hO122
   have hB121 : Box w120 b114 44 [.string (bs ((p_l.getD k4 d_Cell).Key)), .slice A113 (((p_l.getD k4 d_Cell).Vers).length) c113] := hB121
   have hO122z := hO122.size
   refine dn (cR (sd rfl (yl_loadN ty44 rfl rfl (hB121.cells (n := 2) rfl) rfl (sM rfl (sd rfl (yC en39 rfl (oc rfl (oc rfl oz)) (Cal.mono (c_s_l3Ver (p_l.getD k4 d_Cell) p_time (RdS.up (RdS.only good_Ver (RdS.ex good_Ver h113 hE119) hO122 (by simp only [Iv]; omega)) good_Ver) (okL.getD o2 ok_d_Cell _)) ?_)))))))
   rintro v127 w125 ⟨rfl, ho126, hE128⟩
   have hE128z := Ex.size hE128
   refine sM rfl (sd rfl (yl_extract rfl rfl rfl (sd rfl (yl_extract rfl rfl rfl (sd rfl (yB ty68 (cs := [.int .i64 (0), .string (bs (([] : Str))), .bool (false)]) rfl rfl ?_))))))
   intro b129 w130 hs131 hz132 hB133 hE134
   refine SeqR.u rfl rfl (yl_store (vs := [.int .i64 ((s_l3Ver (p_l.getD k4 d_Cell) p_time).1.Time), .string (bs ((s_l3Ver (p_l.getD k4 d_Cell) p_time).1.Val)), .bool ((s_l3Ver (p_l.getD k4 d_Cell) p_time).1.Gone)]) ty68 rfl rfl rfl rfl rfl rfl hB133 (nb rfl) ?_)
   intro w135 hB136 hO137
   have hB136 : Box w135 b129 68 [.int .i64 ((s_l3Ver (p_l.getD k4 d_Cell) p_time).1.Time), .string (bs ((s_l3Ver (p_l.getD k4 d_Cell) p_time).1.Val)), .bool ((s_l3Ver (p_l.getD k4 d_Cell) p_time).1.Gone)] := hB136
   have hO137z := hO137.size
   refine sA rfl (dn (cR (sM rfl (sM rfl (bcase ((s_l3Ver (p_l.getD k4 d_Cell) p_time).2) (fun hb138 => ?_) (fun hb138 => ?_))))))
   ·refine sy rfl rfl hb138 (yl_fieldAddr fd68_2 rfl rfl (sy rfl rfl hb138 (yl_load1 ty4 rfl rfl ((hB136.cell 2).trans rfl) (sy rfl rfl hb138 (yl_not rfl rfl (sd rfl (yl_pick_t rfl rfl hb138 rfl (dn (bcase ((s_l3Ver (p_l.getD k4 d_Cell) p_time).1.Gone) (fun hb139 => ?_) (fun hb139 => ?_))))))))))
    ·refine CW.cond_f rfl (not_t hb139) (CW.skip (bn (tn (CW.region (sd rfl (yl_inc rfl rfl rfl oM (sM rfl (dn ?_))))))))
     have hB140 : B_s_l3All_0 p_l p_time k4 (x86) = .cont (x86) := by simp only [B_s_l3All_0, hb138, hb139, cL]
     exact ⟨p_l.length - (k4 + 1), oM, k4 + 1, x86, A87, c88, u89, rfl, hlt111, oM, rfl, rfl, rfl, rfl, rfl, (OwnL.only gW (OwnL.ex gW (OwnL.ex gW (OwnL.only gW (OwnL.ex gW hf104 hE119) hO122 oM) hE128) hE134) hO137 oM), (RdS.only good_Cell (RdS.ex good_Cell (RdS.ex good_Cell (RdS.only good_Cell (RdS.ex good_Cell hf105 hE119) hO122 (by simp only [Iv]; omega)) hE128) hE134) hO137 (by simp only [Iv]; omega)), (Below.only (Ex.trans (Ex.trans (Below.only (Ex.trans hf106 hE119) hO122 oM) hE128) hE134) hO137 oM), oM, Bl, hok109, (loopM.cont hlt111 hB140).symm.trans hI97⟩
    ·refine CW.cond_t rfl (not_f hb139) (CW.region (sM rfl (sd rfl (yl_fieldAddr fd44_0 rfl rfl (sd rfl (yl_load1 ty9 rfl rfl (((Box.only (Box.ex (Box.ex hB121 hE128) hE134) hO137 oM).cell 0).trans rfl) (sd rfl (yl_fieldAddr fd68_1 rfl rfl (sd rfl (yl_load1 ty9 rfl rfl ((hB136.cell 1).trans rfl) (sd rfl (yl_build (cs := [.string (bs ((p_l.getD k4 d_Cell).Key)), .string (bs ((s_l3Ver (p_l.getD k4 d_Cell) p_time).1.Val)), .bool (false)]) rfl (oc rfl (oc rfl oz)) (by kernel_rfl) (sd rfl (yl_buildSlice (cs := [.string (bs ((p_l.getD k4 d_Cell).Key)), .string (bs ((s_l3Ver (p_l.getD k4 d_Cell) p_time).1.Val)), .bool (false)]) un24 ty63 (by decide) rfl (oc rfl oz) (by kernel_rfl) ?_))))))))))))))
     intro b159 w160 hs161 hz162 hB163 hE164
     have hO165 : OwnL w160 b159 (b159 + 1) 63 3 (RF e_Write) (some ⟨b159, 0, none⟩) 1 1 ([(⟨(p_l.getD k4 d_Cell).Key, (s_l3Ver (p_l.getD k4 d_Cell) p_time).1.Val, false⟩ : DWrite)] : List DWrite) := OwnL.of_box (S := fun _ => False) hB163 (Nat.le_refl _) (Nat.lt_succ_self _) (EncL.cons (c := [.string (bs ((p_l.getD k4 d_Cell).Key)), .string (bs ((s_l3Ver (p_l.getD k4 d_Cell) p_time).1.Val)), .bool (false)]) rfl rfl EncL.nil) (nb rfl) (fun h => h) (fun _ h => False.elim h)
     refine sd rfl (yl_appendL (S := (fun _ => False)) (lo := w.heap.size) (hi := u89) (xs := x86) (ys := ([(⟨(p_l.getD k4 d_Cell).Key, (s_l3Ver (p_l.getD k4 d_Cell) p_time).1.Val, false⟩ : DWrite)] : List DWrite)) gW un24 ty63 rfl (nb rfl) rfl rfl rfl (OwnL.ex gW (OwnL.only gW (OwnL.ex gW (OwnL.ex gW (OwnL.only gW (OwnL.ex gW hf104 hE119) hO122 oM) hE128) hE134) hO137 oM) hE164) (EncL.cons (c := [.string (bs ((p_l.getD k4 d_Cell).Key)), .string (bs ((s_l3Ver (p_l.getD k4 d_Cell) p_time).1.Val)), .bool (false)]) rfl rfl EncL.nil) (Or.inr ⟨_, _, rfl, rfl, hB163.cells (o := 0) (n := 3) rfl⟩) rfl Bl Bl oM oM (fun _ h _ => False.elim h) oM ?_)
     intro A172 c173 w174 row175 hO176 hG177 hrg178
     have hG177z := hG177.size
     refine sA rfl (SeqR.done (bn (tn (CW.region (sd rfl (yl_inc rfl rfl rfl oM (sM rfl (dn ?_))))))))
     have hB179 : B_s_l3All_0 p_l p_time k4 (x86) = .cont ((x86 ++ ([(⟨(p_l.getD k4 d_Cell).Key, (s_l3Ver (p_l.getD k4 d_Cell) p_time).1.Val, false⟩ : DWrite)] : List DWrite))) := by simp only [B_s_l3All_0, hb138, hb139, cL]
     exact ⟨p_l.length - (k4 + 1), oM, k4 + 1, (x86 ++ ([(⟨(p_l.getD k4 d_Cell).Key, (s_l3Ver (p_l.getD k4 d_Cell) p_time).1.Val, false⟩ : DWrite)] : List DWrite)), A172, c173, w174.heap.size, rfl, hlt111, oM, rfl, rfl, rfl, rfl, rfl, hO176, (RdS.grown good_Cell (RdS.ex good_Cell (RdS.only good_Cell (RdS.ex good_Cell (RdS.ex good_Cell (RdS.only good_Cell (RdS.ex good_Cell hf105 hE119) hO122 (by simp only [Iv]; omega)) hE128) hE134) hO137 (by simp only [Iv]; omega)) hE164) hG177 (fun k hk => by have := hrg178 k hk; simp only [Iv]; omega)), (Below.grown (Ex.trans (Below.only (Ex.trans (Ex.trans (Below.only (Ex.trans hf106 hE119) hO122 oM) hE128) hE134) hO137 oM) hE164) hG177 oM (fun k hk => by have := hrg178 k hk; omega)), oM, Bl, (okE.append hok109 ((okL.mk (nb rfl) (okE.cons ⟨(okL.getD o2 ok_d_Cell _).1, ho126⟩ okE.nil))).2), (loopM.cont hlt111 hB179).symm.trans hI97⟩
   ·refine sz rfl rfl hb138 (sz rfl rfl hb138 (sz rfl rfl hb138 (sd rfl (yl_pick_f rfl rfl hb138 rfl (dn (CW.cond_f rfl rfl (CW.skip (bn ?_))))))))
    refine tn (CW.region (sd rfl (yl_inc rfl rfl rfl oM (sM rfl (dn ?_)))))
    have hB194 : B_s_l3All_0 p_l p_time k4 (x86) = .cont (x86) := by simp only [B_s_l3All_0, hb138, cL]
    exact ⟨p_l.length - (k4 + 1), oM, k4 + 1, x86, A87, c88, u89, rfl, hlt111, oM, rfl, rfl, rfl, rfl, rfl, (OwnL.only gW (OwnL.ex gW (OwnL.ex gW (OwnL.only gW (OwnL.ex gW hf104 hE119) hO122 oM) hE128) hE134) hO137 oM), (RdS.only good_Cell (RdS.ex good_Cell (RdS.ex good_Cell (RdS.only good_Cell (RdS.ex good_Cell hf105 hE119) hO122 (by simp only [Iv]; omega)) hE128) hE134) hO137 (by simp only [Iv]; omega)), (Below.only (Ex.trans (Ex.trans (Below.only (Ex.trans hf106 hE119) hO122 oM) hE128) hE134) hO137 oM), oM, Bl, hok109, (loopM.cont hlt111 hB194).symm.trans hI97⟩
  ·refine cR (sd rfl (yl_lss rfl rfl rfl (dn (CW.seq (CW.cond_f rfl (lt_f hlt111) (CW.exit (tx ?_)))))))
   refine tx ?_
   have hL210 : loopM (B_s_l3All_0 p_l p_time) (p_l.length - 0) 0 (([] : List DWrite)) = .done (x86) := hI97.symm.trans (loopM.stop hlt111)
   refine bx (tn (cR (sM rfl (sA rfl (dn (CW.ret ?_))))))
   refine rr rfl (.cons rfl .nil) ?_
   have hM211 : (s_l3All p_l p_time) = (x86) := by simp only [s_l3All, hL210, cL]
   rw [hM211]
   exact ⟨A87, c88, w.heap.size, u89, rfl, hf104, (okL.mk (xs := x86) Bl hok109), oM, hf106⟩
theorem c_s_CellsAt {A1 : Option Addr} {c1 : Nat} {w : World} (p_l : List DCell) (p_time : Int) (h1 : RdS w (Iv 0 w.heap.size) R_Cell 2 A1 p_l.length c1 p_l) (o2 : (okL ok_Cell) p_l) : Cal Try.prog 14 #[.slice A1 p_l.length c1, .int .i64 (p_time)] w fun v w' => ∃ A_1 c_1 lo_1 hi_1, v = .tuple #[.slice A_1 (((s_CellsAt p_l p_time).1).length) c_1, .bool ((s_CellsAt p_l p_time).2)] ∧ OwnL w' lo_1 hi_1 63 3 (RF e_Write) A_1 (((s_CellsAt p_l p_time).1).length) c_1 ((s_CellsAt p_l p_time).1) ∧ (okL ok_Write) ((s_CellsAt p_l p_time).1) ∧ (w.heap.size ≤ lo_1 ∧ lo_1 ≤ hi_1 ∧ hi_1 ≤ w'.heap.size) ∧ Ex w w' := by
 have hol3 := o2.1
 refine Cal.of func14 rfl ntmps14 rfl (cR (sA rfl (sA rfl (dn (CW.seq (CW.seq ?_))))))
 refine CW.region (sM rfl (sd rfl (yC en26 rfl (oc rfl oz) (Cal.mono (c_s_l3Good p_l (RdS.up h1 good_Cell) o2) ?_))))
 rintro v5 w4 ⟨rfl, hE6⟩
 have hE6z := Ex.size hE6
 refine sd rfl (yl_not rfl rfl (sM rfl (bcase (s_l3Good p_l) (fun hb7 => ?_) (fun hb7 => ?_))))
 ·refine sy rfl rfl (not_t hb7) (yM rfl rfl (sy rfl rfl (not_t hb7) (yC en27 rfl (oc rfl oz) (Cal.mono (c_s_l2True p_time) ?_))))
  rintro v9 w8 ⟨rfl, hE10⟩
  have hE10z := Ex.size hE10
  refine sy rfl rfl (not_t hb7) (yl_not rfl rfl (sd rfl (yl_pick_f rfl rfl (not_t hb7) rfl (dn (bcase (s_l2True p_time) (fun hb11 => ?_) (fun hb11 => ?_))))))
  ·refine CW.cond_f rfl (not_t hb11) (CW.skip (tn (cR (sM rfl (sM rfl (sd rfl (yC en28 rfl (oc rfl (oc rfl oz)) (Cal.mono (c_s_l3All p_l p_time (RdS.up (RdS.ex good_Cell (RdS.ex good_Cell h1 hE6) hE10) good_Cell) o2) ?_))))))))
   rintro v17 w14 ⟨A15, c15, lo15, hi15, rfl, h15, ho16, hrn19, hE18⟩
   have hE18z := Ex.size hE18
   refine sA rfl (sA rfl (dn (CW.ret (rr rfl (.cons rfl (.cons rfl .nil)) ?_))))
   have hM20 : (s_CellsAt p_l p_time) = (((s_l3All p_l p_time), true)) := by simp only [s_CellsAt, hb7, hb11, cL]
   rw [hM20]
   exact ⟨A15, c15, lo15, hi15, rfl, h15, ho16, oM, (Ex.trans (Ex.trans (Ex.trans (Ex.refl w) hE6) hE10) hE18)⟩
  ·refine CW.cond_t rfl (not_f hb11) (cR (sA rfl (sA rfl (dn (CW.ret (tr ?_))))))
   refine rr rfl (.cons rfl (.cons rfl .nil)) ?_
   have hM24 : (s_CellsAt p_l p_time) = ((([] : List DWrite), false)) := by simp only [s_CellsAt, hb7, hb11, cL]
   rw [hM24]
   exact ⟨none, 0, w8.heap.size, w8.heap.size, rfl, (OwnL.nil _ _ _ _ _ _), (okL.nil _), oM, (Ex.trans (Ex.trans (Ex.refl w) hE6) hE10)⟩
 ·refine sz rfl rfl (not_f hb7) (sz rfl rfl (not_f hb7) (sz rfl rfl (not_f hb7) (sd rfl (yl_pick_t rfl rfl (not_f hb7) rfl (dn (CW.cond_t rfl rfl (cR ?_)))))))
  refine sA rfl (sA rfl (dn (CW.ret (tr (rr rfl (.cons rfl (.cons rfl .nil)) ?_)))))
  have hM27 : (s_CellsAt p_l p_time) = ((([] : List DWrite), false)) := by simp only [s_CellsAt, hb7, cL]
  rw [hM27]
  exact ⟨none, 0, w4.heap.size, w4.heap.size, rfl, (OwnL.nil _ _ _ _ _ _), (okL.nil _), oM, (Ex.trans (Ex.refl w) hE6)⟩
theorem c_s_CopyAt {A1 : Option Addr} {c1 : Nat} {w : World} (p_l : List DCell) (p_time : Int) (h1 : RdS w (Iv 0 w.heap.size) R_Cell 2 A1 p_l.length c1 p_l) (o2 : (okL ok_Cell) p_l) : Cal Try.prog 5 #[.slice A1 p_l.length c1, .int .i64 (p_time)] w fun v w' => ∃ A_1 c_1 lo_1 hi_1, v = .tuple #[.agg #[.int .i64 ((s_CopyAt p_l p_time).1.Time), .slice A_1 (((s_CopyAt p_l p_time).1.Rows).length) c_1], .bool ((s_CopyAt p_l p_time).2)] ∧ OwnL w' lo_1 hi_1 63 3 (RF e_Write) A_1 (((s_CopyAt p_l p_time).1.Rows).length) c_1 ((s_CopyAt p_l p_time).1.Rows) ∧ ok_Copy ((s_CopyAt p_l p_time).1) ∧ (w.heap.size ≤ lo_1 ∧ lo_1 ≤ hi_1 ∧ hi_1 ≤ w'.heap.size) ∧ Ex w w' := by
 have hol3 := o2.1
 refine Cal.of func5 rfl ntmps5 rfl (cR (sd rfl (yB ty26 (cs := [.int .i64 (0), .slice none 0 0]) rfl rfl ?_)))
 intro b4 w5 hs6 hz7 hB8 hE9
 refine sA rfl (dn (cR (sM rfl (sM rfl (sd rfl (yC en14 rfl (oc rfl (oc rfl oz)) (Cal.mono (c_s_CellsAt p_l p_time (RdS.up (RdS.ex good_Cell h1 hE9) good_Cell) o2) ?_)))))))
 rintro v14 w11 ⟨A12, c12, lo12, hi12, rfl, h12, ho13, hrn16, hE15⟩
 have hE15z := Ex.size hE15
 refine sM rfl (sd rfl (yl_extract rfl rfl rfl (sd rfl (yl_extract rfl rfl rfl (sA rfl (sA rfl (dn (CW.seq (CW.seq ?_)))))))))
 refine CW.region (sM rfl (sd rfl (yl_not rfl rfl (dn (bcase ((s_CellsAt p_l p_time).2) (fun hb17 => ?_) (fun hb17 => ?_))))))
 ·refine CW.cond_f rfl (not_t hb17) (CW.skip (tn (cR (sM rfl (sM rfl (sd rfl (yl_build (cs := [.int .i64 (p_time), .slice A12 (((s_CellsAt p_l p_time).1).length) c12]) rfl (oc rfl (oc rfl oz)) (by kernel_rfl) (SeqR.u rfl rfl (yl_store (vs := [.int .i64 (p_time), .slice A12 (((s_CellsAt p_l p_time).1).length) c12]) ty26 rfl rfl rfl rfl rfl rfl (Box.ex hB8 hE15) (nb rfl) ?_)))))))))
  intro w19 hB20 hO21
  have hB20 : Box w19 b4 26 [.int .i64 (p_time), .slice A12 (((s_CellsAt p_l p_time).1).length) c12] := hB20
  have hO21z := hO21.size
  refine sA rfl (dn (CW.ret (rr rfl (.cons ⟨_, rfl, run_loadN ty26 (cs := [.int .i64 (p_time), .slice A12 (((s_CellsAt p_l p_time).1).length) c12]) rfl (hB20.cells (n := 2) rfl)⟩ (.cons rfl .nil)) ?_)))
  have hM22 : (s_CopyAt p_l p_time) = (((⟨p_time, (s_CellsAt p_l p_time).1⟩ : DCopy), true)) := by simp only [s_CopyAt, hb17, cL]
  rw [hM22]
  exact ⟨A12, c12, lo12, hi12, rfl, (OwnL.only gW h12 hO21 oM), ho13, oM, (Below.only (Ex.trans (Ex.trans (Ex.refl w) hE9) hE15) hO21 oM)⟩
 ·refine CW.cond_t rfl (not_f hb17) (cR (sd rfl (yl_build (cs := [.int .i64 (0), .slice none 0 0]) rfl opvs_nil (by kernel_rfl) (SeqR.u rfl rfl (yl_store (vs := [.int .i64 (0), .slice none 0 0]) ty26 rfl rfl rfl rfl rfl rfl (Box.ex hB8 hE15) (nb rfl) ?_)))))
  intro w28 hB29 hO30
  have hB29 : Box w28 b4 26 [.int .i64 (0), .slice none 0 0] := hB29
  have hO30z := hO30.size
  refine sA rfl (dn (CW.ret (tr (rr rfl (.cons ⟨_, rfl, run_loadN ty26 (cs := [.int .i64 (0), .slice none 0 0]) rfl (hB29.cells (n := 2) rfl)⟩ (.cons rfl .nil)) ?_))))
  have hM31 : (s_CopyAt p_l p_time) = (((⟨0, []⟩ : DCopy), false)) := by simp only [s_CopyAt, hb17, cL]
  rw [hM31]
  exact ⟨none, 0, w28.heap.size, w28.heap.size, rfl, (OwnL.nil _ _ _ _ _ _), (okL.nil _), oM, (Below.only (Ex.trans (Ex.trans (Ex.refl w) hE9) hE15) hO30 oM)⟩
theorem c_l_toVer {w : World} (p_a : DVer) (o1 : ok_Ver p_a) : Cal Try.prog 40 #[.agg #[.int .i64 (p_a.Time), .string (bs (p_a.Val)), .bool (p_a.Gone)]] w fun v w' => v = .agg #[.int .i64 (p_a.Time), .string (bs (p_a.Val)), .bool (p_a.Gone)] ∧ Ex w w' := by
 have hol2 : p_a.Val.length ≤ 1073741824 := o1
 refine Cal.of func40 rfl ntmps40 rfl (cR (sd rfl (yl_box rfl rfl rfl ?_)))
 intro b3 w4 hs5 hz6 hB7 hE8
 refine sd rfl (yB ty68 (cs := [.int .i64 (0), .string (bs (([] : Str))), .bool (false)]) rfl rfl ?_)
 intro b9 w10 hs11 hz12 hB13 hE14
 refine dn (cR (sd rfl (yB ty68 (cs := [.int .i64 (0), .string (bs (([] : Str))), .bool (false)]) rfl rfl ?_)))
 intro b15 w16 hs17 hz18 hB19 hE20
 refine dn (cR (sd rfl (yl_fieldAddr fd70_0 rfl rfl ?_)))
 have q22 := Box.ex (Box.ex hB7 hE14) hE20
 refine sd rfl (yl_load1 ty3 rfl rfl ((q22.cell 0).trans rfl) (sd rfl (yl_fieldAddr fd68_0 rfl rfl (SeqR.u rfl rfl (yl_store (vs := [.int .i64 (p_a.Time)]) ty3 rfl rfl rfl rfl rfl rfl hB19 (nb rfl) ?_)))))
 intro w23 hB24 hO25
 have hB24 : Box w23 b15 68 [.int .i64 (p_a.Time), .string (bs (([] : Str))), .bool (false)] := hB24
 have hO25z := hO25.size
 refine dn (cR (sd rfl (yl_fieldAddr fd70_1 rfl rfl ?_)))
 have q26 := Box.only q22 hO25 oM
 refine sd rfl (yl_load1 ty9 rfl rfl ((q26.cell 1).trans rfl) (sd rfl (yl_fieldAddr fd68_1 rfl rfl (SeqR.u rfl rfl (yl_store (vs := [.string (bs (p_a.Val))]) ty9 rfl rfl rfl rfl rfl rfl hB24 (nb rfl) ?_)))))
 intro w27 hB28 hO29
 have hB28 : Box w27 b15 68 [.int .i64 (p_a.Time), .string (bs (p_a.Val)), .bool (false)] := hB28
 have hO29z := hO29.size
 refine dn (cR (sd rfl (yl_fieldAddr fd70_2 rfl rfl (sd rfl (yl_load1 ty4 rfl rfl (((Box.only q26 hO29 oM).cell 2).trans rfl) (sd rfl (yl_fieldAddr fd68_2 rfl rfl (SeqR.u rfl rfl (yl_store (vs := [.bool (p_a.Gone)]) ty4 rfl rfl rfl rfl rfl rfl hB28 (nb rfl) ?_)))))))))
 intro w31 hB32 hO33
 have hB32 : Box w31 b15 68 [.int .i64 (p_a.Time), .string (bs (p_a.Val)), .bool (p_a.Gone)] := hB32
 have hO33z := hO33.size
 refine dn (cR (sd rfl (yl_loadN ty68 rfl rfl (hB32.cells (n := 3) rfl) rfl (SeqR.u rfl rfl (yl_store (vs := [.int .i64 (p_a.Time), .string (bs (p_a.Val)), .bool (p_a.Gone)]) ty68 rfl rfl rfl rfl rfl rfl (Box.only (Box.only (Box.only (Box.ex hB13 hE20) hO25 oM) hO29 oM) hO33 oM) (nb rfl) ?_)))))
 intro w38 hB39 hO40
 have hB39 : Box w38 b9 68 [.int .i64 (p_a.Time), .string (bs (p_a.Val)), .bool (p_a.Gone)] := hB39
 have hO40z := hO40.size
 refine dn (CW.ret (rr rfl (.cons ⟨_, rfl, run_loadN ty68 (cs := [.int .i64 (p_a.Time), .string (bs (p_a.Val)), .bool (p_a.Gone)]) rfl (hB39.cells (n := 3) rfl)⟩ .nil) ?_))
 have hM41 : p_a = (p_a) := (to_Ver _).symm.trans <| by simp only [l_toVer, cL]
 rw [hM41]
 exact ⟨rfl, (Below.only (Below.only (Below.only (Below.only (Ex.trans (Ex.trans (Ex.trans (Ex.refl w) hE8) hE14) hE20) hO25 oM) hO29 oM) hO33 oM) hO40 oM)⟩
theorem c_l_toVerS {A1 : Option Addr} {c1 : Nat} {w : World} (p_a : List DVer) (h1 : RdS w (Iv 0 w.heap.size) (RF e_Ver) 3 A1 p_a.length c1 p_a) (o2 : (okL ok_Ver) p_a) : Cal Try.prog 29 #[.slice A1 p_a.length c1] w fun v w' => ∃ A_1 c_1 lo_1 hi_1, v = .slice A_1 p_a.length c_1 ∧ OwnL w' lo_1 hi_1 68 3 (RF e_Ver) A_1 p_a.length c_1 p_a ∧ (w.heap.size ≤ lo_1 ∧ lo_1 ≤ hi_1 ∧ hi_1 ≤ w'.heap.size) ∧ Ex w w' := by
 have hol3 := o2.1
 refine Cal.of func29 rfl ntmps29 rfl (cR (sA rfl (dn (cR (sM rfl ?_)))))
 refine sd rfl (yL un37 rfl rfl (sd rfl (yl_make (zs := [.int .i64 (0), .string (bs (([] : Str))), .bool (false)]) (n := p_a.length) un42 ty68 rfl rfl (nb rfl) rfl rfl rfl Bo Bo ?_)))
 intro b4 w5 hs6 hz7 hB8 hE9
 have hO10 : OwnL w5 b4 (b4 + 1) 68 3 (RF e_Ver) (some ⟨b4, 0, none⟩) p_a.length p_a.length (List.replicate p_a.length d_Ver) := by have := OwnL.of_boxF (lo := b4) (hi := b4 + 1) (xs := (List.replicate p_a.length d_Ver)) hB8 (Nat.le_refl _) (Nat.lt_succ_self _) (EncL.zerosF (enc := e_Ver) (d := d_Ver) rfl p_a.length) (by rw [List.length_replicate]; omega); rwa [List.length_replicate] at this
 refine sA rfl (dn (CW.seq (cR (sA rfl (dn ?_)))))
 refine CW.block (CW.loop (fun m23 L24 w25 => ∃ (k11 : Nat) (x22 : List DVer), m23 = p_a.length - k11 ∧ k11 ≤ p_a.length ∧ w5.heap.size ≤ w25.heap.size ∧ lkp L24 0 = some (.slice A1 p_a.length c1) ∧ lkp L24 3 = some (.slice (some ⟨b4, 0, none⟩) p_a.length p_a.length) ∧ lkp L24 4 = some (.int .i64 ((k11 : Int))) ∧ RdS w25 (Iv 0 w.heap.size) (RF e_Ver) 3 A1 p_a.length c1 p_a ∧ OwnL w25 b4 (b4 + 1) 68 3 (RF e_Ver) (some ⟨b4, 0, none⟩) p_a.length p_a.length x22 ∧ Ex w w25 ∧ loopM (B_l_toVerS_0 p_a) (p_a.length - k11) k11 (x22) = loopM (B_l_toVerS_0 p_a) (p_a.length - 0) 0 ((List.replicate p_a.length d_Ver))) (p_a.length - 0) ?_ ?_)
 ·exact ⟨0, (List.replicate p_a.length d_Ver), rfl, oM, Nat.le_refl _, rfl, rfl, rfl, (RdS.ex good_Ver h1 hE9), hO10, (Ex.trans (Ex.refl w) hE9), rfl⟩
 ·rintro m28 L29 w30 ⟨k11, x22, rfl, hk31, hsz33, hl34, hl35, hl36, hf37, hf38, hf39, hI32⟩
  refine CW.sub (Sub.cons hl34 (Sub.cons hl35 (Sub.cons hl36 (Sub.nil _)))) ?_
  have hf39z := Ex.size hf39
  have hbg40 := RdS.big hf37
  rcases Nat.lt_or_ge k11 p_a.length with hlt41 | hlt41
  ·refine CW.seq (cR (sM rfl (sM rfl (sd rfl (yL un37 rfl rfl (sd rfl (yl_lss rfl rfl rfl (dn ?_))))))))
   refine CW.cond_t rfl (lt_t hlt41) (CW.skip (tn (CW.seq (CW.block (CW.region (sM rfl (sM rfl (sM rfl ?_))))))))
   refine sM rfl ?_
   obtain ⟨eb42, eo42, _, eA42, _, ebl42, _, eR42, eC42⟩ := RdS.aD hf37 d_Ver (i := k11)
   obtain rfl := eR42
   have eC42 : Cells w30 eb42 (eo42 + k11 * 3) [.int .i64 ((p_a.getD k11 d_Ver).Time), .string (bs ((p_a.getD k11 d_Ver).Val)), .bool ((p_a.getD k11 d_Ver).Gone)] := eC42
   refine sd rfl (yl_ixN un37 ty70 rfl rfl rfl eA42 (sd rfl (yl_loadN ty70 rfl rfl eC42 rfl (sd rfl (yC en40 rfl (oc rfl oz) (Cal.mono (c_l_toVer (p_a.getD k11 d_Ver) (okL.getD o2 ok_d_Ver _)) ?_))))))
   rintro v44 w43 ⟨rfl, hE45⟩
   have hE45z := Ex.size hE45
   have q47 := OwnL.ex good_Ver hf38 hE45
   obtain ⟨eb48, eo48, _, eA48, _, ebl48, _, eR48, eC48⟩ := RdS.aD (OwnL.rd good_Ver q47) d_Ver (i := k11)
   obtain rfl := eR48
   have eC48 : Cells w43 eb48 (eo48 + k11 * 3) [.int .i64 ((x22.getD k11 d_Ver).Time), .string (bs ((x22.getD k11 d_Ver).Val)), .bool ((x22.getD k11 d_Ver).Gone)] := eC48
   refine sd rfl (yl_ixN un42 ty68 rfl rfl rfl eA48 ?_)
   have hrg49 := OwnL.rng q47 (i := k11) Bo eb48 (by rw [eA48]; rfl)
   refine SeqR.u rfl rfl (yl_storeF (off := eo48) (i := k11) (d := 0) (dx := d_Ver) (x' := (p_a.getD k11 d_Ver)) (vs := [.int .i64 ((p_a.getD k11 d_Ver).Time), .string (bs ((p_a.getD k11 d_Ver).Val)), .bool ((p_a.getD k11 d_Ver).Gone)]) ty68 rfl q47 eA48 rfl rfl rfl rfl rfl Bo (nb rfl) rfl rfl ?_)
   intro w50 hB51 hO52
   have hO52z := hO52.size
   refine SeqR.done (bn (tn (CW.region (sM rfl (sd rfl (yl_inc rfl rfl rfl oM (sA rfl (dn ?_))))))))
   have hB53 : B_l_toVerS_0 p_a k11 (x22) = .cont ((x22.set k11 (p_a.getD k11 d_Ver))) := by simp only [B_l_toVerS_0, cL]
   exact ⟨p_a.length - (k11 + 1), oM, k11 + 1, (x22.set k11 (p_a.getD k11 d_Ver)), rfl, hlt41, oM, rfl, rfl, rfl, (RdS.only good_Ver (RdS.ex good_Ver hf37 hE45) hO52 (by simp only [Iv]; omega)), hB51, (Below.only (Ex.trans hf39 hE45) hO52 oM), (loopM.cont hlt41 hB53).symm.trans hI32⟩
  ·refine CW.seq (cR (sM rfl (sM rfl (sd rfl (yL un37 rfl rfl (sd rfl (yl_lss rfl rfl rfl (dn ?_))))))))
   refine CW.cond_f rfl (lt_f hlt41) (CW.exit (tx (tx ?_)))
   have hL58 : loopM (B_l_toVerS_0 p_a) (p_a.length - 0) 0 ((List.replicate p_a.length d_Ver)) = .done (x22) := hI32.symm.trans (loopM.stop hlt41)
   refine bx (tn (cR (sM rfl (sA rfl (dn (CW.ret ?_))))))
   refine rr rfl (.cons rfl .nil) ?_
   have hM59 : p_a = (x22) := (to_VerS _).symm.trans <| by simp only [l_toVerS, hL58, cL]
   subst hM59
   exact ⟨(some ⟨b4, 0, none⟩), p_a.length, b4, (b4 + 1), rfl, hf38, oM, hf39⟩
theorem c_l_toCell {A1 : Option Addr} {c1 : Nat} {w : World} (p_a : DCell) (h1 : RdS w (Iv 0 w.heap.size) (RF e_Ver) 3 A1 p_a.Vers.length c1 p_a.Vers) (o2 : ok_Cell p_a) : Cal Try.prog 15 #[.agg #[.string (bs (p_a.Key)), .slice A1 p_a.Vers.length c1]] w fun v w' => ∃ A_1 c_1 lo_1 hi_1, v = .agg #[.string (bs (p_a.Key)), .slice A_1 p_a.Vers.length c_1] ∧ OwnL w' lo_1 hi_1 68 3 (RF e_Ver) A_1 p_a.Vers.length c_1 p_a.Vers ∧ (w.heap.size ≤ lo_1 ∧ lo_1 ≤ hi_1 ∧ hi_1 ≤ w'.heap.size) ∧ Ex w w' := by
 have hol3 : p_a.Key.length ≤ 1073741824 := o2.1
 have hol4 := o2.2.1
 refine Cal.of func15 rfl ntmps15 rfl (cR (sd rfl (yl_box rfl rfl rfl ?_)))
 intro b5 w6 hs7 hz8 hB9 hE10
 refine sd rfl (yB ty44 (cs := [.string (bs (([] : Str))), .slice none 0 0]) rfl rfl ?_)
 intro b11 w12 hs13 hz14 hB15 hE16
 refine dn (cR (sd rfl (yB ty44 (cs := [.string (bs (([] : Str))), .slice none 0 0]) rfl rfl ?_)))
 intro b17 w18 hs19 hz20 hB21 hE22
 refine dn (cR (sd rfl (yl_fieldAddr fd39_0 rfl rfl ?_)))
 have q24 := Box.ex (Box.ex hB9 hE16) hE22
 refine sd rfl (yl_load1 ty9 rfl rfl ((q24.cell 0).trans rfl) (sd rfl (yl_fieldAddr fd44_0 rfl rfl (SeqR.u rfl rfl (yl_store (vs := [.string (bs (p_a.Key))]) ty9 rfl rfl rfl rfl rfl rfl hB21 (nb rfl) ?_)))))
 intro w25 hB26 hO27
 have hB26 : Box w25 b17 44 [.string (bs (p_a.Key)), .slice none 0 0] := hB26
 have hO27z := hO27.size
 refine dn (cR (sd rfl (yl_fieldAddr fd39_1 rfl rfl (sd rfl (yl_load1 ty37 rfl rfl (((Box.only q24 hO27 oM).cell 1).trans rfl) (sd rfl (yC en29 rfl (oc rfl oz) (Cal.mono (c_l_toVerS p_a.Vers (RdS.up (RdS.only good_Ver (RdS.ex good_Ver (RdS.ex good_Ver (RdS.ex good_Ver h1 hE10) hE16) hE22) hO27 (by simp only [Iv]; omega)) good_Ver) o2.2) ?_))))))))
 rintro v35 w33 ⟨A34, c34, lo34, hi34, rfl, h34, hrn37, hE36⟩
 have hE36z := Ex.size hE36
 refine sd rfl (yl_fieldAddr fd44_1 rfl rfl (SeqR.u rfl rfl (yl_store (vs := [.slice A34 p_a.Vers.length c34]) ty42 rfl rfl rfl rfl rfl rfl (Box.ex hB26 hE36) (nb rfl) ?_)))
 intro w39 hB40 hO41
 have hB40 : Box w39 b17 44 [.string (bs (p_a.Key)), .slice A34 p_a.Vers.length c34] := hB40
 have hO41z := hO41.size
 refine dn (cR (sd rfl (yl_loadN ty44 rfl rfl (hB40.cells (n := 2) rfl) rfl (SeqR.u rfl rfl (yl_store (vs := [.string (bs (p_a.Key)), .slice A34 p_a.Vers.length c34]) ty44 rfl rfl rfl rfl rfl rfl (Box.only (Box.ex (Box.only (Box.ex hB15 hE22) hO27 oM) hE36) hO41 oM) (nb rfl) ?_)))))
 intro w46 hB47 hO48
 have hB47 : Box w46 b11 44 [.string (bs (p_a.Key)), .slice A34 p_a.Vers.length c34] := hB47
 have hO48z := hO48.size
 refine dn (CW.ret (rr rfl (.cons ⟨_, rfl, run_loadN ty44 (cs := [.string (bs (p_a.Key)), .slice A34 p_a.Vers.length c34]) rfl (hB47.cells (n := 2) rfl)⟩ .nil) ?_))
 have hM49 : p_a = (p_a) := (to_Cell _).symm.trans <| by simp only [l_toCell, cL]
 rw [hM49]
 exact ⟨A34, c34, lo34, hi34, rfl, (OwnL.only good_Ver (OwnL.only good_Ver h34 hO41 oM) hO48 oM), oM, (Below.only (Below.only (Ex.trans (Below.only (Ex.trans (Ex.trans (Ex.trans (Ex.refl w) hE10) hE16) hE22) hO27 oM) hE36) hO41 oM) hO48 oM)⟩
theorem c_l_toCellS {A1 : Option Addr} {c1 : Nat} {w : World} (p_a : List DCell) (h1 : RdS w (Iv 0 w.heap.size) R_Cell 2 A1 p_a.length c1 p_a) (o2 : (okL ok_Cell) p_a) : Cal Try.prog 6 #[.slice A1 p_a.length c1] w fun v w' => ∃ A_1 c_1 lo_1 hi_1, v = .slice A_1 p_a.length c_1 ∧ OwnD w' lo_1 hi_1 44 2 RO_Cell A_1 p_a.length c_1 p_a ∧ (w.heap.size ≤ lo_1 ∧ lo_1 ≤ hi_1 ∧ hi_1 ≤ w'.heap.size) ∧ Ex w w' := by
 have hol3 := o2.1
 refine Cal.of func6 rfl ntmps6 rfl (cR (sA rfl (dn (cR (sM rfl ?_)))))
 refine sd rfl (yL un22 rfl rfl (sd rfl (yl_make (zs := [.string (bs (([] : Str))), .slice none 0 0]) (n := p_a.length) un29 ty44 rfl rfl (nb rfl) rfl rfl rfl Bo Bo ?_)))
 intro b4 w5 hs6 hz7 hB8 hE9
 have hO10 : OwnK w5 b4 (b4 + 1) 44 2 RO_Cell (some ⟨b4, 0, none⟩) p_a.length [.string (bs (([] : Str))), .slice none 0 0] (p_a.take 0) := OwnK.of_box hB8 rfl oM
 refine sA rfl (dn (CW.seq (cR (sA rfl (dn ?_)))))
 refine CW.block (CW.loop (fun m29 L30 w31 => ∃ (k11 : Nat) (x27 : List DCell) (u28 : Nat), m29 = p_a.length - k11 ∧ k11 ≤ p_a.length ∧ w5.heap.size ≤ w31.heap.size ∧ lkp L30 0 = some (.slice A1 p_a.length c1) ∧ lkp L30 3 = some (.slice (some ⟨b4, 0, none⟩) p_a.length p_a.length) ∧ lkp L30 4 = some (.int .i64 ((k11 : Int))) ∧ RdS w31 (Iv 0 w.heap.size) R_Cell 2 A1 p_a.length c1 p_a ∧ OwnK w31 b4 u28 44 2 RO_Cell (some ⟨b4, 0, none⟩) p_a.length [.string (bs (([] : Str))), .slice none 0 0] (p_a.take k11) ∧ Ex w w31 ∧ (b4 ≤ u28 ∧ u28 ≤ w31.heap.size) ∧ loopM (B_l_toCellS_0 p_a) (p_a.length - k11) k11 (x27) = loopM (B_l_toCellS_0 p_a) (p_a.length - 0) 0 ((List.replicate p_a.length d_Cell))) (p_a.length - 0) ?_ ?_)
 ·exact ⟨0, (List.replicate p_a.length d_Cell), (b4 + 1), rfl, oM, Nat.le_refl _, rfl, rfl, rfl, (RdS.ex good_Cell h1 hE9), hO10, (Ex.trans (Ex.refl w) hE9), oM, rfl⟩
 ·rintro m34 L35 w36 ⟨k11, x27, u28, rfl, hk37, hsz39, hl40, hl41, hl42, hf43, hf44, hf45, hu46, hI38⟩
  refine CW.sub (Sub.cons hl40 (Sub.cons hl41 (Sub.cons hl42 (Sub.nil _)))) ?_
  have hf45z := Ex.size hf45
  have hbg47 := RdS.big hf43
  rcases Nat.lt_or_ge k11 p_a.length with hlt48 | hlt48
  ·refine CW.seq (cR (sM rfl (sM rfl (sd rfl (yL un22 rfl rfl (sd rfl (yl_lss rfl rfl rfl (dn ?_))))))))
   refine CW.cond_t rfl (lt_t hlt48) (CW.skip (tn (CW.seq (CW.block (CW.region (sM rfl (sM rfl (sM rfl ?_))))))))
   refine sM rfl ?_
   obtain ⟨_, _, _, eA49, _, ebl49, _, eR49, eC49⟩ := RdS.aD hf43 d_Cell (i := k11)
   obtain ⟨A50, c50, rfl, h50⟩ := eR49
   refine sd rfl (yl_ixN un22 ty39 rfl rfl rfl eA49 (sd rfl (yl_loadN ty39 rfl rfl eC49 rfl (sd rfl (yC en15 rfl (oc rfl oz) (Cal.mono (c_l_toCell (p_a.getD k11 d_Cell) (RdS.up h50 good_Ver) (okL.getD o2 ok_d_Cell _)) ?_))))))
   rintro v53 w51 ⟨A52, c52, lo52, hi52, rfl, h52, hrn55, hE54⟩
   have hE54z := Ex.size hE54
   refine sd rfl (yl_ixN un29 ty44 rfl rfl rfl rfl (SeqR.u rfl rfl (yl_storeK (i := k11) (l := lo52) (h := hi52) (a := (p_a.getD k11 d_Cell)) (vs := [.string (bs ((p_a.getD k11 d_Cell).Key)), .slice A52 (((p_a.getD k11 d_Cell).Vers).length) c52]) goodO_Cell ty44 rfl (OwnK.ex goodO_Cell hf44 hE54) rfl (by rw [List.length_take]; omega) hlt48 rfl rfl rfl rfl (mkO_Cell h52 ⟨Nat.le_refl _, oM, Nat.le_refl _⟩) oM oM ?_)))
   intro w61 hB62 hO63
   have hO63z := hO63.size
   refine SeqR.done (bn (tn (CW.region (sM rfl (sd rfl (yl_inc rfl rfl rfl oM (sA rfl (dn ?_))))))))
   have hB65 : B_l_toCellS_0 p_a k11 (x27) = .cont ((x27.set k11 (p_a.getD k11 d_Cell))) := by simp only [B_l_toCellS_0, cL]
   exact ⟨p_a.length - (k11 + 1), oM, k11 + 1, (x27.set k11 (p_a.getD k11 d_Cell)), hi52, rfl, hlt48, oM, rfl, rfl, rfl, (RdS.only good_Cell (RdS.ex good_Cell hf43 hE54) hO63 (by simp only [Iv]; omega)), (by rw [List.take_succ_eq_append_getElem hlt48, ← getD_eq (d := d_Cell) hlt48]; exact hB62), (Below.only (Ex.trans hf45 hE54) hO63 oM), oM, (loopM.cont hlt48 hB65).symm.trans hI38⟩
  ·refine CW.seq (cR (sM rfl (sM rfl (sd rfl (yL un22 rfl rfl (sd rfl (yl_lss rfl rfl rfl (dn ?_))))))))
   refine CW.cond_f rfl (lt_f hlt48) (CW.exit (tx (tx ?_)))
   have hL70 : loopM (B_l_toCellS_0 p_a) (p_a.length - 0) 0 ((List.replicate p_a.length d_Cell)) = .done (x27) := hI38.symm.trans (loopM.stop hlt48)
   refine bx (tn (cR (sM rfl (sA rfl (dn (CW.ret ?_))))))
   refine rr rfl (.cons rfl .nil) ?_
   have hM71 : p_a = (x27) := (to_CellS _).symm.trans <| by simp only [l_toCellS, hL70, cL]
   subst hM71
   exact ⟨(some ⟨b4, 0, none⟩), p_a.length, b4, u28, rfl, (by have h := OwnK.done hf44 (by rw [List.length_take]; omega); rwa [List.take_of_length_le oM] at h), oM, hf45⟩
theorem c_i_within {w : World} (p_n : Int) (p_low : Int) (p_high : Int) : Cal Try.prog 32 #[.int .i64 (p_n), .int .i64 (p_low), .int .i64 (p_high)] w fun v w' => v = .bool ((i_within p_n p_low p_high)) ∧ Ex w w' := by
 refine Cal.of func32 rfl ntmps32 rfl (cR (sA rfl (dn (cR (sM rfl ?_)))))
 refine sM rfl (sd rfl (yl_geq rfl rfl rfl (sM rfl (bcase (decide (p_low ≤ p_n)) (fun hb1 => ?_) (fun hb1 => ?_)))))
 ·have hb1p := dec_t hb1
  refine sy rfl rfl hb1 (yM rfl rfl (sy rfl rfl hb1 (yM rfl rfl (sy rfl rfl hb1 (yl_leq rfl rfl rfl (sd rfl (yl_pick_t rfl rfl hb1 rfl (sA rfl (dn (CW.ret (rr rfl (.cons rfl .nil) ?_)))))))))))
  have hM2 : (i_within p_n p_low p_high) = (decide (p_n ≤ p_high)) := by simp only [i_within, hb1, cL]
  rw [hM2]
  exact ⟨rfl, (Ex.refl w)⟩
 ·have hb1p := dec_f hb1
  refine sz rfl rfl hb1 (sz rfl rfl hb1 (sz rfl rfl hb1 (sd rfl (yl_pick_f rfl rfl hb1 rfl (sA rfl (dn (CW.ret (rr rfl (.cons rfl .nil) ?_))))))))
  have hM3 : (i_within p_n p_low p_high) = (false) := by simp only [i_within, hb1, cL]
  rw [hM3]
  exact ⟨rfl, (Ex.refl w)⟩
theorem c_i_isTime {w : World} (p_t : Int) : Cal Try.prog 41 #[.int .i64 (p_t)] w fun v w' => v = .bool ((i_isTime p_t)) ∧ Ex w w' := by
 refine Cal.of func41 rfl ntmps41 rfl (cR (sA rfl (dn (cR (sM rfl ?_)))))
 refine sd rfl (yC en32 rfl (oc rfl (oc rfl (oc rfl oz))) (Cal.mono (c_i_within p_t 1 100000) ?_))
 rintro v2 w1 ⟨rfl, hE3⟩
 refine sA rfl (dn (CW.ret (rr rfl (.cons rfl .nil) ?_)))
 have hM4 : (i_isTime p_t) = ((i_within p_t 1 100000)) := by simp only [i_isTime, cL]
 rw [hM4]
 exact ⟨rfl, (Ex.trans (Ex.refl w) hE3)⟩
theorem c_i_isLowerOrDigit {w : World} (p_b : Int) : Cal Try.prog 54 #[.int .u8 (p_b)] w fun v w' => v = .bool ((i_isLowerOrDigit p_b)) ∧ Ex w w' := by
 refine Cal.of func54 rfl ntmps54 rfl (cR (sA rfl (dn (cR (sM rfl ?_)))))
 refine sd rfl (yl_geq rfl rfl rfl (sM rfl (bcase (decide (97 ≤ p_b)) (fun hb1 => ?_) (fun hb1 => ?_))))
 ·have hb1p := dec_t hb1
  refine sy rfl rfl hb1 (yM rfl rfl (sy rfl rfl hb1 (yl_leq rfl rfl rfl (sd rfl (yl_pick_t rfl rfl hb1 rfl (sM rfl (bcase (decide (p_b ≤ 122)) (fun hb2 => ?_) (fun hb2 => ?_))))))))
  ·have hb2p := dec_t hb2
   refine sz rfl rfl hb2 (sz rfl rfl hb2 (sz rfl rfl hb2 (sq rfl rfl (sq rfl rfl (sz rfl rfl hb2 (sd rfl (yl_pick_t rfl rfl hb2 rfl (sA rfl (SeqR.done ?_)))))))))
   refine tn (CW.ret (rr rfl (.cons rfl .nil) ?_))
   have hM3 : (i_isLowerOrDigit p_b) = (true) := by simp only [i_isLowerOrDigit, hb1, hb2, cL]
   rw [hM3]
   exact ⟨rfl, (Ex.refl w)⟩
  ·have hb2p := dec_f hb2
   refine sy rfl rfl hb2 (yM rfl rfl (sy rfl rfl hb2 (yl_geq rfl rfl rfl (sy rfl rfl hb2 (yM rfl rfl (bcase (decide (48 ≤ p_b)) (fun hb4 => ?_) (fun hb4 => ?_)))))))
   ·have hb4p := dec_t hb4
    refine sy rfl rfl hb4 (yM rfl rfl (sy rfl rfl hb4 (yl_leq rfl rfl rfl (sy rfl rfl hb2 (yl_pick_t rfl rfl hb4 rfl (sd rfl (yl_pick_f rfl rfl hb2 rfl (sA rfl (dn (CW.ret (rr rfl (.cons rfl .nil) ?_)))))))))))
    have hM5 : (i_isLowerOrDigit p_b) = (decide (p_b ≤ 57)) := by simp only [i_isLowerOrDigit, hb1, hb2, hb4, cL]
    rw [hM5]
    exact ⟨rfl, (Ex.refl w)⟩
   ·have hb4p := dec_f hb4
    refine sz rfl rfl hb4 (sz rfl rfl hb4 (sy rfl rfl hb2 (yl_pick_f rfl rfl hb4 rfl (sd rfl (yl_pick_f rfl rfl hb2 rfl (sA rfl (dn (CW.ret (rr rfl (.cons rfl .nil) ?_)))))))))
    have hM6 : (i_isLowerOrDigit p_b) = (false) := by simp only [i_isLowerOrDigit, hb1, hb2, hb4, cL]
    rw [hM6]
    exact ⟨rfl, (Ex.refl w)⟩
 ·have hb1p := dec_f hb1
  refine sz rfl rfl hb1 (sz rfl rfl hb1 (sd rfl (yl_pick_f rfl rfl hb1 rfl (sM rfl (sy rfl rfl rfl (yM rfl rfl (sy rfl rfl rfl (yl_geq rfl rfl rfl (sy rfl rfl rfl (yM rfl rfl (bcase (decide (48 ≤ p_b)) (fun hb7 => ?_) (fun hb7 => ?_))))))))))))
  ·have hb7p := dec_t hb7
   refine sy rfl rfl hb7 (yM rfl rfl (sy rfl rfl hb7 (yl_leq rfl rfl rfl (sy rfl rfl rfl (yl_pick_t rfl rfl hb7 rfl (sd rfl (yl_pick_f rfl rfl rfl rfl (sA rfl (dn (CW.ret (rr rfl (.cons rfl .nil) ?_)))))))))))
   have hM8 : (i_isLowerOrDigit p_b) = (decide (p_b ≤ 57)) := by simp only [i_isLowerOrDigit, hb1, hb7, cL]
   rw [hM8]
   exact ⟨rfl, (Ex.refl w)⟩
  ·have hb7p := dec_f hb7
   refine sz rfl rfl hb7 (sz rfl rfl hb7 (sy rfl rfl rfl (yl_pick_f rfl rfl hb7 rfl (sd rfl (yl_pick_f rfl rfl rfl rfl (sA rfl (dn (CW.ret (rr rfl (.cons rfl .nil) ?_)))))))))
   have hM9 : (i_isLowerOrDigit p_b) = (false) := by simp only [i_isLowerOrDigit, hb1, hb7, cL]
   rw [hM9]
   exact ⟨rfl, (Ex.refl w)⟩
theorem c_g_internal_stringslite_IndexByte {w : World} (p_s : Str) (p_c : Int) (o1 : okS p_s) : Cal Try.prog 56 #[.string (bs (p_s)), .int .u8 (p_c)] w fun v w' => v = .int .i64 ((g_internal_stringslite_IndexByte p_s p_c)) ∧ Ex w w' := by
 refine Cal.of func56 rfl ntmps56 rfl (cR (sA rfl (dn (cR (sM rfl ?_)))))
 refine sM rfl (sd rfl (yl_idxB (s := p_s) (c := p_c) Try.ex57 rfl (oc rfl (oc rfl oz)) (sA rfl (dn (CW.ret (rr rfl (.cons rfl .nil) ?_))))))
 have hM3 : (g_internal_stringslite_IndexByte p_s p_c) = (idxB p_s p_c) := by simp only [g_internal_stringslite_IndexByte, cL]
 rw [hM3]
 exact ⟨rfl, (Ex.refl w)⟩
theorem c_g_strings_IndexByte {w : World} (p_s : Str) (p_c : Int) (o1 : okS p_s) : Cal Try.prog 55 #[.string (bs (p_s)), .int .u8 (p_c)] w fun v w' => v = .int .i64 ((g_strings_IndexByte p_s p_c)) ∧ Ex w w' := by
 refine Cal.of func55 rfl ntmps55 rfl (cR (sA rfl (dn (cR (sM rfl ?_)))))
 refine sM rfl (sd rfl (yC en56 rfl (oc rfl (oc rfl oz)) (Cal.mono (c_g_internal_stringslite_IndexByte p_s p_c o1) ?_)))
 rintro v4 w3 ⟨rfl, hE5⟩
 refine sA rfl (dn (CW.ret (rr rfl (.cons rfl .nil) ?_)))
 have hM6 : (g_strings_IndexByte p_s p_c) = ((g_internal_stringslite_IndexByte p_s p_c)) := by simp only [g_strings_IndexByte, cL]
 rw [hM6]
 exact ⟨rfl, (Ex.trans (Ex.refl w) hE5)⟩
theorem c_i_hasBytes {w : World} (p_s : Str) (p_others : Str) (o1 : okS p_s) (o2 : okS p_others) : Cal Try.prog 50 #[.string (bs (p_s)), .string (bs (p_others))] w fun v w' => v = .bool ((i_hasBytes p_s p_others)) ∧ Ex w w' := by
 have hol3 : p_s.length ≤ 1073741824 := o1
 have hol4 : p_others.length ≤ 1073741824 := o2
 refine Cal.of func50 rfl ntmps50 rfl (cR (sA rfl (dn (CW.seq (cR ?_)))))
 refine sM rfl (sd rfl (yl_slen un9 (a := p_s) rfl rfl (sM rfl (dn (CW.block (CW.loop (fun m6 L7 w8 => ∃ (k5 : Nat), m6 = p_s.length - k5 ∧ k5 ≤ p_s.length ∧ w.heap.size ≤ w8.heap.size ∧ lkp L7 0 = some (.string (bs (p_s))) ∧ lkp L7 1 = some (.string (bs (p_others))) ∧ lkp L7 7 = some (.int .i64 ((p_s.length : Int))) ∧ lkp L7 8 = some (.int .i64 ((k5 : Int))) ∧ Ex w w8 ∧ loopM (B_i_hasBytes_0 p_s p_others) (p_s.length - k5) k5 () = loopM (B_i_hasBytes_0 p_s p_others) (p_s.length - 0) 0 ()) (p_s.length - 0) ?_ ?_))))))
 ·exact ⟨0, rfl, oM, Nat.le_refl _, rfl, rfl, rfl, rfl, (Ex.refl w), rfl⟩
 ·rintro m9 L10 w11 ⟨k5, rfl, hk12, hsz14, hl15, hl16, hl17, hl18, hf19, hI13⟩
  refine CW.sub (Sub.cons hl15 (Sub.cons hl16 (Sub.cons hl17 (Sub.cons hl18 (Sub.nil _))))) ?_
  have hf19z := Ex.size hf19
  have hbg20 : p_s.length ≤ 1073741824 := o1
  rcases Nat.lt_or_ge k5 p_s.length with hlt21 | hlt21
  ·refine cR (sd rfl (yl_lss rfl rfl rfl (dn (CW.seq (CW.cond_t rfl (lt_t hlt21) (CW.skip (tn ?_)))))))
   refine CW.seq (CW.block (cR (sM rfl (sA rfl (dn (CW.seq ?_))))))
   refine CW.region (sM rfl (sM rfl (sd rfl (yl_sindexN un9 (a := p_s) rfl rfl rfl Bo (sd rfl (yC en54 rfl (oc rfl oz) (Cal.mono (c_i_isLowerOrDigit ((p_s.getD k5 0).toNat : Int)) ?_)))))))
   rintro v23 w22 ⟨rfl, hE24⟩
   have hE24z := Ex.size hE24
   refine sd rfl (yl_not rfl rfl (sM rfl (bcase (i_isLowerOrDigit ((p_s.getD k5 0).toNat : Int)) (fun hb25 => ?_) (fun hb25 => ?_))))
   ·refine sz rfl rfl (not_t hb25) (sz rfl rfl (not_t hb25) (sz rfl rfl (not_t hb25) (sz rfl rfl (not_t hb25) (sz rfl rfl (not_t hb25) (sz rfl rfl (not_t hb25) (sd rfl (yl_pick_f rfl rfl (not_t hb25) rfl (dn ?_))))))))
    refine CW.cond_f rfl rfl (CW.skip (bn (tn (CW.region (sd rfl (yl_inc rfl rfl rfl oM (sM rfl (dn ?_))))))))
    have hB26 : B_i_hasBytes_0 p_s p_others k5 () = .cont () := by simp only [B_i_hasBytes_0, hb25, cL]
    exact ⟨p_s.length - (k5 + 1), oM, k5 + 1, rfl, hlt21, oM, rfl, rfl, rfl, rfl, (Ex.trans hf19 hE24), (loopM.cont hlt21 hB26).symm.trans hI13⟩
   ·refine sy rfl rfl (not_f hb25) (yM rfl rfl (sy rfl rfl (not_f hb25) (yM rfl rfl (sy rfl rfl (not_f hb25) (yM rfl rfl (sy rfl rfl (not_f hb25) (yl_sindexN un9 (a := p_s) rfl rfl rfl Bo (sy rfl rfl (not_f hb25) (yC en55 rfl (oc rfl (oc rfl oz)) (Cal.mono (c_g_strings_IndexByte p_others ((p_s.getD k5 0).toNat : Int) o2) ?_))))))))))
    rintro v29 w28 ⟨rfl, hE30⟩
    have hE30z := Ex.size hE30
    refine sy rfl rfl (not_f hb25) (yl_lss rfl rfl rfl (sd rfl (yl_pick_t rfl rfl (not_f hb25) rfl (dn (bcase (decide ((g_strings_IndexByte p_others ((p_s.getD k5 0).toNat : Int)) < 0)) (fun hb31 => ?_) (fun hb31 => ?_))))))
    ·have hb31p := dec_t hb31
     refine CW.cond_t rfl hb31 (cR (sA rfl (dn (CW.ret (br (tr ?_))))))
     refine tr ?_
     have hB33 : B_i_hasBytes_0 p_s p_others k5 () = .ret false := by simp only [B_i_hasBytes_0, hb25, hb31, cL]
     have hL32 : loopM (B_i_hasBytes_0 p_s p_others) (p_s.length - 0) 0 () = .ret false := hI13.symm.trans (loopM.ret hlt21 hB33)
     refine br (tr (rr rfl (.cons rfl .nil) ?_))
     have hM34 : (i_hasBytes p_s p_others) = (false) := by simp only [i_hasBytes, hb25, hb31, hL32, cL]
     rw [hM34]
     exact ⟨rfl, (Ex.trans (Ex.trans hf19 hE24) hE30)⟩
    ·have hb31p := dec_f hb31
     refine CW.cond_f rfl hb31 (CW.skip (bn (tn (CW.region (sd rfl (yl_inc rfl rfl rfl oM (sM rfl (dn ?_))))))))
     have hB37 : B_i_hasBytes_0 p_s p_others k5 () = .cont () := by simp only [B_i_hasBytes_0, hb25, hb31, cL]
     exact ⟨p_s.length - (k5 + 1), oM, k5 + 1, rfl, hlt21, oM, rfl, rfl, rfl, rfl, (Ex.trans (Ex.trans hf19 hE24) hE30), (loopM.cont hlt21 hB37).symm.trans hI13⟩
  ·refine cR (sd rfl (yl_lss rfl rfl rfl (dn (CW.seq (CW.cond_f rfl (lt_f hlt21) (CW.exit (tx ?_)))))))
   refine tx ?_
   have hL40 : loopM (B_i_hasBytes_0 p_s p_others) (p_s.length - 0) 0 () = .done () := hI13.symm.trans (loopM.stop hlt21)
   refine bx (tn (cR (sA rfl (dn (CW.ret (rr rfl (.cons rfl .nil) ?_))))))
   have hM41 : (i_hasBytes p_s p_others) = (true) := by simp only [i_hasBytes, hL40, cL]
   rw [hM41]
   exact ⟨rfl, hf19⟩
theorem c_i_GoodVal {w : World} (p_s : Str) (o1 : okS p_s) : Cal Try.prog 49 #[.string (bs (p_s))] w fun v w' => v = .bool ((i_GoodVal p_s)) ∧ Ex w w' := by
 refine Cal.of func49 rfl ntmps49 rfl (cR (sA rfl (dn (cR (sM rfl ?_)))))
 refine sd rfl (yl_slen un9 (a := p_s) rfl rfl (sd rfl (yl_leq rfl rfl rfl (sM rfl (bcase (decide ((p_s.length : Int) ≤ 24)) (fun hb3 => ?_) (fun hb3 => ?_))))))
 ·have hb3p := dec_t hb3
  refine sy rfl rfl hb3 (yM rfl rfl (sy rfl rfl hb3 (yC en50 rfl (oc rfl (oc rfl oz)) (Cal.mono (c_i_hasBytes p_s ([46, 45, 44, 95] : Str) o1 (okS.lit rfl)) ?_))))
  rintro v5 w4 ⟨rfl, hE6⟩
  refine sd rfl (yl_pick_t rfl rfl hb3 rfl (sA rfl (dn (CW.ret (rr rfl (.cons rfl .nil) ?_)))))
  have hM7 : (i_GoodVal p_s) = ((i_hasBytes p_s ([46, 45, 44, 95] : Str))) := by simp only [i_GoodVal, hb3, cL]
  rw [hM7]
  exact ⟨rfl, (Ex.trans (Ex.refl w) hE6)⟩
 ·have hb3p := dec_f hb3
  refine sz rfl rfl hb3 (sz rfl rfl hb3 (sd rfl (yl_pick_f rfl rfl hb3 rfl (sA rfl (dn (CW.ret (rr rfl (.cons rfl .nil) ?_)))))))
  have hM9 : (i_GoodVal p_s) = (false) := by simp only [i_GoodVal, hb3, cL]
  rw [hM9]
  exact ⟨rfl, (Ex.refl w)⟩
theorem c_i_isStored {w : World} (p_val : Str) (p_gone : Bool) (o1 : okS p_val) : Cal Try.prog 42 #[.string (bs (p_val)), .bool (p_gone)] w fun v w' => v = .bool ((i_isStored p_val p_gone)) ∧ Ex w w' := by
 refine Cal.of func42 rfl ntmps42 rfl (cR (sA rfl (dn (cR (sM rfl ?_)))))
 refine sd rfl (yC en49 rfl (oc rfl oz) (Cal.mono (c_i_GoodVal p_val o1) ?_))
 rintro v4 w3 ⟨rfl, hE5⟩
 refine sM rfl (bcase (i_GoodVal p_val) (fun hb6 => ?_) (fun hb6 => ?_))
 ·refine sy rfl rfl hb6 (yM rfl rfl (sy rfl rfl hb6 (yM rfl rfl (bcase (p_gone) (fun hb7 => ?_) (fun hb7 => ?_)))))
  ·refine sy rfl rfl hb7 (yM rfl rfl (sy rfl rfl hb7 (yl_sneq (a := p_val) (b := ([] : Str)) rfl rfl rfl (sy rfl rfl hb6 (yl_pick_t rfl rfl hb7 rfl (sy rfl rfl hb6 (yl_not rfl rfl (sd rfl (yl_pick_t rfl rfl hb6 rfl (sA rfl (dn (CW.ret ?_))))))))))))
   refine rr rfl (.cons rfl .nil) ?_
   have hM8 : (i_isStored p_val p_gone) = (!(!(p_val == ([] : Str)))) := by simp only [i_isStored, hb6, hb7, cL]
   rw [hM8]
   exact ⟨rfl, (Ex.trans (Ex.refl w) hE5)⟩
  ·refine sz rfl rfl hb7 (sz rfl rfl hb7 (sy rfl rfl hb6 (yl_pick_f rfl rfl hb7 rfl (sy rfl rfl hb6 (yl_not rfl rfl (sd rfl (yl_pick_t rfl rfl hb6 rfl (sA rfl (dn (CW.ret ?_))))))))))
   refine rr rfl (.cons rfl .nil) ?_
   have hM10 : (i_isStored p_val p_gone) = (!false) := by simp only [i_isStored, hb6, hb7, cL]
   rw [hM10]
   exact ⟨rfl, (Ex.trans (Ex.refl w) hE5)⟩
 ·refine sz rfl rfl hb6 (sz rfl rfl hb6 (sq rfl rfl (sq rfl rfl (sz rfl rfl hb6 (sz rfl rfl hb6 (sd rfl (yl_pick_f rfl rfl hb6 rfl (sA rfl (SeqR.done ?_)))))))))
  refine tn (CW.ret (rr rfl (.cons rfl .nil) ?_))
  have hM12 : (i_isStored p_val p_gone) = (false) := by simp only [i_isStored, hb6, cL]
  rw [hM12]
  exact ⟨rfl, (Ex.trans (Ex.refl w) hE5)⟩
theorem c_i_isCell {A1 : Option Addr} {c1 : Nat} {w : World} (p_c : DCell) (h1 : RdS w (Iv 0 w.heap.size) (RF e_Ver) 3 A1 p_c.Vers.length c1 p_c.Vers) (o2 : ok_Cell p_c) : Cal Try.prog 30 #[.agg #[.string (bs (p_c.Key)), .slice A1 p_c.Vers.length c1]] w fun v w' => v = .bool ((i_isCell p_c)) ∧ Ex w w' := by
 have hol3 : p_c.Key.length ≤ 1073741824 := o2.1
 have hol4 := o2.2.1
 refine Cal.of func30 rfl ntmps30 rfl (cR (sd rfl (yl_box rfl rfl rfl ?_)))
 intro b5 w6 hs7 hz8 hB9 hE10
 refine sA rfl (dn (CW.seq (cR (sd rfl (yl_fieldAddr fd44_1 rfl rfl (sd rfl (yl_load1 ty42 rfl rfl ((hB9.cell 1).trans rfl) (sd rfl (yL un42 rfl rfl ?_)))))))))
 refine sM rfl (dn (CW.block (CW.loop (fun m39 L40 w41 => ∃ (k11 : Nat), m39 = p_c.Vers.length - k11 ∧ k11 ≤ p_c.Vers.length ∧ w6.heap.size ≤ w41.heap.size ∧ lkp L40 1 = some (.pointer (some ⟨b5, 0, none⟩)) ∧ lkp L40 6 = some (.slice A1 p_c.Vers.length c1) ∧ lkp L40 7 = some (.int .i64 ((p_c.Vers.length : Int))) ∧ lkp L40 8 = some (.int .i64 ((k11 : Int))) ∧ Box w41 b5 44 [.string (bs (p_c.Key)), .slice A1 p_c.Vers.length c1] ∧ RdS w41 (Iv 0 w.heap.size) (RF e_Ver) 3 A1 p_c.Vers.length c1 p_c.Vers ∧ Ex w w41 ∧ loopM (B_i_isCell_0 p_c) (p_c.Vers.length - k11) k11 () = loopM (B_i_isCell_0 p_c) (p_c.Vers.length - 0) 0 ()) (p_c.Vers.length - 0) ?_ ?_)))
 ·exact ⟨0, rfl, oM, Nat.le_refl _, rfl, rfl, rfl, rfl, hB9, (RdS.ex good_Ver h1 hE10), (Ex.trans (Ex.refl w) hE10), rfl⟩
 ·rintro m44 L45 w46 ⟨k11, rfl, hk47, hsz49, hl50, hl51, hl52, hl53, hf54, hf55, hf56, hI48⟩
  refine CW.sub (Sub.cons hl50 (Sub.cons hl51 (Sub.cons hl52 (Sub.cons hl53 (Sub.nil _))))) ?_
  have hf54z := Box.lt hf54
  have hf56z := Ex.size hf56
  have hbg57 := RdS.big hf55
  rcases Nat.lt_or_ge k11 p_c.Vers.length with hlt58 | hlt58
  ·refine cR (sd rfl (yl_lss rfl rfl rfl (dn (CW.seq (CW.cond_t rfl (lt_t hlt58) (CW.skip (tn ?_)))))))
   refine CW.seq (CW.block (cR (sM rfl ?_)))
   obtain ⟨eb59, eo59, _, eA59, _, ebl59, _, eR59, eC59⟩ := RdS.aD hf55 d_Ver (i := k11)
   obtain rfl := eR59
   have eC59 : Cells w46 eb59 (eo59 + k11 * 3) [.int .i64 ((p_c.Vers.getD k11 d_Ver).Time), .string (bs ((p_c.Vers.getD k11 d_Ver).Val)), .bool ((p_c.Vers.getD k11 d_Ver).Gone)] := eC59
   refine sd rfl (yl_ixN un42 ty68 rfl rfl rfl eA59 (sd rfl (yl_loadN ty68 rfl rfl eC59 rfl (sd rfl (yB ty68 (cs := [.int .i64 (0), .string (bs (([] : Str))), .bool (false)]) rfl rfl ?_)))))
   intro b60 w61 hs62 hz63 hB64 hE65
   refine sA rfl (SeqR.u rfl rfl (yl_store (vs := [.int .i64 ((p_c.Vers.getD k11 d_Ver).Time), .string (bs ((p_c.Vers.getD k11 d_Ver).Val)), .bool ((p_c.Vers.getD k11 d_Ver).Gone)]) ty68 rfl rfl rfl rfl rfl rfl hB64 (nb rfl) ?_))
   intro w66 hB67 hO68
   have hB67 : Box w66 b60 68 [.int .i64 ((p_c.Vers.getD k11 d_Ver).Time), .string (bs ((p_c.Vers.getD k11 d_Ver).Val)), .bool ((p_c.Vers.getD k11 d_Ver).Gone)] := hB67
   have hO68z := hO68.size
   refine dn (CW.seq (bcase (i_isTime ((p_c.Vers.getD k11 d_Ver).Time)) (fun hb70 => ?_) (fun hb70 => ?_)))
   ·refine bcase (i_isStored ((p_c.Vers.getD k11 d_Ver).Val) ((p_c.Vers.getD k11 d_Ver).Gone)) (fun hb73 => ?_) (fun hb73 => ?_)
    ·refine bcase (decide (0 < (k11 : Int))) (fun hb76 => ?_) (fun hb76 => ?_)
     ·have hb76p := dec_t hb76
      have q80 := Box.only (Box.ex hf54 hE65) hO68 oM
      have q82 := RdS.only good_Ver (RdS.ex good_Ver hf55 hE65) hO68 (by simp only [Iv]; omega)
      obtain ⟨eb83, eo83, _, eA83, _, ebl83, _, eR83, eC83⟩ := RdS.atD q82 d_Ver (i := (IntKind.wrap .i64 ((k11 : Int) - 1)).toNat) Bo
      obtain rfl := eR83
      have eC83 : Cells w66 eb83 (eo83 + ((IntKind.wrap .i64 ((k11 : Int) - 1)).toNat) * 3) [.int .i64 ((p_c.Vers.getD ((IntKind.wrap .i64 ((k11 : Int) - 1)).toNat) d_Ver).Time), .string (bs ((p_c.Vers.getD ((IntKind.wrap .i64 ((k11 : Int) - 1)).toNat) d_Ver).Val)), .bool ((p_c.Vers.getD ((IntKind.wrap .i64 ((k11 : Int) - 1)).toNat) d_Ver).Gone)] := eC83
      refine drI 28 [.pointer (some ⟨b60, 0 + 0, none⟩), .int .i64 ((p_c.Vers.getD k11 d_Ver).Time), .bool ((i_isTime ((p_c.Vers.getD k11 d_Ver).Time))), .bool (!(i_isTime ((p_c.Vers.getD k11 d_Ver).Time))), .bool (!(i_isTime ((p_c.Vers.getD k11 d_Ver).Time))), .pointer (some ⟨b60, 0 + 1, none⟩), .string (bs ((p_c.Vers.getD k11 d_Ver).Val)), .pointer (some ⟨b60, 0 + 2, none⟩), .bool ((p_c.Vers.getD k11 d_Ver).Gone), .bool ((i_isStored ((p_c.Vers.getD k11 d_Ver).Val) ((p_c.Vers.getD k11 d_Ver).Gone))), .bool (!(i_isStored ((p_c.Vers.getD k11 d_Ver).Val) ((p_c.Vers.getD k11 d_Ver).Gone))), .bool (!(i_isStored ((p_c.Vers.getD k11 d_Ver).Val) ((p_c.Vers.getD k11 d_Ver).Gone))), .bool (!(i_isStored ((p_c.Vers.getD k11 d_Ver).Val) ((p_c.Vers.getD k11 d_Ver).Gone))), .int .i64 ((k11 : Int)), .bool (decide (0 < (k11 : Int))), .bool (decide (0 < (k11 : Int))), .pointer (some ⟨b60, 0 + 0, none⟩), .int .i64 ((p_c.Vers.getD k11 d_Ver).Time), .pointer (some ⟨b5, 0 + 1, none⟩), .slice A1 p_c.Vers.length c1, .int .i64 ((k11 : Int)), .int .i64 (IntKind.wrap .i64 ((k11 : Int) - 1)), .pointer (some ⟨eb83, eo83 + ((IntKind.wrap .i64 ((k11 : Int) - 1)).toNat) * 3, none⟩), .pointer (some ⟨eb83, eo83 + ((IntKind.wrap .i64 ((k11 : Int) - 1)).toNat) * 3 + 0, none⟩), .int .i64 ((p_c.Vers.getD ((IntKind.wrap .i64 ((k11 : Int) - 1)).toNat) d_Ver).Time), .bool (decide (((p_c.Vers.getD k11 d_Ver).Time) ≤ ((p_c.Vers.getD ((IntKind.wrap .i64 ((k11 : Int) - 1)).toNat) d_Ver).Time))), .bool (decide (((p_c.Vers.getD k11 d_Ver).Time) ≤ ((p_c.Vers.getD ((IntKind.wrap .i64 ((k11 : Int) - 1)).toNat) d_Ver).Time))), .bool (decide (((p_c.Vers.getD k11 d_Ver).Time) ≤ ((p_c.Vers.getD ((IntKind.wrap .i64 ((k11 : Int) - 1)).toNat) d_Ver).Time)))] Try.follows rfl ⟨?_, ?_, ?_, ?_, ?_, ?_, ?_, ?_, ?_, ?_, ?_, ?_, ?_, ?_, ?_, ?_, ?_, ?_, ?_, ?_, ?_, ?_, ?_, ?_, ?_, ?_, ?_, ?_, trivial⟩ ?_
      ·exact oI rfl fun h => yl_fieldAddr fd68_0 rfl (h.old 4 _ rfl rfl) kI
      ·exact oI rfl fun h => yl_load1 ty3 rfl (h.dt 0 13 rfl rfl rfl) (((Box.ex hB67 h.ex).cell 0).trans rfl) kI
      ·intro L95 w96 hi97
       exact OpR.op' rfl (yC en41 rfl (oc (hi97.dt 1 14 rfl rfl rfl) oz) (Cal.mono (c_i_isTime ((p_c.Vers.getD k11 d_Ver).Time)) fun _ _ h => h))
      ·exact oI rfl fun h => yl_not rfl (h.dt 2 15 rfl rfl rfl) kI
      ·exact oI rfl fun h => yM rfl (h.dt 3 16 rfl rfl rfl) kI
      ·exact oW rfl rfl rfl rfl (not_t hb70) fun h => yl_fieldAddr fd68_1 rfl (h.old 4 _ rfl rfl) kI
      ·exact oW rfl rfl rfl rfl (not_t hb70) fun h => yl_load1 ty9 rfl (h.dt 5 18 rfl rfl rfl) (((Box.ex hB67 h.ex).cell 1).trans rfl) kI
      ·exact oW rfl rfl rfl rfl (not_t hb70) fun h => yl_fieldAddr fd68_2 rfl (h.old 4 _ rfl rfl) kI
      ·exact oW rfl rfl rfl rfl (not_t hb70) fun h => yl_load1 ty4 rfl (h.dt 7 20 rfl rfl rfl) (((Box.ex hB67 h.ex).cell 2).trans rfl) kI
      ·intro L139 w140 hi141
       exact OpR.want rfl rfl (hi141.dt 4 17 rfl rfl rfl) (not_t hb70) (yC en42 rfl (oc (hi141.dt 6 19 rfl rfl rfl) (oc (hi141.dt 8 21 rfl rfl rfl) oz)) (Cal.mono (c_i_isStored ((p_c.Vers.getD k11 d_Ver).Val) ((p_c.Vers.getD k11 d_Ver).Gone) (okL.getD o2.2 ok_d_Ver _)) fun _ _ h => h))
      ·exact oW rfl rfl rfl rfl (not_t hb70) fun h => yl_not rfl (h.dt 9 22 rfl rfl rfl) kI
      ·exact oI rfl fun h => yl_pick_f rfl (h.dt 4 17 rfl rfl rfl) (not_t hb70) (h.dt 10 23 rfl rfl rfl) kI
      ·exact oI rfl fun h => yM rfl (h.dt 11 24 rfl rfl rfl) kI
      ·exact oW rfl rfl rfl rfl (not_t hb73) fun h => yM rfl (h.old 3 _ rfl rfl) kI
      ·exact oW rfl rfl rfl rfl (not_t hb73) fun h => yl_gtr rfl (h.dt 13 26 rfl rfl rfl) rfl kI
      ·exact oW rfl rfl rfl rfl (not_t hb73) fun h => yM rfl (h.dt 14 27 rfl rfl rfl) kI
      ·exact oW rfl rfl rfl rfl hb76 fun h => yl_fieldAddr fd68_0 rfl (h.old 4 _ rfl rfl) kI
      ·exact oW rfl rfl rfl rfl hb76 fun h => yl_load1 ty3 rfl (h.dt 16 29 rfl rfl rfl) (((Box.ex hB67 h.ex).cell 0).trans rfl) kI
      ·exact oW rfl rfl rfl rfl hb76 fun h => yl_fieldAddr fd44_1 rfl (h.old 1 _ rfl rfl) kI
      ·exact oW rfl rfl rfl rfl hb76 fun h => yl_load1 ty42 rfl (h.dt 18 31 rfl rfl rfl) (((Box.ex q80 h.ex).cell 1).trans rfl) kI
      ·exact oW rfl rfl rfl rfl hb76 fun h => yM rfl (h.old 3 _ rfl rfl) kI
      ·exact oW rfl rfl rfl rfl hb76 fun h => yl_sub rfl (h.dt 20 33 rfl rfl rfl) rfl kI
      ·intro L222 w223 hi224
       have hE225 := hi224.ex
       have hE225z := Ex.size hE225
       exact OpR.want rfl rfl (hi224.dt 15 28 rfl rfl rfl) hb76 (Yl.sameI (yl_indexAddr un42 ty68 rfl (hi224.dt 19 32 rfl rfl rfl) (hi224.dt 21 34 rfl rfl rfl) eA83 Bo Bo kI))
      ·exact oW rfl rfl rfl rfl hb76 fun h => yl_fieldAddr fd68_0 rfl (h.dt 22 35 rfl rfl rfl) kI
      ·exact oW rfl rfl rfl rfl hb76 fun h => yl_load1 ty3 rfl (h.dt 23 36 rfl rfl rfl) ((Cells.ex eC83 h.ex) 0 _ rfl) kI
      ·exact oW rfl rfl rfl rfl hb76 fun h => yl_leq rfl (h.dt 17 30 rfl rfl rfl) (h.dt 24 37 rfl rfl rfl) kI
      ·exact oW rfl rfl rfl rfl (not_t hb73) fun h => yl_pick_t rfl (h.dt 15 28 rfl rfl rfl) hb76 (h.dt 25 38 rfl rfl rfl) kI
      ·exact oI rfl fun h => yl_pick_f rfl (h.dt 12 25 rfl rfl rfl) (not_t hb73) (h.dt 26 39 rfl rfl rfl) kI
      ·intro fl265 fh266 L262 w263 hp264
       have hE267 := hp264.ex
       have hE267z := Ex.size hE267
       refine dn (CW.sub (sC 1 (hp264.old 1 _ rfl rfl) (sC 6 (hp264.old 6 _ rfl rfl) (sC 7 (hp264.old 7 _ rfl rfl) (sC 8 (hp264.old 8 _ rfl rfl) (sC 18 (hp264.nt 5 18 rfl rfl rfl) (sC 19 (hp264.nt 6 19 rfl rfl rfl) (sC 20 (hp264.nt 7 20 rfl rfl rfl) (sC 21 (hp264.nt 8 21 rfl rfl rfl) (sC 22 (hp264.nt 9 22 rfl rfl rfl) (sC 23 (hp264.nt 10 23 rfl rfl rfl) (sC 26 (hp264.nt 13 26 rfl rfl rfl) (sC 27 (hp264.nt 14 27 rfl rfl rfl) (sC 28 (hp264.nt 15 28 rfl rfl rfl) (sC 29 (hp264.nt 16 29 rfl rfl rfl) (sC 30 (hp264.nt 17 30 rfl rfl rfl) (sC 31 (hp264.nt 18 31 rfl rfl rfl) (sC 32 (hp264.nt 19 32 rfl rfl rfl) (sC 33 (hp264.nt 20 33 rfl rfl rfl) (sC 34 (hp264.nt 21 34 rfl rfl rfl) (sC 35 (hp264.nt 22 35 rfl rfl rfl) (sC 36 (hp264.nt 23 36 rfl rfl rfl) (sC 37 (hp264.nt 24 37 rfl rfl rfl) (sC 38 (hp264.nt 25 38 rfl rfl rfl) (sC 39 (hp264.nt 26 39 rfl rfl rfl) (sC 40 (hp264.nt 27 40 rfl rfl rfl) (Sub.nil _)))))))))))))))))))))))))) (bcase (decide (((p_c.Vers.getD k11 d_Ver).Time) ≤ ((p_c.Vers.getD ((IntKind.wrap .i64 ((k11 : Int) - 1)).toNat) d_Ver).Time))) (fun hb293 => ?_) (fun hb293 => ?_)))
       ·have hb293p := dec_t hb293
        refine CW.cond_t rfl hb293 (cR (sA rfl (dn (CW.ret (br (tr ?_))))))
        refine tr ?_
        have hB295 : B_i_isCell_0 p_c k11 () = .ret false := by simp only [B_i_isCell_0, hb70, hb73, hb76, hb293, cL]
        have hL294 : loopM (B_i_isCell_0 p_c) (p_c.Vers.length - 0) 0 () = .ret false := hI48.symm.trans (loopM.ret hlt58 hB295)
        refine br (tr (rr rfl (.cons rfl .nil) ?_))
        have hM296 : (i_isCell p_c) = (false) := by simp only [i_isCell, hb70, hb73, hb76, hb293, hL294, cL]
        rw [hM296]
        exact ⟨rfl, (Ex.trans (Below.only (Ex.trans hf56 hE65) hO68 oM) hE267)⟩
       ·have hb293p := dec_f hb293
        refine CW.cond_f rfl hb293 (CW.skip (bn (tn (CW.region (sd rfl (yl_inc rfl rfl rfl oM (sM rfl (dn ?_))))))))
        have hB300 : B_i_isCell_0 p_c k11 () = .cont () := by simp only [B_i_isCell_0, hb70, hb73, hb76, hb293, cL]
        exact ⟨p_c.Vers.length - (k11 + 1), oM, k11 + 1, rfl, hlt58, oM, rfl, rfl, rfl, rfl, (Box.ex q80 hE267), (RdS.ex good_Ver q82 hE267), (Ex.trans (Below.only (Ex.trans hf56 hE65) hO68 oM) hE267), (loopM.cont hlt58 hB300).symm.trans hI48⟩
     ·have hb76p := dec_f hb76
      refine drI 28 [.pointer (some ⟨b60, 0 + 0, none⟩), .int .i64 ((p_c.Vers.getD k11 d_Ver).Time), .bool ((i_isTime ((p_c.Vers.getD k11 d_Ver).Time))), .bool (!(i_isTime ((p_c.Vers.getD k11 d_Ver).Time))), .bool (!(i_isTime ((p_c.Vers.getD k11 d_Ver).Time))), .pointer (some ⟨b60, 0 + 1, none⟩), .string (bs ((p_c.Vers.getD k11 d_Ver).Val)), .pointer (some ⟨b60, 0 + 2, none⟩), .bool ((p_c.Vers.getD k11 d_Ver).Gone), .bool ((i_isStored ((p_c.Vers.getD k11 d_Ver).Val) ((p_c.Vers.getD k11 d_Ver).Gone))), .bool (!(i_isStored ((p_c.Vers.getD k11 d_Ver).Val) ((p_c.Vers.getD k11 d_Ver).Gone))), .bool (!(i_isStored ((p_c.Vers.getD k11 d_Ver).Val) ((p_c.Vers.getD k11 d_Ver).Gone))), .bool (!(i_isStored ((p_c.Vers.getD k11 d_Ver).Val) ((p_c.Vers.getD k11 d_Ver).Gone))), .int .i64 ((k11 : Int)), .bool (decide (0 < (k11 : Int))), .bool (decide (0 < (k11 : Int))), undef, undef, undef, undef, undef, undef, undef, undef, undef, undef, .bool (false), .bool (false)] Try.follows rfl ⟨?_, ?_, ?_, ?_, ?_, ?_, ?_, ?_, ?_, ?_, ?_, ?_, ?_, ?_, ?_, ?_, ?_, ?_, ?_, ?_, ?_, ?_, ?_, ?_, ?_, ?_, ?_, ?_, trivial⟩ ?_
      ·exact oI rfl fun h => yl_fieldAddr fd68_0 rfl (h.old 4 _ rfl rfl) kI
      ·exact oI rfl fun h => yl_load1 ty3 rfl (h.dt 0 13 rfl rfl rfl) (((Box.ex hB67 h.ex).cell 0).trans rfl) kI
      ·intro L319 w320 hi321
       exact OpR.op' rfl (yC en41 rfl (oc (hi321.dt 1 14 rfl rfl rfl) oz) (Cal.mono (c_i_isTime ((p_c.Vers.getD k11 d_Ver).Time)) fun _ _ h => h))
      ·exact oI rfl fun h => yl_not rfl (h.dt 2 15 rfl rfl rfl) kI
      ·exact oI rfl fun h => yM rfl (h.dt 3 16 rfl rfl rfl) kI
      ·exact oW rfl rfl rfl rfl (not_t hb70) fun h => yl_fieldAddr fd68_1 rfl (h.old 4 _ rfl rfl) kI
      ·exact oW rfl rfl rfl rfl (not_t hb70) fun h => yl_load1 ty9 rfl (h.dt 5 18 rfl rfl rfl) (((Box.ex hB67 h.ex).cell 1).trans rfl) kI
      ·exact oW rfl rfl rfl rfl (not_t hb70) fun h => yl_fieldAddr fd68_2 rfl (h.old 4 _ rfl rfl) kI
      ·exact oW rfl rfl rfl rfl (not_t hb70) fun h => yl_load1 ty4 rfl (h.dt 7 20 rfl rfl rfl) (((Box.ex hB67 h.ex).cell 2).trans rfl) kI
      ·intro L363 w364 hi365
       exact OpR.want rfl rfl (hi365.dt 4 17 rfl rfl rfl) (not_t hb70) (yC en42 rfl (oc (hi365.dt 6 19 rfl rfl rfl) (oc (hi365.dt 8 21 rfl rfl rfl) oz)) (Cal.mono (c_i_isStored ((p_c.Vers.getD k11 d_Ver).Val) ((p_c.Vers.getD k11 d_Ver).Gone) (okL.getD o2.2 ok_d_Ver _)) fun _ _ h => h))
      ·exact oW rfl rfl rfl rfl (not_t hb70) fun h => yl_not rfl (h.dt 9 22 rfl rfl rfl) kI
      ·exact oI rfl fun h => yl_pick_f rfl (h.dt 4 17 rfl rfl rfl) (not_t hb70) (h.dt 10 23 rfl rfl rfl) kI
      ·exact oI rfl fun h => yM rfl (h.dt 11 24 rfl rfl rfl) kI
      ·exact oW rfl rfl rfl rfl (not_t hb73) fun h => yM rfl (h.old 3 _ rfl rfl) kI
      ·exact oW rfl rfl rfl rfl (not_t hb73) fun h => yl_gtr rfl (h.dt 13 26 rfl rfl rfl) rfl kI
      ·exact oW rfl rfl rfl rfl (not_t hb73) fun h => yM rfl (h.dt 14 27 rfl rfl rfl) kI
      ·exact oS rfl rfl rfl rfl rfl hb76
      ·exact oS rfl rfl rfl rfl rfl hb76
      ·exact oS rfl rfl rfl rfl rfl hb76
      ·exact oS rfl rfl rfl rfl rfl hb76
      ·exact oS rfl rfl rfl rfl rfl hb76
      ·exact oS rfl rfl rfl rfl rfl hb76
      ·exact oS rfl rfl rfl rfl rfl hb76
      ·exact oS rfl rfl rfl rfl rfl hb76
      ·exact oS rfl rfl rfl rfl rfl hb76
      ·exact oS rfl rfl rfl rfl rfl hb76
      ·exact oW rfl rfl rfl rfl (not_t hb73) fun h => yl_pick_f rfl (h.dt 15 28 rfl rfl rfl) hb76 rfl kI
      ·exact oI rfl fun h => yl_pick_f rfl (h.dt 12 25 rfl rfl rfl) (not_t hb73) (h.dt 26 39 rfl rfl rfl) kI
      ·intro fl474 fh475 L471 w472 hp473
       have hE476 := hp473.ex
       have hE476z := Ex.size hE476
       refine dn (CW.sub (sC 1 (hp473.old 1 _ rfl rfl) (sC 6 (hp473.old 6 _ rfl rfl) (sC 7 (hp473.old 7 _ rfl rfl) (sC 8 (hp473.old 8 _ rfl rfl) (sC 18 (hp473.nt 5 18 rfl rfl rfl) (sC 19 (hp473.nt 6 19 rfl rfl rfl) (sC 20 (hp473.nt 7 20 rfl rfl rfl) (sC 21 (hp473.nt 8 21 rfl rfl rfl) (sC 22 (hp473.nt 9 22 rfl rfl rfl) (sC 23 (hp473.nt 10 23 rfl rfl rfl) (sC 26 (hp473.nt 13 26 rfl rfl rfl) (sC 27 (hp473.nt 14 27 rfl rfl rfl) (sC 28 (hp473.nt 15 28 rfl rfl rfl) (sC 29 (hp473.nt 16 29 rfl rfl rfl) (sC 30 (hp473.nt 17 30 rfl rfl rfl) (sC 31 (hp473.nt 18 31 rfl rfl rfl) (sC 32 (hp473.nt 19 32 rfl rfl rfl) (sC 33 (hp473.nt 20 33 rfl rfl rfl) (sC 34 (hp473.nt 21 34 rfl rfl rfl) (sC 35 (hp473.nt 22 35 rfl rfl rfl) (sC 36 (hp473.nt 23 36 rfl rfl rfl) (sC 37 (hp473.nt 24 37 rfl rfl rfl) (sC 38 (hp473.nt 25 38 rfl rfl rfl) (sC 39 (hp473.nt 26 39 rfl rfl rfl) (sC 40 (hp473.nt 27 40 rfl rfl rfl) (Sub.nil _)))))))))))))))))))))))))) (CW.cond_f rfl rfl (CW.skip (bn (tn (CW.region (sd rfl (yl_inc rfl rfl rfl oM ?_))))))))
       refine sM rfl (dn ?_)
       have hB502 : B_i_isCell_0 p_c k11 () = .cont () := by simp only [B_i_isCell_0, hb70, hb73, hb76, cL]
       exact ⟨p_c.Vers.length - (k11 + 1), oM, k11 + 1, rfl, hlt58, oM, rfl, rfl, rfl, rfl, (Box.ex (Box.only (Box.ex hf54 hE65) hO68 oM) hE476), (RdS.ex good_Ver (RdS.only good_Ver (RdS.ex good_Ver hf55 hE65) hO68 (by simp only [Iv]; omega)) hE476), (Ex.trans (Below.only (Ex.trans hf56 hE65) hO68 oM) hE476), (loopM.cont hlt58 hB502).symm.trans hI48⟩
    ·refine drI 28 [.pointer (some ⟨b60, 0 + 0, none⟩), .int .i64 ((p_c.Vers.getD k11 d_Ver).Time), .bool ((i_isTime ((p_c.Vers.getD k11 d_Ver).Time))), .bool (!(i_isTime ((p_c.Vers.getD k11 d_Ver).Time))), .bool (!(i_isTime ((p_c.Vers.getD k11 d_Ver).Time))), .pointer (some ⟨b60, 0 + 1, none⟩), .string (bs ((p_c.Vers.getD k11 d_Ver).Val)), .pointer (some ⟨b60, 0 + 2, none⟩), .bool ((p_c.Vers.getD k11 d_Ver).Gone), .bool ((i_isStored ((p_c.Vers.getD k11 d_Ver).Val) ((p_c.Vers.getD k11 d_Ver).Gone))), .bool (!(i_isStored ((p_c.Vers.getD k11 d_Ver).Val) ((p_c.Vers.getD k11 d_Ver).Gone))), .bool (!(i_isStored ((p_c.Vers.getD k11 d_Ver).Val) ((p_c.Vers.getD k11 d_Ver).Gone))), .bool (!(i_isStored ((p_c.Vers.getD k11 d_Ver).Val) ((p_c.Vers.getD k11 d_Ver).Gone))), undef, undef, undef, undef, undef, undef, undef, undef, undef, undef, undef, undef, undef, undef, .bool (true)] Try.follows rfl ⟨?_, ?_, ?_, ?_, ?_, ?_, ?_, ?_, ?_, ?_, ?_, ?_, ?_, ?_, ?_, ?_, ?_, ?_, ?_, ?_, ?_, ?_, ?_, ?_, ?_, ?_, ?_, ?_, trivial⟩ ?_
     ·exact oI rfl fun h => yl_fieldAddr fd68_0 rfl (h.old 4 _ rfl rfl) kI
     ·exact oI rfl fun h => yl_load1 ty3 rfl (h.dt 0 13 rfl rfl rfl) (((Box.ex hB67 h.ex).cell 0).trans rfl) kI
     ·intro L525 w526 hi527
      exact OpR.op' rfl (yC en41 rfl (oc (hi527.dt 1 14 rfl rfl rfl) oz) (Cal.mono (c_i_isTime ((p_c.Vers.getD k11 d_Ver).Time)) fun _ _ h => h))
     ·exact oI rfl fun h => yl_not rfl (h.dt 2 15 rfl rfl rfl) kI
     ·exact oI rfl fun h => yM rfl (h.dt 3 16 rfl rfl rfl) kI
     ·exact oW rfl rfl rfl rfl (not_t hb70) fun h => yl_fieldAddr fd68_1 rfl (h.old 4 _ rfl rfl) kI
     ·exact oW rfl rfl rfl rfl (not_t hb70) fun h => yl_load1 ty9 rfl (h.dt 5 18 rfl rfl rfl) (((Box.ex hB67 h.ex).cell 1).trans rfl) kI
     ·exact oW rfl rfl rfl rfl (not_t hb70) fun h => yl_fieldAddr fd68_2 rfl (h.old 4 _ rfl rfl) kI
     ·exact oW rfl rfl rfl rfl (not_t hb70) fun h => yl_load1 ty4 rfl (h.dt 7 20 rfl rfl rfl) (((Box.ex hB67 h.ex).cell 2).trans rfl) kI
     ·intro L569 w570 hi571
      exact OpR.want rfl rfl (hi571.dt 4 17 rfl rfl rfl) (not_t hb70) (yC en42 rfl (oc (hi571.dt 6 19 rfl rfl rfl) (oc (hi571.dt 8 21 rfl rfl rfl) oz)) (Cal.mono (c_i_isStored ((p_c.Vers.getD k11 d_Ver).Val) ((p_c.Vers.getD k11 d_Ver).Gone) (okL.getD o2.2 ok_d_Ver _)) fun _ _ h => h))
     ·exact oW rfl rfl rfl rfl (not_t hb70) fun h => yl_not rfl (h.dt 9 22 rfl rfl rfl) kI
     ·exact oI rfl fun h => yl_pick_f rfl (h.dt 4 17 rfl rfl rfl) (not_t hb70) (h.dt 10 23 rfl rfl rfl) kI
     ·exact oI rfl fun h => yM rfl (h.dt 11 24 rfl rfl rfl) kI
     ·exact oS rfl rfl rfl rfl rfl (not_f hb73)
     ·exact oS rfl rfl rfl rfl rfl (not_f hb73)
     ·exact oS rfl rfl rfl rfl rfl (not_f hb73)
     ·exact oU rfl rfl rfl rfl rfl
     ·exact oU rfl rfl rfl rfl rfl
     ·exact oU rfl rfl rfl rfl rfl
     ·exact oU rfl rfl rfl rfl rfl
     ·exact oU rfl rfl rfl rfl rfl
     ·exact oU rfl rfl rfl rfl rfl
     ·exact oU rfl rfl rfl rfl rfl
     ·exact oU rfl rfl rfl rfl rfl
     ·exact oU rfl rfl rfl rfl rfl
     ·exact oU rfl rfl rfl rfl rfl
     ·exact oS rfl rfl rfl rfl rfl (not_f hb73)
     ·exact oI rfl fun h => yl_pick_t rfl (h.dt 12 25 rfl rfl rfl) (not_f hb73) rfl kI
     ·intro fl675 fh676 L672 w673 hp674
      have hE677 := hp674.ex
      have hE677z := Ex.size hE677
      refine dn (CW.sub (sC 1 (hp674.old 1 _ rfl rfl) (sC 6 (hp674.old 6 _ rfl rfl) (sC 7 (hp674.old 7 _ rfl rfl) (sC 8 (hp674.old 8 _ rfl rfl) (sC 18 (hp674.nt 5 18 rfl rfl rfl) (sC 19 (hp674.nt 6 19 rfl rfl rfl) (sC 20 (hp674.nt 7 20 rfl rfl rfl) (sC 21 (hp674.nt 8 21 rfl rfl rfl) (sC 22 (hp674.nt 9 22 rfl rfl rfl) (sC 23 (hp674.nt 10 23 rfl rfl rfl) (sC 26 (hp674.nt 13 26 rfl rfl rfl) (sC 27 (hp674.nt 14 27 rfl rfl rfl) (sC 28 (hp674.nt 15 28 rfl rfl rfl) (sC 29 (hp674.nt 16 29 rfl rfl rfl) (sC 30 (hp674.nt 17 30 rfl rfl rfl) (sC 31 (hp674.nt 18 31 rfl rfl rfl) (sC 32 (hp674.nt 19 32 rfl rfl rfl) (sC 33 (hp674.nt 20 33 rfl rfl rfl) (sC 34 (hp674.nt 21 34 rfl rfl rfl) (sC 35 (hp674.nt 22 35 rfl rfl rfl) (sC 36 (hp674.nt 23 36 rfl rfl rfl) (sC 37 (hp674.nt 24 37 rfl rfl rfl) (sC 38 (hp674.nt 25 38 rfl rfl rfl) (sC 39 (hp674.nt 26 39 rfl rfl rfl) (sC 40 (hp674.nt 27 40 rfl rfl rfl) (Sub.nil _)))))))))))))))))))))))))) (CW.cond_t rfl rfl (cR (sA rfl (dn ?_)))))
      refine CW.ret (br (tr (tr ?_)))
      have hB704 : B_i_isCell_0 p_c k11 () = .ret false := by simp only [B_i_isCell_0, hb70, hb73, cL]
      have hL703 : loopM (B_i_isCell_0 p_c) (p_c.Vers.length - 0) 0 () = .ret false := hI48.symm.trans (loopM.ret hlt58 hB704)
      refine br (tr (rr rfl (.cons rfl .nil) ?_))
      have hM705 : (i_isCell p_c) = (false) := by simp only [i_isCell, hb70, hb73, hL703, cL]
      rw [hM705]
      exact ⟨rfl, (Ex.trans (Below.only (Ex.trans hf56 hE65) hO68 oM) hE677)⟩
   ·refine drI 28 [.pointer (some ⟨b60, 0 + 0, none⟩), .int .i64 ((p_c.Vers.getD k11 d_Ver).Time), .bool ((i_isTime ((p_c.Vers.getD k11 d_Ver).Time))), .bool (!(i_isTime ((p_c.Vers.getD k11 d_Ver).Time))), .bool (!(i_isTime ((p_c.Vers.getD k11 d_Ver).Time))), undef, undef, undef, undef, undef, undef, .bool (true), .bool (true), undef, undef, undef, undef, undef, undef, undef, undef, undef, undef, undef, undef, undef, undef, .bool (true)] Try.follows rfl ⟨?_, ?_, ?_, ?_, ?_, ?_, ?_, ?_, ?_, ?_, ?_, ?_, ?_, ?_, ?_, ?_, ?_, ?_, ?_, ?_, ?_, ?_, ?_, ?_, ?_, ?_, ?_, ?_, trivial⟩ ?_
    ·exact oI rfl fun h => yl_fieldAddr fd68_0 rfl (h.old 4 _ rfl rfl) kI
    ·exact oI rfl fun h => yl_load1 ty3 rfl (h.dt 0 13 rfl rfl rfl) (((Box.ex hB67 h.ex).cell 0).trans rfl) kI
    ·intro L721 w722 hi723
     exact OpR.op' rfl (yC en41 rfl (oc (hi723.dt 1 14 rfl rfl rfl) oz) (Cal.mono (c_i_isTime ((p_c.Vers.getD k11 d_Ver).Time)) fun _ _ h => h))
    ·exact oI rfl fun h => yl_not rfl (h.dt 2 15 rfl rfl rfl) kI
    ·exact oI rfl fun h => yM rfl (h.dt 3 16 rfl rfl rfl) kI
    ·exact oS rfl rfl rfl rfl rfl (not_f hb70)
    ·exact oS rfl rfl rfl rfl rfl (not_f hb70)
    ·exact oS rfl rfl rfl rfl rfl (not_f hb70)
    ·exact oS rfl rfl rfl rfl rfl (not_f hb70)
    ·exact oS rfl rfl rfl rfl rfl (not_f hb70)
    ·exact oS rfl rfl rfl rfl rfl (not_f hb70)
    ·exact oI rfl fun h => yl_pick_t rfl (h.dt 4 17 rfl rfl rfl) (not_f hb70) rfl kI
    ·exact oI rfl fun h => yM rfl (h.dt 11 24 rfl rfl rfl) kI
    ·exact oS rfl rfl rfl rfl rfl rfl
    ·exact oS rfl rfl rfl rfl rfl rfl
    ·exact oS rfl rfl rfl rfl rfl rfl
    ·exact oU rfl rfl rfl rfl rfl
    ·exact oU rfl rfl rfl rfl rfl
    ·exact oU rfl rfl rfl rfl rfl
    ·exact oU rfl rfl rfl rfl rfl
    ·exact oU rfl rfl rfl rfl rfl
    ·exact oU rfl rfl rfl rfl rfl
    ·exact oU rfl rfl rfl rfl rfl
    ·exact oU rfl rfl rfl rfl rfl
    ·exact oU rfl rfl rfl rfl rfl
    ·exact oU rfl rfl rfl rfl rfl
    ·exact oS rfl rfl rfl rfl rfl rfl
    ·exact oI rfl fun h => yl_pick_t rfl (h.dt 12 25 rfl rfl rfl) rfl rfl kI
    ·intro fl859 fh860 L856 w857 hp858
     have hE861 := hp858.ex
     have hE861z := Ex.size hE861
     refine dn (CW.sub (sC 1 (hp858.old 1 _ rfl rfl) (sC 6 (hp858.old 6 _ rfl rfl) (sC 7 (hp858.old 7 _ rfl rfl) (sC 8 (hp858.old 8 _ rfl rfl) (sC 18 (hp858.nt 5 18 rfl rfl rfl) (sC 19 (hp858.nt 6 19 rfl rfl rfl) (sC 20 (hp858.nt 7 20 rfl rfl rfl) (sC 21 (hp858.nt 8 21 rfl rfl rfl) (sC 22 (hp858.nt 9 22 rfl rfl rfl) (sC 23 (hp858.nt 10 23 rfl rfl rfl) (sC 26 (hp858.nt 13 26 rfl rfl rfl) (sC 27 (hp858.nt 14 27 rfl rfl rfl) (sC 28 (hp858.nt 15 28 rfl rfl rfl) (sC 29 (hp858.nt 16 29 rfl rfl rfl) (sC 30 (hp858.nt 17 30 rfl rfl rfl) (sC 31 (hp858.nt 18 31 rfl rfl rfl) (sC 32 (hp858.nt 19 32 rfl rfl rfl) (sC 33 (hp858.nt 20 33 rfl rfl rfl) (sC 34 (hp858.nt 21 34 rfl rfl rfl) (sC 35 (hp858.nt 22 35 rfl rfl rfl) (sC 36 (hp858.nt 23 36 rfl rfl rfl) (sC 37 (hp858.nt 24 37 rfl rfl rfl) (sC 38 (hp858.nt 25 38 rfl rfl rfl) (sC 39 (hp858.nt 26 39 rfl rfl rfl) (sC 40 (hp858.nt 27 40 rfl rfl rfl) (Sub.nil _)))))))))))))))))))))))))) (CW.cond_t rfl rfl (cR (sA rfl (dn ?_)))))
     refine CW.ret (br (tr (tr ?_)))
     have hB888 : B_i_isCell_0 p_c k11 () = .ret false := by simp only [B_i_isCell_0, hb70, cL]
     have hL887 : loopM (B_i_isCell_0 p_c) (p_c.Vers.length - 0) 0 () = .ret false := hI48.symm.trans (loopM.ret hlt58 hB888)
     refine br (tr (rr rfl (.cons rfl .nil) ?_))
     have hM889 : (i_isCell p_c) = (false) := by simp only [i_isCell, hb70, hL887, cL]
     rw [hM889]
     exact ⟨rfl, (Ex.trans (Below.only (Ex.trans hf56 hE65) hO68 oM) hE861)⟩
  ·refine cR (sd rfl (yl_lss rfl rfl rfl (dn (CW.seq (CW.cond_f rfl (lt_f hlt58) (CW.exit (tx ?_)))))))
   refine tx ?_
   have hL893 : loopM (B_i_isCell_0 p_c) (p_c.Vers.length - 0) 0 () = .done () := hI48.symm.trans (loopM.stop hlt58)
   refine bx (tn (cR (sd rfl (yl_fieldAddr fd44_1 rfl rfl (sd rfl (yl_load1 ty42 rfl rfl ((hf54.cell 1).trans rfl) (sd rfl (yL un42 rfl rfl (sd rfl (yC en32 rfl (oc rfl (oc rfl (oc rfl oz))) (Cal.mono (c_i_within (p_c.Vers.length : Int) 1 16) ?_)))))))))))
   rintro v895 w894 ⟨rfl, hE896⟩
   have hE896z := Ex.size hE896
   refine sA rfl (dn (CW.ret (rr rfl (.cons rfl .nil) ?_)))
   have hM897 : (i_isCell p_c) = ((i_within (p_c.Vers.length : Int) 1 16)) := by simp only [i_isCell, hL893, cL]
   rw [hM897]
   exact ⟨rfl, (Ex.trans hf56 hE896)⟩
theorem c_i_GoodKey {w : World} (p_s : Str) (o1 : okS p_s) : Cal Try.prog 43 #[.string (bs (p_s))] w fun v w' => v = .bool ((i_GoodKey p_s)) ∧ Ex w w' := by
 refine Cal.of func43 rfl ntmps43 rfl (cR (sA rfl (dn (cR (sM rfl ?_)))))
 refine sd rfl (yl_slen un9 (a := p_s) rfl rfl (sd rfl (yC en32 rfl (oc rfl (oc rfl (oc rfl oz))) (Cal.mono (c_i_within (p_s.length : Int) 1 12) ?_))))
 rintro v4 w3 ⟨rfl, hE5⟩
 refine sM rfl (bcase (i_within (p_s.length : Int) 1 12) (fun hb6 => ?_) (fun hb6 => ?_))
 ·have hb6p := f_within hb6
  refine sy rfl rfl hb6 (yM rfl rfl (sy rfl rfl hb6 (yC en50 rfl (oc rfl (oc rfl oz)) (Cal.mono (c_i_hasBytes p_s ([46, 47] : Str) o1 (okS.lit rfl)) ?_))))
  rintro v8 w7 ⟨rfl, hE9⟩
  refine sd rfl (yl_pick_t rfl rfl hb6 rfl (sA rfl (dn (CW.ret (rr rfl (.cons rfl .nil) ?_)))))
  have hM10 : (i_GoodKey p_s) = ((i_hasBytes p_s ([46, 47] : Str))) := by simp only [i_GoodKey, hb6, cL]
  rw [hM10]
  exact ⟨rfl, (Ex.trans (Ex.trans (Ex.refl w) hE5) hE9)⟩
 ·refine sz rfl rfl hb6 (sz rfl rfl hb6 (sd rfl (yl_pick_f rfl rfl hb6 rfl (sA rfl (dn (CW.ret (rr rfl (.cons rfl .nil) ?_)))))))
  have hM13 : (i_GoodKey p_s) = (false) := by simp only [i_GoodKey, hb6, cL]
  rw [hM13]
  exact ⟨rfl, (Ex.trans (Ex.refl w) hE5)⟩
theorem c_i_areRising {A1 : Option Addr} {c1 : Nat} {w : World} (p_keys : List Str) (h1 : RdS w (Iv 0 w.heap.size) (RF e_Str) 1 A1 p_keys.length c1 p_keys) (o2 : (okL okS) p_keys) : Cal Try.prog 31 #[.slice A1 p_keys.length c1] w fun v w' => v = .bool ((i_areRising p_keys)) ∧ Ex w w' := by
 have hol3 := o2.1
 refine Cal.of func31 rfl ntmps31 rfl (cR (sA rfl (dn (CW.seq (cR ?_)))))
 refine sM rfl (sd rfl (yL un56 rfl rfl (sM rfl (dn (CW.block (CW.loop (fun m5 L6 w7 => ∃ (k4 : Nat), m5 = p_keys.length - k4 ∧ k4 ≤ p_keys.length ∧ w.heap.size ≤ w7.heap.size ∧ lkp L6 0 = some (.slice A1 p_keys.length c1) ∧ lkp L6 5 = some (.slice A1 p_keys.length c1) ∧ lkp L6 6 = some (.int .i64 ((p_keys.length : Int))) ∧ lkp L6 7 = some (.int .i64 ((k4 : Int))) ∧ RdS w7 (Iv 0 w.heap.size) (RF e_Str) 1 A1 p_keys.length c1 p_keys ∧ Ex w w7 ∧ loopM (B_i_areRising_0 p_keys) (p_keys.length - k4) k4 () = loopM (B_i_areRising_0 p_keys) (p_keys.length - 0) 0 ()) (p_keys.length - 0) ?_ ?_))))))
 ·exact ⟨0, rfl, oM, Nat.le_refl _, rfl, rfl, rfl, rfl, h1, (Ex.refl w), rfl⟩
 ·rintro m8 L9 w10 ⟨k4, rfl, hk11, hsz13, hl14, hl15, hl16, hl17, hf18, hf19, hI12⟩
  refine CW.sub (Sub.cons hl14 (Sub.cons hl15 (Sub.cons hl16 (Sub.cons hl17 (Sub.nil _))))) ?_
  have hf19z := Ex.size hf19
  have hbg20 := RdS.big hf18
  rcases Nat.lt_or_ge k4 p_keys.length with hlt21 | hlt21
  ·refine cR (sd rfl (yl_lss rfl rfl rfl (dn (CW.seq (CW.cond_t rfl (lt_t hlt21) (CW.skip (tn ?_)))))))
   refine CW.seq (CW.block (cR (sM rfl ?_)))
   obtain ⟨eb22, eo22, _, eA22, _, ebl22, _, eR22, eC22⟩ := RdS.aD hf18 d_Str (i := k4)
   obtain rfl := eR22
   have eC22 : Cells w10 eb22 (eo22 + k4 * 1) [.string (bs ((p_keys.getD k4 d_Str)))] := eC22
   refine sd rfl (yl_ixN un56 ty9 rfl rfl rfl eA22 (sd rfl (yl_load1 ty9 rfl rfl (eC22 0 _ rfl) (sA rfl (sA rfl (dn (cR (sM rfl ?_))))))))
   refine sd rfl (yC en43 rfl (oc rfl oz) (Cal.mono (c_i_GoodKey (p_keys.getD k4 d_Str) (okL.getD o2 ok_d_Str _)) ?_))
   rintro v24 w23 ⟨rfl, hE25⟩
   have hE25z := Ex.size hE25
   refine sd rfl (yl_not rfl rfl (sM rfl (bcase (i_GoodKey (p_keys.getD k4 d_Str)) (fun hb26 => ?_) (fun hb26 => ?_))))
   ·refine sy rfl rfl (not_t hb26) (yM rfl rfl (sy rfl rfl (not_t hb26) (yl_gtr rfl rfl rfl (sy rfl rfl (not_t hb26) (yM rfl rfl (bcase (decide (0 < (k4 : Int))) (fun hb27 => ?_) (fun hb27 => ?_)))))))
    ·have hb27p := dec_t hb27
     refine sy rfl rfl hb27 (yM rfl rfl (sy rfl rfl hb27 (yM rfl rfl (sy rfl rfl hb27 (yM rfl rfl (sy rfl rfl hb27 (yl_sub rfl rfl rfl ?_)))))))
     have q28 := RdS.ex gS hf18 hE25
     obtain ⟨eb29, eo29, _, eA29, _, ebl29, _, eR29, eC29⟩ := RdS.atD q28 d_Str (i := (IntKind.wrap .i64 ((k4 : Int) - 1)).toNat) Bo
     obtain rfl := eR29
     have eC29 : Cells w23 eb29 (eo29 + ((IntKind.wrap .i64 ((k4 : Int) - 1)).toNat) * 1) [.string (bs ((p_keys.getD ((IntKind.wrap .i64 ((k4 : Int) - 1)).toNat) d_Str)))] := eC29
     refine sy rfl rfl hb27 (yl_indexAddr un56 ty9 rfl rfl rfl eA29 Bo Bo (sy rfl rfl hb27 (yl_load1 ty9 rfl rfl (eC29 0 _ rfl) (sy rfl rfl hb27 (yl_sleq (a := (p_keys.getD k4 d_Str)) (b := (p_keys.getD ((IntKind.wrap .i64 ((k4 : Int) - 1)).toNat) d_Str)) rfl rfl rfl (sy rfl rfl (not_t hb26) (yl_pick_t rfl rfl hb27 rfl (sd rfl (yl_pick_f rfl rfl (not_t hb26) rfl (dn (bcase (sLe (p_keys.getD k4 d_Str) (p_keys.getD ((IntKind.wrap .i64 ((k4 : Int) - 1)).toNat) d_Str)) (fun hb30 => ?_) (fun hb30 => ?_))))))))))))
     ·refine CW.cond_t rfl hb30 (cR (sA rfl (dn (CW.ret (br (tr ?_))))))
      refine tr ?_
      have hB32 : B_i_areRising_0 p_keys k4 () = .ret false := by simp only [B_i_areRising_0, hb26, hb27, hb30, cL]
      have hL31 : loopM (B_i_areRising_0 p_keys) (p_keys.length - 0) 0 () = .ret false := hI12.symm.trans (loopM.ret hlt21 hB32)
      refine br (tr (rr rfl (.cons rfl .nil) ?_))
      have hM33 : (i_areRising p_keys) = (false) := by simp only [i_areRising, hb26, hb27, hb30, hL31, cL]
      rw [hM33]
      exact ⟨rfl, (Ex.trans hf19 hE25)⟩
     ·refine CW.cond_f rfl hb30 (CW.skip (bn (tn (CW.region (sd rfl (yl_inc rfl rfl rfl oM (sM rfl (dn ?_))))))))
      have hB35 : B_i_areRising_0 p_keys k4 () = .cont () := by simp only [B_i_areRising_0, hb26, hb27, hb30, cL]
      exact ⟨p_keys.length - (k4 + 1), oM, k4 + 1, rfl, hlt21, oM, rfl, rfl, rfl, rfl, q28, (Ex.trans hf19 hE25), (loopM.cont hlt21 hB35).symm.trans hI12⟩
    ·have hb27p := dec_f hb27
     refine sz rfl rfl hb27 (sz rfl rfl hb27 (sz rfl rfl hb27 (sz rfl rfl hb27 (sz rfl rfl hb27 (sz rfl rfl hb27 (sz rfl rfl hb27 (sy rfl rfl (not_t hb26) (yl_pick_f rfl rfl hb27 rfl (sd rfl (yl_pick_f rfl rfl (not_t hb26) rfl ?_))))))))))
     refine dn (CW.cond_f rfl rfl (CW.skip (bn (tn (CW.region (sd rfl (yl_inc rfl rfl rfl oM (sM rfl ?_))))))))
     refine dn ?_
     have hB37 : B_i_areRising_0 p_keys k4 () = .cont () := by simp only [B_i_areRising_0, hb26, hb27, cL]
     exact ⟨p_keys.length - (k4 + 1), oM, k4 + 1, rfl, hlt21, oM, rfl, rfl, rfl, rfl, (RdS.ex gS hf18 hE25), (Ex.trans hf19 hE25), (loopM.cont hlt21 hB37).symm.trans hI12⟩
   ·refine sz rfl rfl (not_f hb26) (sz rfl rfl (not_f hb26) (sz rfl rfl (not_f hb26) (sq rfl rfl (sq rfl rfl (sq rfl rfl (sq rfl rfl (sq rfl rfl (sq rfl rfl ?_))))))))
    refine sq rfl rfl (sz rfl rfl (not_f hb26) (sd rfl (yl_pick_t rfl rfl (not_f hb26) rfl (dn (CW.cond_t rfl rfl (cR (sA rfl ?_)))))))
    refine dn (CW.ret (br (tr (tr ?_))))
    have hB41 : B_i_areRising_0 p_keys k4 () = .ret false := by simp only [B_i_areRising_0, hb26, cL]
    have hL40 : loopM (B_i_areRising_0 p_keys) (p_keys.length - 0) 0 () = .ret false := hI12.symm.trans (loopM.ret hlt21 hB41)
    refine br (tr (rr rfl (.cons rfl .nil) ?_))
    have hM42 : (i_areRising p_keys) = (false) := by simp only [i_areRising, hb26, hL40, cL]
    rw [hM42]
    exact ⟨rfl, (Ex.trans hf19 hE25)⟩
  ·refine cR (sd rfl (yl_lss rfl rfl rfl (dn (CW.seq (CW.cond_f rfl (lt_f hlt21) (CW.exit (tx ?_)))))))
   refine tx ?_
   have hL44 : loopM (B_i_areRising_0 p_keys) (p_keys.length - 0) 0 () = .done () := hI12.symm.trans (loopM.stop hlt21)
   refine bx (tn (cR (sA rfl (dn (CW.ret (rr rfl (.cons rfl .nil) ?_))))))
   have hM45 : (i_areRising p_keys) = (true) := by simp only [i_areRising, hL44, cL]
   rw [hM45]
   exact ⟨rfl, hf19⟩
theorem c_i_GoodCells {A1 : Option Addr} {c1 : Nat} {w : World} (p_l : List DCell) (h1 : RdS w (Iv 0 w.heap.size) R_Cell 2 A1 p_l.length c1 p_l) (o2 : (okL ok_Cell) p_l) : Cal Try.prog 16 #[.slice A1 p_l.length c1] w fun v w' => v = .bool ((i_GoodCells p_l)) ∧ Ex w w' := by
 have hol3 := o2.1
 refine Cal.of func16 rfl ntmps16 rfl (cR (sA rfl (dn (cR (sd rfl (yl_buildSlice (cs := []) un56 ty9 (by decide) rfl opvs_nil (by kernel_rfl) ?_))))))
 intro b4 w5 hs6 hz7 hB8 hE9
 have hO10 : OwnL w5 b4 (b4 + 1) 9 1 (RF e_Str) (some ⟨b4, 0, none⟩) 0 0 ([] : List Str) := OwnL.of_box (S := fun _ => False) hB8 (Nat.le_refl _) (Nat.lt_succ_self _) EncL.nil (nb rfl) (fun h => h) (fun _ h => False.elim h)
 refine sA rfl (dn (CW.seq (cR (sM rfl (sd rfl (yL un29 rfl rfl (sM rfl ?_)))))))
 refine dn (CW.block (CW.loop (fun m75 L76 w77 => ∃ (k11 : Nat) (x71 : List Str) (A72 : Option Addr) (c73 : Nat) (u74 : Nat), m75 = p_l.length - k11 ∧ k11 ≤ p_l.length ∧ w5.heap.size ≤ w77.heap.size ∧ lkp L76 0 = some (.slice A1 p_l.length c1) ∧ lkp L76 3 = some (.slice A72 x71.length c73) ∧ lkp L76 7 = some (.slice A1 p_l.length c1) ∧ lkp L76 8 = some (.int .i64 ((p_l.length : Int))) ∧ lkp L76 9 = some (.int .i64 ((k11 : Int))) ∧ RdS w77 (Iv 0 w.heap.size) R_Cell 2 A1 p_l.length c1 p_l ∧ OwnL w77 b4 u74 9 1 (RF e_Str) A72 x71.length c73 x71 ∧ Ex w w77 ∧ (b4 ≤ u74 ∧ u74 ≤ w77.heap.size) ∧ x71.length ≤ 0 + 1 * (k11 - 0) ∧ (∀ y ∈ x71, okS y) ∧ loopM (B_i_GoodCells_0 p_l) (p_l.length - k11) k11 (x71) = loopM (B_i_GoodCells_0 p_l) (p_l.length - 0) 0 (([] : List Str))) (p_l.length - 0) ?_ ?_))
 ·exact ⟨0, ([] : List Str), (some ⟨b4, 0, none⟩), 0, (b4 + 1), rfl, oM, Nat.le_refl _, rfl, rfl, rfl, rfl, rfl, (RdS.ex good_Cell h1 hE9), hO10, (Ex.trans (Ex.refl w) hE9), oM, (by first | (simp; done) | (first | omega | (simp only [lN, toS_length]; omega))), okE.nil, rfl⟩
 ·rintro m80 L81 w82 ⟨k11, x71, A72, c73, u74, rfl, hk83, hsz85, hl86, hl87, hl88, hl89, hl90, hf91, hf92, hf93, hu94, hln95, hok96, hI84⟩
  refine CW.sub (Sub.cons hl86 (Sub.cons hl87 (Sub.cons hl88 (Sub.cons hl89 (Sub.cons hl90 (Sub.nil _)))))) ?_
  have hf93z := Ex.size hf93
  have hbg97 := RdS.big hf91
  rcases Nat.lt_or_ge k11 p_l.length with hlt98 | hlt98
  ·refine cR (sd rfl (yl_lss rfl rfl rfl (dn (CW.seq (CW.cond_t rfl (lt_t hlt98) (CW.skip (tn ?_)))))))
   refine CW.seq (CW.block (cR ?_))
   obtain ⟨_, _, _, eA99, _, ebl99, _, eR99, eC99⟩ := RdS.aD hf91 d_Cell (i := k11)
   obtain ⟨A100, c100, rfl, h100⟩ := eR99
   refine sd rfl (yl_ixN un29 ty44 rfl rfl rfl eA99 (sd rfl (yl_loadN ty44 rfl rfl eC99 rfl (sd rfl (yB ty44 (cs := [.string (bs (([] : Str))), .slice none 0 0]) rfl rfl ?_)))))
   intro b101 w102 hs103 hz104 hB105 hE106
   refine SeqR.u rfl rfl (yl_store (vs := [.string (bs ((p_l.getD k11 d_Cell).Key)), .slice A100 (((p_l.getD k11 d_Cell).Vers).length) c100]) ty44 rfl rfl rfl rfl rfl rfl hB105 (nb rfl) ?_)
   intro w107 hB108 hO109
   have hB108 : Box w107 b101 44 [.string (bs ((p_l.getD k11 d_Cell).Key)), .slice A100 (((p_l.getD k11 d_Cell).Vers).length) c100] := hB108
   have hO109z := hO109.size
   refine dn (CW.seq (cR (sd rfl (yl_loadN ty44 rfl rfl (hB108.cells (n := 2) rfl) rfl (sd rfl (yC en30 rfl (oc rfl oz) (Cal.mono (c_i_isCell (p_l.getD k11 d_Cell) (RdS.up (RdS.only good_Ver (RdS.ex good_Ver h100 hE106) hO109 (by simp only [Iv]; omega)) good_Ver) (okL.getD o2 ok_d_Cell _)) ?_)))))))
   rintro v113 w112 ⟨rfl, hE114⟩
   have hE114z := Ex.size hE114
   refine sd rfl (yl_not rfl rfl (dn (bcase (i_isCell (p_l.getD k11 d_Cell)) (fun hb115 => ?_) (fun hb115 => ?_))))
   ·refine CW.cond_f rfl (not_t hb115) (CW.skip (tn (CW.region (sM rfl (sd rfl (yl_fieldAddr fd44_0 rfl rfl (sd rfl (yl_load1 ty9 rfl rfl (((Box.ex hB108 hE114).cell 0).trans rfl) (sd rfl (yl_buildSlice (cs := [.string (bs ((p_l.getD k11 d_Cell).Key))]) un56 ty9 (by decide) rfl (oc rfl oz) (by kernel_rfl) ?_))))))))))
    intro b117 w118 hs119 hz120 hB121 hE122
    have hO123 : OwnL w118 b117 (b117 + 1) 9 1 (RF e_Str) (some ⟨b117, 0, none⟩) 1 1 ([(p_l.getD k11 d_Cell).Key] : List Str) := OwnL.of_box (S := fun _ => False) hB121 (Nat.le_refl _) (Nat.lt_succ_self _) (EncL.cons (c := [.string (bs ((p_l.getD k11 d_Cell).Key))]) rfl rfl EncL.nil) (nb rfl) (fun h => h) (fun _ h => False.elim h)
    refine sd rfl (yl_appendL (S := (fun _ => False)) (lo := b4) (hi := u74) (xs := x71) (ys := ([(p_l.getD k11 d_Cell).Key] : List Str)) gS un56 ty9 rfl (nb rfl) rfl rfl rfl (OwnL.ex gS (OwnL.ex gS (OwnL.only gS (OwnL.ex gS hf92 hE106) hO109 oM) hE114) hE122) (EncL.cons (c := [.string (bs ((p_l.getD k11 d_Cell).Key))]) rfl rfl EncL.nil) (Or.inr ⟨_, _, rfl, rfl, hB121.cells (o := 0) (n := 1) rfl⟩) rfl Bl Bl oM oM (fun _ h _ => False.elim h) oM ?_)
    intro A128 c129 w130 row131 hO132 hG133 hrg134
    have hG133z := hG133.size
    refine sA rfl (SeqR.done (bn (tn (CW.region (sd rfl (yl_inc rfl rfl rfl oM (sM rfl (dn ?_))))))))
    have hB135 : B_i_GoodCells_0 p_l k11 (x71) = .cont ((x71 ++ ([(p_l.getD k11 d_Cell).Key] : List Str))) := by simp only [B_i_GoodCells_0, hb115, cL]
    exact ⟨p_l.length - (k11 + 1), oM, k11 + 1, (x71 ++ ([(p_l.getD k11 d_Cell).Key] : List Str)), A128, c129, w130.heap.size, rfl, hlt98, oM, rfl, rfl, rfl, rfl, rfl, (RdS.grown good_Cell (RdS.ex good_Cell (RdS.ex good_Cell (RdS.only good_Cell (RdS.ex good_Cell hf91 hE106) hO109 (by simp only [Iv]; omega)) hE114) hE122) hG133 (fun k hk => by have := hrg134 k hk; simp only [Iv]; omega)), hO132, (Below.grown (Ex.trans (Ex.trans (Below.only (Ex.trans hf93 hE106) hO109 oM) hE114) hE122) hG133 oM (fun k hk => by have := hrg134 k hk; omega)), oM, Bl, (okE.append hok96 ((okL.mk (nb rfl) (okE.cons (okL.getD o2 ok_d_Cell _).1 okE.nil))).2), (loopM.cont hlt98 hB135).symm.trans hI84⟩
   ·refine CW.cond_t rfl (not_f hb115) (cR (sA rfl (dn (CW.ret (tr (br ?_))))))
    refine tr (tr ?_)
    have hB147 : B_i_GoodCells_0 p_l k11 (x71) = .ret false := by simp only [B_i_GoodCells_0, hb115, cL]
    have hL146 : loopM (B_i_GoodCells_0 p_l) (p_l.length - 0) 0 (([] : List Str)) = .ret false := hI84.symm.trans (loopM.ret hlt98 hB147)
    refine br (tr (rr rfl (.cons rfl .nil) ?_))
    have hM148 : (i_GoodCells p_l) = (false) := by simp only [i_GoodCells, hb115, hL146, cL]
    rw [hM148]
    exact ⟨rfl, (Ex.trans (Below.only (Ex.trans hf93 hE106) hO109 oM) hE114)⟩
  ·refine cR (sd rfl (yl_lss rfl rfl rfl (dn (CW.seq (CW.cond_f rfl (lt_f hlt98) (CW.exit (tx ?_)))))))
   refine tx ?_
   have hL152 : loopM (B_i_GoodCells_0 p_l) (p_l.length - 0) 0 (([] : List Str)) = .done (x71) := hI84.symm.trans (loopM.stop hlt98)
   refine bx (tn (cR (sM rfl (sd rfl (yL un29 rfl rfl (sd rfl (yl_leq rfl rfl rfl (sM rfl (bcase (decide ((p_l.length : Int) ≤ 24)) (fun hb153 => ?_) (fun hb153 => ?_))))))))))
   ·have hb153p := dec_t hb153
    refine sy rfl rfl hb153 (yM rfl rfl (sy rfl rfl hb153 (yC en31 rfl (oc rfl oz) (Cal.mono (c_i_areRising x71 (RdS.up (OwnL.rd gS hf92) gS) (okL.mk (xs := x71) Bl hok96)) ?_))))
    rintro v156 w155 ⟨rfl, hE157⟩
    have hE157z := Ex.size hE157
    refine sd rfl (yl_pick_t rfl rfl hb153 rfl (sA rfl (dn (CW.ret (rr rfl (.cons rfl .nil) ?_)))))
    have hM158 : (i_GoodCells p_l) = ((i_areRising x71)) := by simp only [i_GoodCells, hb153, hL152, cL]
    rw [hM158]
    exact ⟨rfl, (Ex.trans hf93 hE157)⟩
   ·have hb153p := dec_f hb153
    refine sz rfl rfl hb153 (sz rfl rfl hb153 (sd rfl (yl_pick_f rfl rfl hb153 rfl (sA rfl (dn (CW.ret (rr rfl (.cons rfl .nil) ?_)))))))
    have hM160 : (i_GoodCells p_l) = (false) := by simp only [i_GoodCells, hb153, hL152, cL]
    rw [hM160]
    exact ⟨rfl, hf93⟩
theorem c_i_isTrue {w : World} (p_now : Int) : Cal Try.prog 17 #[.int .i64 (p_now)] w fun v w' => v = .bool ((i_isTrue p_now)) ∧ Ex w w' := by
 refine Cal.of func17 rfl ntmps17 rfl (cR (sA rfl (dn (cR (sM rfl ?_)))))
 refine sd rfl (yC en32 rfl (oc rfl (oc rfl (oc rfl oz))) (Cal.mono (c_i_within p_now 0 100000) ?_))
 rintro v2 w1 ⟨rfl, hE3⟩
 refine sA rfl (dn (CW.ret (rr rfl (.cons rfl .nil) ?_)))
 have hM4 : (i_isTrue p_now) = ((i_within p_now 0 100000)) := by simp only [i_isTrue, cL]
 rw [hM4]
 exact ⟨rfl, (Ex.trans (Ex.refl w) hE3)⟩
theorem c_i_cellsAt {A1 : Option Addr} {c1 : Nat} {w : World} (p_l : List DCell) (p_time : Int) (h1 : RdS w (Iv 0 w.heap.size) R_Cell 2 A1 p_l.length c1 p_l) (o2 : (okL ok_Cell) p_l) : Cal Try.prog 18 #[.slice A1 p_l.length c1, .int .i64 (p_time)] w fun v w' => ∃ A_1 c_1 lo_1 hi_1, v = .slice A_1 ((i_cellsAt p_l p_time).length) c_1 ∧ OwnL w' lo_1 hi_1 63 3 (RF e_Write) A_1 ((i_cellsAt p_l p_time).length) c_1 (i_cellsAt p_l p_time) ∧ (okL ok_Write) (i_cellsAt p_l p_time) ∧ (w.heap.size ≤ lo_1 ∧ lo_1 ≤ hi_1 ∧ hi_1 ≤ w'.heap.size) ∧ Ex w w' := by
 have hol3 := o2.1
 refine Cal.of func18 rfl ntmps18 rfl (cR (sA rfl (dn (cR (sd rfl (yl_buildSlice (cs := []) un24 ty63 (by decide) rfl opvs_nil (by kernel_rfl) ?_))))))
 intro b4 w5 hs6 hz7 hB8 hE9
 have hO10 : OwnL w5 b4 (b4 + 1) 63 3 (RF e_Write) (some ⟨b4, 0, none⟩) 0 0 ([] : List DWrite) := OwnL.of_box (S := fun _ => False) hB8 (Nat.le_refl _) (Nat.lt_succ_self _) EncL.nil (nb rfl) (fun h => h) (fun _ h => False.elim h)
 refine sA rfl (dn (CW.seq (cR (sM rfl (sd rfl (yL un29 rfl rfl (sM rfl ?_)))))))
 refine dn (CW.block (CW.loop (fun m77 L78 w79 => ∃ (k11 : Nat) (x73 : List DWrite) (A74 : Option Addr) (c75 : Nat) (u76 : Nat), m77 = p_l.length - k11 ∧ k11 ≤ p_l.length ∧ w5.heap.size ≤ w79.heap.size ∧ lkp L78 1 = some (.int .i64 (p_time)) ∧ lkp L78 5 = some (.slice A74 x73.length c75) ∧ lkp L78 11 = some (.slice A1 p_l.length c1) ∧ lkp L78 12 = some (.int .i64 ((p_l.length : Int))) ∧ lkp L78 13 = some (.int .i64 ((k11 : Int))) ∧ OwnL w79 b4 u76 63 3 (RF e_Write) A74 x73.length c75 x73 ∧ RdS w79 (Iv 0 w.heap.size) R_Cell 2 A1 p_l.length c1 p_l ∧ Ex w w79 ∧ (b4 ≤ u76 ∧ u76 ≤ w79.heap.size) ∧ x73.length ≤ 0 + 1 * (k11 - 0) ∧ (∀ y ∈ x73, ok_Write y) ∧ loopM (B_i_cellsAt_0 p_l p_time) (p_l.length - k11) k11 (x73) = loopM (B_i_cellsAt_0 p_l p_time) (p_l.length - 0) 0 (([] : List DWrite))) (p_l.length - 0) ?_ ?_))
 ·exact ⟨0, ([] : List DWrite), (some ⟨b4, 0, none⟩), 0, (b4 + 1), rfl, oM, Nat.le_refl _, rfl, rfl, rfl, rfl, rfl, hO10, (RdS.ex good_Cell h1 hE9), (Ex.trans (Ex.refl w) hE9), oM, (by first | (simp; done) | (first | omega | (simp only [lN, toS_length]; omega))), okE.nil, rfl⟩
 ·rintro m82 L83 w84 ⟨k11, x73, A74, c75, u76, rfl, hk85, hsz87, hl88, hl89, hl90, hl91, hl92, hf93, hf94, hf95, hu96, hln97, hok98, hI86⟩
  refine CW.sub (Sub.cons hl88 (Sub.cons hl89 (Sub.cons hl90 (Sub.cons hl91 (Sub.cons hl92 (Sub.nil _)))))) ?_
  have hf95z := Ex.size hf95
  have hbg99 := RdS.big hf94
  rcases Nat.lt_or_ge k11 p_l.length with hlt100 | hlt100
  ·refine cR (sd rfl (yl_lss rfl rfl rfl (dn (CW.seq (CW.cond_t rfl (lt_t hlt100) (CW.skip (tn ?_)))))))
   refine CW.seq (CW.block (cR ?_))
   obtain ⟨_, _, _, eA101, _, ebl101, _, eR101, eC101⟩ := RdS.aD hf94 d_Cell (i := k11)
   obtain ⟨A102, c102, rfl, h102⟩ := eR101
   refine sd rfl (yl_ixN un29 ty44 rfl rfl rfl eA101 (sd rfl (yl_loadN ty44 rfl rfl eC101 rfl (sd rfl (yB ty44 (cs := [.string (bs (([] : Str))), .slice none 0 0]) rfl rfl ?_)))))
   intro b103 w104 hs105 hz106 hB107 hE108
   refine SeqR.u rfl rfl (yl_store (vs := [.string (bs ((p_l.getD k11 d_Cell).Key)), .slice A102 (((p_l.getD k11 d_Cell).Vers).length) c102]) ty44 rfl rfl rfl rfl rfl rfl hB107 (nb rfl) ?_)
   intro w109 hB110 hO111
   have hB110 : Box w109 b103 44 [.string (bs ((p_l.getD k11 d_Cell).Key)), .slice A102 (((p_l.getD k11 d_Cell).Vers).length) c102] := hB110
   have hO111z := hO111.size
   refine dn (cR (sd rfl (yl_loadN ty44 rfl rfl (hB110.cells (n := 2) rfl) rfl (sM rfl (sd rfl (yC en33 rfl (oc rfl (oc rfl oz)) (Cal.mono (c_i_Cell_at (p_l.getD k11 d_Cell) p_time (RdS.up (RdS.only good_Ver (RdS.ex good_Ver h102 hE108) hO111 (by simp only [Iv]; omega)) good_Ver) (okL.getD o2 ok_d_Cell _)) ?_)))))))
   rintro v116 w114 ⟨rfl, ho115, hE117⟩
   have hE117z := Ex.size hE117
   refine sM rfl (sd rfl (yl_extract rfl rfl rfl (sd rfl (yl_extract rfl rfl rfl (sA rfl (sA rfl (dn (cR ?_))))))))
   refine sM rfl (dn (bcase ((i_Cell_at (p_l.getD k11 d_Cell) p_time).2) (fun hb118 => ?_) (fun hb118 => ?_)))
   ·refine CW.cond_t rfl hb118 (CW.region (sM rfl (sd rfl (yl_fieldAddr fd44_0 rfl rfl (sd rfl (yl_load1 ty9 rfl rfl (((Box.ex hB110 hE117).cell 0).trans rfl) (sM rfl (sd rfl (yl_build (cs := [.string (bs ((p_l.getD k11 d_Cell).Key)), .string (bs ((i_Cell_at (p_l.getD k11 d_Cell) p_time).1)), .bool (false)]) rfl (oc rfl (oc rfl oz)) (by kernel_rfl) (sd rfl (yl_buildSlice (cs := [.string (bs ((p_l.getD k11 d_Cell).Key)), .string (bs ((i_Cell_at (p_l.getD k11 d_Cell) p_time).1)), .bool (false)]) un24 ty63 (by decide) rfl (oc rfl oz) (by kernel_rfl) ?_)))))))))))
    intro b120 w121 hs122 hz123 hB124 hE125
    have hO126 : OwnL w121 b120 (b120 + 1) 63 3 (RF e_Write) (some ⟨b120, 0, none⟩) 1 1 ([(⟨(p_l.getD k11 d_Cell).Key, (i_Cell_at (p_l.getD k11 d_Cell) p_time).1, false⟩ : DWrite)] : List DWrite) := OwnL.of_box (S := fun _ => False) hB124 (Nat.le_refl _) (Nat.lt_succ_self _) (EncL.cons (c := [.string (bs ((p_l.getD k11 d_Cell).Key)), .string (bs ((i_Cell_at (p_l.getD k11 d_Cell) p_time).1)), .bool (false)]) rfl rfl EncL.nil) (nb rfl) (fun h => h) (fun _ h => False.elim h)
    refine sd rfl (yl_appendL (S := (fun _ => False)) (lo := b4) (hi := u76) (xs := x73) (ys := ([(⟨(p_l.getD k11 d_Cell).Key, (i_Cell_at (p_l.getD k11 d_Cell) p_time).1, false⟩ : DWrite)] : List DWrite)) gW un24 ty63 rfl (nb rfl) rfl rfl rfl (OwnL.ex gW (OwnL.ex gW (OwnL.only gW (OwnL.ex gW hf93 hE108) hO111 oM) hE117) hE125) (EncL.cons (c := [.string (bs ((p_l.getD k11 d_Cell).Key)), .string (bs ((i_Cell_at (p_l.getD k11 d_Cell) p_time).1)), .bool (false)]) rfl rfl EncL.nil) (Or.inr ⟨_, _, rfl, rfl, hB124.cells (o := 0) (n := 3) rfl⟩) rfl Bl Bl oM oM (fun _ h _ => False.elim h) oM ?_)
    intro A131 c132 w133 row134 hO135 hG136 hrg137
    have hG136z := hG136.size
    refine sA rfl (SeqR.done (bn (tn (CW.region (sd rfl (yl_inc rfl rfl rfl oM (sM rfl (dn ?_))))))))
    have hB138 : B_i_cellsAt_0 p_l p_time k11 (x73) = .cont ((x73 ++ ([(⟨(p_l.getD k11 d_Cell).Key, (i_Cell_at (p_l.getD k11 d_Cell) p_time).1, false⟩ : DWrite)] : List DWrite))) := by simp only [B_i_cellsAt_0, hb118, cL]
    exact ⟨p_l.length - (k11 + 1), oM, k11 + 1, (x73 ++ ([(⟨(p_l.getD k11 d_Cell).Key, (i_Cell_at (p_l.getD k11 d_Cell) p_time).1, false⟩ : DWrite)] : List DWrite)), A131, c132, w133.heap.size, rfl, hlt100, oM, rfl, rfl, rfl, rfl, rfl, hO135, (RdS.grown good_Cell (RdS.ex good_Cell (RdS.ex good_Cell (RdS.only good_Cell (RdS.ex good_Cell hf94 hE108) hO111 (by simp only [Iv]; omega)) hE117) hE125) hG136 (fun k hk => by have := hrg137 k hk; simp only [Iv]; omega)), (Below.grown (Ex.trans (Ex.trans (Below.only (Ex.trans hf95 hE108) hO111 oM) hE117) hE125) hG136 oM (fun k hk => by have := hrg137 k hk; omega)), oM, Bl, (okE.append hok98 ((okL.mk (nb rfl) (okE.cons ⟨(okL.getD o2 ok_d_Cell _).1, ho115⟩ okE.nil))).2), (loopM.cont hlt100 hB138).symm.trans hI86⟩
   ·refine CW.cond_f rfl hb118 (CW.skip (bn (tn (CW.region (sd rfl (yl_inc rfl rfl rfl oM (sM rfl (dn ?_))))))))
    have hB149 : B_i_cellsAt_0 p_l p_time k11 (x73) = .cont (x73) := by simp only [B_i_cellsAt_0, hb118, cL]
    exact ⟨p_l.length - (k11 + 1), oM, k11 + 1, x73, A74, c75, u76, rfl, hlt100, oM, rfl, rfl, rfl, rfl, rfl, (OwnL.ex gW (OwnL.only gW (OwnL.ex gW hf93 hE108) hO111 oM) hE117), (RdS.ex good_Cell (RdS.only good_Cell (RdS.ex good_Cell hf94 hE108) hO111 (by simp only [Iv]; omega)) hE117), (Ex.trans (Below.only (Ex.trans hf95 hE108) hO111 oM) hE117), oM, Bl, hok98, (loopM.cont hlt100 hB149).symm.trans hI86⟩
  ·refine cR (sd rfl (yl_lss rfl rfl rfl (dn (CW.seq (CW.cond_f rfl (lt_f hlt100) (CW.exit (tx ?_)))))))
   refine tx ?_
   have hL159 : loopM (B_i_cellsAt_0 p_l p_time) (p_l.length - 0) 0 (([] : List DWrite)) = .done (x73) := hI86.symm.trans (loopM.stop hlt100)
   refine bx (tn (cR (sM rfl (sA rfl (dn (CW.ret ?_))))))
   refine rr rfl (.cons rfl .nil) ?_
   have hM160 : (i_cellsAt p_l p_time) = (x73) := by simp only [i_cellsAt, hL159, cL]
   rw [hM160]
   exact ⟨A74, c75, b4, u76, rfl, hf93, (okL.mk (xs := x73) Bl hok98), oM, hf95⟩
theorem c_i_CopyAt {A1 : Option Addr} {c1 : Nat} {w : World} (p_l : List DCell) (p_time : Int) (h1 : RdS w (Iv 0 w.heap.size) R_Cell 2 A1 p_l.length c1 p_l) (o2 : (okL ok_Cell) p_l) : Cal Try.prog 7 #[.slice A1 p_l.length c1, .int .i64 (p_time)] w fun v w' => ∃ A_1 c_1 lo_1 hi_1, v = .tuple #[.agg #[.int .i64 ((i_CopyAt p_l p_time).1.Time), .slice A_1 (((i_CopyAt p_l p_time).1.Rows).length) c_1], .bool ((i_CopyAt p_l p_time).2)] ∧ OwnL w' lo_1 hi_1 63 3 (RF e_Write) A_1 (((i_CopyAt p_l p_time).1.Rows).length) c_1 ((i_CopyAt p_l p_time).1.Rows) ∧ ok_Copy ((i_CopyAt p_l p_time).1) ∧ (w.heap.size ≤ lo_1 ∧ lo_1 ≤ hi_1 ∧ hi_1 ≤ w'.heap.size) ∧ Ex w w' := by
 have hol3 := o2.1
 refine Cal.of func7 rfl ntmps7 rfl (cR (sd rfl (yB ty26 (cs := [.int .i64 (0), .slice none 0 0]) rfl rfl ?_)))
 intro b4 w5 hs6 hz7 hB8 hE9
 refine sA rfl (dn (CW.seq (cR (sM rfl ?_))))
 have q10 := RdS.ex good_Cell h1 hE9
 refine sd rfl (yC en16 rfl (oc rfl oz) (Cal.mono (c_i_GoodCells p_l (RdS.up q10 good_Cell) o2) ?_))
 rintro v12 w11 ⟨rfl, hE13⟩
 have hE13z := Ex.size hE13
 refine sd rfl (yl_not rfl rfl (sM rfl (bcase (i_GoodCells p_l) (fun hb14 => ?_) (fun hb14 => ?_))))
 ·refine sy rfl rfl (not_t hb14) (yM rfl rfl (sy rfl rfl (not_t hb14) (yC en17 rfl (oc rfl oz) (Cal.mono (c_i_isTrue p_time) ?_))))
  rintro v16 w15 ⟨rfl, hE17⟩
  have hE17z := Ex.size hE17
  refine sy rfl rfl (not_t hb14) (yl_not rfl rfl (sd rfl (yl_pick_f rfl rfl (not_t hb14) rfl (dn (bcase (i_isTrue p_time) (fun hb18 => ?_) (fun hb18 => ?_))))))
  ·refine CW.cond_f rfl (not_t hb18) (CW.skip (tn (cR (sM rfl (sM rfl (sM rfl (sd rfl (yC en18 rfl (oc rfl (oc rfl oz)) (Cal.mono (c_i_cellsAt p_l p_time (RdS.up (RdS.ex good_Cell (RdS.ex good_Cell q10 hE13) hE17) good_Cell) o2) ?_)))))))))
   rintro v24 w21 ⟨A22, c22, lo22, hi22, rfl, h22, ho23, hrn26, hE25⟩
   have hE25z := Ex.size hE25
   refine sd rfl (yl_build (cs := [.int .i64 (p_time), .slice A22 ((i_cellsAt p_l p_time).length) c22]) rfl (oc rfl (oc rfl oz)) (by kernel_rfl) (SeqR.u rfl rfl (yl_store (vs := [.int .i64 (p_time), .slice A22 ((i_cellsAt p_l p_time).length) c22]) ty26 rfl rfl rfl rfl rfl rfl (Box.ex (Box.ex (Box.ex hB8 hE13) hE17) hE25) (nb rfl) ?_)))
   intro w30 hB31 hO32
   have hB31 : Box w30 b4 26 [.int .i64 (p_time), .slice A22 ((i_cellsAt p_l p_time).length) c22] := hB31
   have hO32z := hO32.size
   refine sA rfl (dn (CW.ret (rr rfl (.cons ⟨_, rfl, run_loadN ty26 (cs := [.int .i64 (p_time), .slice A22 ((i_cellsAt p_l p_time).length) c22]) rfl (hB31.cells (n := 2) rfl)⟩ (.cons rfl .nil)) ?_)))
   have hM33 : (i_CopyAt p_l p_time) = (((⟨p_time, (i_cellsAt p_l p_time)⟩ : DCopy), true)) := by simp only [i_CopyAt, hb14, hb18, cL]
   rw [hM33]
   exact ⟨A22, c22, lo22, hi22, rfl, (OwnL.only gW h22 hO32 oM), ho23, oM, (Below.only (Ex.trans (Ex.trans (Ex.trans (Ex.trans (Ex.refl w) hE9) hE13) hE17) hE25) hO32 oM)⟩
  ·refine CW.cond_t rfl (not_f hb18) (cR (sd rfl (yl_build (cs := [.int .i64 (0), .slice none 0 0]) rfl opvs_nil (by kernel_rfl) (SeqR.u rfl rfl (yl_store (vs := [.int .i64 (0), .slice none 0 0]) ty26 rfl rfl rfl rfl rfl rfl (Box.ex (Box.ex hB8 hE13) hE17) (nb rfl) ?_)))))
   intro w42 hB43 hO44
   have hB43 : Box w42 b4 26 [.int .i64 (0), .slice none 0 0] := hB43
   have hO44z := hO44.size
   refine sA rfl (dn (CW.ret (tr (rr rfl (.cons ⟨_, rfl, run_loadN ty26 (cs := [.int .i64 (0), .slice none 0 0]) rfl (hB43.cells (n := 2) rfl)⟩ (.cons rfl .nil)) ?_))))
   have hM45 : (i_CopyAt p_l p_time) = (((⟨0, []⟩ : DCopy), false)) := by simp only [i_CopyAt, hb14, hb18, cL]
   rw [hM45]
   exact ⟨none, 0, w42.heap.size, w42.heap.size, rfl, (OwnL.nil _ _ _ _ _ _), (okL.nil _), oM, (Below.only (Ex.trans (Ex.trans (Ex.trans (Ex.refl w) hE9) hE13) hE17) hO44 oM)⟩
 ·refine sz rfl rfl (not_f hb14) (sz rfl rfl (not_f hb14) (sz rfl rfl (not_f hb14) (sd rfl (yl_pick_t rfl rfl (not_f hb14) rfl (dn (CW.cond_t rfl rfl (cR ?_)))))))
  refine sd rfl (yl_build (cs := [.int .i64 (0), .slice none 0 0]) rfl opvs_nil (by kernel_rfl) (SeqR.u rfl rfl (yl_store (vs := [.int .i64 (0), .slice none 0 0]) ty26 rfl rfl rfl rfl rfl rfl (Box.ex hB8 hE13) (nb rfl) ?_)))
  intro w51 hB52 hO53
  have hB52 : Box w51 b4 26 [.int .i64 (0), .slice none 0 0] := hB52
  have hO53z := hO53.size
  refine sA rfl (dn (CW.ret (tr (rr rfl (.cons ⟨_, rfl, run_loadN ty26 (cs := [.int .i64 (0), .slice none 0 0]) rfl (hB52.cells (n := 2) rfl)⟩ (.cons rfl .nil)) ?_))))
  have hM54 : (i_CopyAt p_l p_time) = (((⟨0, []⟩ : DCopy), false)) := by simp only [i_CopyAt, hb14, cL]
  rw [hM54]
  exact ⟨none, 0, w51.heap.size, w51.heap.size, rfl, (OwnL.nil _ _ _ _ _ _), (okL.nil _), oM, (Below.only (Ex.trans (Ex.trans (Ex.refl w) hE9) hE13) hO53 oM)⟩
theorem c_l_eqWrite {w : World} (p_a : DWrite) (p_b : DWrite) : Cal Try.prog 34 #[.agg #[.string (bs (p_a.Key)), .string (bs (p_a.Val)), .bool (p_a.Gone)], .agg #[.string (bs (p_b.Key)), .string (bs (p_b.Val)), .bool (p_b.Gone)]] w fun v w' => v = .bool ((l_eqWrite p_a p_b)) ∧ Ex w w' := by
 refine Cal.of func34 rfl ntmps34 rfl (cR (sd rfl (yl_box rfl rfl rfl ?_)))
 intro b1 w2 hs3 hz4 hB5 hE6
 refine sd rfl (yl_box rfl rfl rfl ?_)
 intro b7 w8 hs9 hz10 hB11 hE12
 refine sA rfl (dn (CW.seq (cR (sd rfl (yl_fieldAddr fd63_0 rfl rfl ?_)))))
 have q13 := Box.ex hB5 hE12
 refine sd rfl (yl_load1 ty9 rfl rfl ((q13.cell 0).trans rfl) (sd rfl (yl_fieldAddr fd63_0 rfl rfl (sd rfl (yl_load1 ty9 rfl rfl ((hB11.cell 0).trans rfl) (sd rfl (yl_sneq (a := p_a.Key) (b := p_b.Key) rfl rfl rfl (dn (bcase (p_a.Key == p_b.Key) (fun hb14 => ?_) (fun hb14 => ?_))))))))))
 ·refine CW.cond_f rfl (not_t hb14) (CW.skip (tn (CW.seq (cR (sd rfl (yl_fieldAddr fd63_1 rfl rfl (sd rfl (yl_load1 ty9 rfl rfl ((q13.cell 1).trans rfl) (sd rfl (yl_fieldAddr fd63_1 rfl rfl ?_))))))))))
  refine sd rfl (yl_load1 ty9 rfl rfl ((hB11.cell 1).trans rfl) (sd rfl (yl_sneq (a := p_a.Val) (b := p_b.Val) rfl rfl rfl (dn (bcase (p_a.Val == p_b.Val) (fun hb15 => ?_) (fun hb15 => ?_))))))
  ·refine CW.cond_f rfl (not_t hb15) (CW.skip (tn (CW.seq (cR (sd rfl (yl_fieldAddr fd63_2 rfl rfl (sd rfl (yl_load1 ty4 rfl rfl ((q13.cell 2).trans rfl) (sd rfl (yl_fieldAddr fd63_2 rfl rfl ?_))))))))))
   refine sd rfl (yl_load1 ty4 rfl rfl ((hB11.cell 2).trans rfl) (sd rfl (yl_bneq un4 rfl rfl rfl (dn (bcase (p_a.Gone == p_b.Gone) (fun hb16 => ?_) (fun hb16 => ?_))))))
   ·refine CW.cond_f rfl (not_t hb16) (CW.skip (tn (cR (sA rfl (dn (CW.ret ?_))))))
    refine rr rfl (.cons rfl .nil) ?_
    have hM17 : (l_eqWrite p_a p_b) = (true) := by simp only [l_eqWrite, hb14, hb15, hb16, cL]
    rw [hM17]
    exact ⟨rfl, (Ex.trans (Ex.trans (Ex.refl w) hE6) hE12)⟩
   ·refine CW.cond_t rfl (not_f hb16) (cR (sA rfl (dn (CW.ret (tr (rr rfl (.cons rfl .nil) ?_))))))
    have hM20 : (l_eqWrite p_a p_b) = (false) := by simp only [l_eqWrite, hb14, hb15, hb16, cL]
    rw [hM20]
    exact ⟨rfl, (Ex.trans (Ex.trans (Ex.refl w) hE6) hE12)⟩
  ·refine CW.cond_t rfl (not_f hb15) (cR (sA rfl (dn (CW.ret (tr (rr rfl (.cons rfl .nil) ?_))))))
   have hM23 : (l_eqWrite p_a p_b) = (false) := by simp only [l_eqWrite, hb14, hb15, cL]
   rw [hM23]
   exact ⟨rfl, (Ex.trans (Ex.trans (Ex.refl w) hE6) hE12)⟩
 ·refine CW.cond_t rfl (not_f hb14) (cR (sA rfl (dn (CW.ret (tr (rr rfl (.cons rfl .nil) ?_))))))
  have hM26 : (l_eqWrite p_a p_b) = (false) := by simp only [l_eqWrite, hb14, cL]
  rw [hM26]
  exact ⟨rfl, (Ex.trans (Ex.trans (Ex.refl w) hE6) hE12)⟩
theorem c_l_eqWriteS {A1 : Option Addr} {c1 : Nat} {A2 : Option Addr} {c2 : Nat} {w : World} (p_a : List DWrite) (p_b : List DWrite) (h1 : RdS w (Iv 0 w.heap.size) (RF e_Write) 3 A1 p_a.length c1 p_a) (h2 : RdS w (Iv 0 w.heap.size) (RF e_Write) 3 A2 p_b.length c2 p_b) : Cal Try.prog 19 #[.slice A1 p_a.length c1, .slice A2 p_b.length c2] w fun v w' => v = .bool ((l_eqWriteS p_a p_b)) ∧ Ex w w' := by
 refine Cal.of func19 rfl ntmps19 rfl (cR (sA rfl (dn (CW.seq (cR ?_)))))
 refine sM rfl (sd rfl (yL un24 rfl rfl (sM rfl (sd rfl (yL un24 rfl rfl (sd rfl (yl_neq rfl rfl rfl (dn (bcase (decide ((p_a.length : Int) = (p_b.length : Int))) (fun hb3 => ?_) (fun hb3 => ?_))))))))))
 ·have hb3p := dec_t hb3
  refine CW.cond_f rfl (not_t hb3) (CW.skip (tn (CW.seq (cR (sA rfl (dn ?_))))))
  refine CW.block (CW.loop (fun m5 L6 w7 => ∃ (k4 : Nat), m5 = p_a.length - k4 ∧ k4 ≤ p_a.length ∧ w.heap.size ≤ w7.heap.size ∧ lkp L6 0 = some (.slice A1 p_a.length c1) ∧ lkp L6 1 = some (.slice A2 p_b.length c2) ∧ lkp L6 5 = some (.int .i64 ((k4 : Int))) ∧ RdS w7 (Iv 0 w.heap.size) (RF e_Write) 3 A1 p_a.length c1 p_a ∧ RdS w7 (Iv 0 w.heap.size) (RF e_Write) 3 A2 p_b.length c2 p_b ∧ Ex w w7 ∧ loopM (B_l_eqWriteS_0 p_a p_b) (p_a.length - k4) k4 () = loopM (B_l_eqWriteS_0 p_a p_b) (p_a.length - 0) 0 ()) (p_a.length - 0) ?_ ?_)
  ·exact ⟨0, rfl, oM, Nat.le_refl _, rfl, rfl, rfl, h1, h2, (Ex.refl w), rfl⟩
  ·rintro m8 L9 w10 ⟨k4, rfl, hk11, hsz13, hl14, hl15, hl16, hf17, hf18, hf19, hI12⟩
   refine CW.sub (Sub.cons hl14 (Sub.cons hl15 (Sub.cons hl16 (Sub.nil _)))) ?_
   have hf19z := Ex.size hf19
   have hbg20 := RdS.big hf17
   rcases Nat.lt_or_ge k4 p_a.length with hlt21 | hlt21
   ·refine CW.seq (cR (sM rfl (sM rfl (sd rfl (yL un24 rfl rfl (sd rfl (yl_lss rfl rfl rfl (dn ?_))))))))
    refine CW.cond_t rfl (lt_t hlt21) (CW.skip (tn (CW.seq (CW.block (CW.seq ?_)))))
    obtain ⟨eb22, eo22, _, eA22, _, ebl22, _, eR22, eC22⟩ := RdS.aD hf17 d_Write (i := k4)
    obtain rfl := eR22
    have eC22 : Cells w10 eb22 (eo22 + k4 * 3) [.string (bs ((p_a.getD k4 d_Write).Key)), .string (bs ((p_a.getD k4 d_Write).Val)), .bool ((p_a.getD k4 d_Write).Gone)] := eC22
    obtain ⟨eb23, eo23, _, eA23, _, ebl23, _, eR23, eC23⟩ := RdS.aD hf18 d_Write (i := k4)
    obtain rfl := eR23
    have eC23 : Cells w10 eb23 (eo23 + k4 * 3) [.string (bs ((p_b.getD k4 d_Write).Key)), .string (bs ((p_b.getD k4 d_Write).Val)), .bool ((p_b.getD k4 d_Write).Gone)] := eC23
    refine drI 10 [.slice A1 p_a.length c1, .int .i64 ((k4 : Int)), .pointer (some ⟨eb22, eo22 + k4 * 3, none⟩), .agg #[.string (bs ((p_a.getD k4 d_Write).Key)), .string (bs ((p_a.getD k4 d_Write).Val)), .bool ((p_a.getD k4 d_Write).Gone)], .slice A2 p_b.length c2, .int .i64 ((k4 : Int)), .pointer (some ⟨eb23, eo23 + k4 * 3, none⟩), .agg #[.string (bs ((p_b.getD k4 d_Write).Key)), .string (bs ((p_b.getD k4 d_Write).Val)), .bool ((p_b.getD k4 d_Write).Gone)], .bool ((l_eqWrite (p_a.getD k4 d_Write) (p_b.getD k4 d_Write))), .bool (!(l_eqWrite (p_a.getD k4 d_Write) (p_b.getD k4 d_Write)))] Try.follows rfl ⟨?_, ?_, ?_, ?_, ?_, ?_, ?_, ?_, ?_, ?_, trivial⟩ ?_
    ·exact oI rfl fun h => yM rfl (h.old 0 _ rfl rfl) kI
    ·exact oI rfl fun h => yM rfl (h.old 5 _ rfl rfl) kI
    ·intro L35 w36 hi37
     have hE38 := hi37.ex
     have hE38z := Ex.size hE38
     exact os rfl ((yl_ixN un24 ty63 rfl (hi37.dt 0 17 rfl rfl rfl) (hi37.dt 1 18 rfl rfl rfl) eA22 kI))
    ·exact oI rfl fun h => yl_loadN ty63 rfl (h.dt 2 19 rfl rfl rfl) (Cells.ex eC22 h.ex) rfl kI
    ·exact oI rfl fun h => yM rfl (h.old 1 _ rfl rfl) kI
    ·exact oI rfl fun h => yM rfl (h.old 5 _ rfl rfl) kI
    ·intro L57 w58 hi59
     have hE60 := hi59.ex
     have hE60z := Ex.size hE60
     exact os rfl ((yl_ixN un24 ty63 rfl (hi59.dt 4 21 rfl rfl rfl) (hi59.dt 5 22 rfl rfl rfl) eA23 kI))
    ·exact oI rfl fun h => yl_loadN ty63 rfl (h.dt 6 23 rfl rfl rfl) (Cells.ex eC23 h.ex) rfl kI
    ·intro L69 w70 hi71
     exact OpR.op' rfl (yC en34 rfl (oc (hi71.dt 3 20 rfl rfl rfl) (oc (hi71.dt 7 24 rfl rfl rfl) oz)) (Cal.mono (c_l_eqWrite (p_a.getD k4 d_Write) (p_b.getD k4 d_Write)) fun _ _ h => h))
    ·exact oI rfl fun h => yl_not rfl (h.dt 8 25 rfl rfl rfl) kI
    ·intro fl86 fh87 L83 w84 hp85
     have hE88 := hp85.ex
     have hE88z := Ex.size hE88
     refine dn (CW.sub (sC 0 (hp85.old 0 _ rfl rfl) (sC 1 (hp85.old 1 _ rfl rfl) (sC 5 (hp85.old 5 _ rfl rfl) (sC 26 (hp85.nt 9 26 rfl rfl rfl) (Sub.nil _))))) (bcase (l_eqWrite (p_a.getD k4 d_Write) (p_b.getD k4 d_Write)) (fun hb93 => ?_) (fun hb93 => ?_)))
     ·refine CW.cond_f rfl (not_t hb93) (CW.skip (bn (tn (CW.region (sM rfl (sd rfl (yl_inc rfl rfl rfl oM (sA rfl (SeqR.done ?_)))))))))
      refine tn ?_
      have hB94 : B_l_eqWriteS_0 p_a p_b k4 () = .cont () := by simp only [B_l_eqWriteS_0, hb3, hb93, cL]
      exact ⟨p_a.length - (k4 + 1), oM, k4 + 1, rfl, hlt21, oM, rfl, rfl, rfl, (RdS.ex gW hf17 hE88), (RdS.ex gW hf18 hE88), (Ex.trans hf19 hE88), (loopM.cont hlt21 hB94).symm.trans hI12⟩
     ·refine CW.cond_t rfl (not_f hb93) (cR (sA rfl (dn (CW.ret (br (tr ?_))))))
      refine tr ?_
      have hB99 : B_l_eqWriteS_0 p_a p_b k4 () = .ret false := by simp only [B_l_eqWriteS_0, hb3, hb93, cL]
      have hL98 : loopM (B_l_eqWriteS_0 p_a p_b) (p_a.length - 0) 0 () = .ret false := hI12.symm.trans (loopM.ret hlt21 hB99)
      refine br (tr (rr rfl (.cons rfl .nil) ?_))
      have hM100 : (l_eqWriteS p_a p_b) = (false) := by simp only [l_eqWriteS, hb3, hb93, hL98, cL]
      rw [hM100]
      exact ⟨rfl, (Ex.trans hf19 hE88)⟩
   ·refine CW.seq (cR (sM rfl (sM rfl (sd rfl (yL un24 rfl rfl (sd rfl (yl_lss rfl rfl rfl (dn ?_))))))))
    refine CW.cond_f rfl (lt_f hlt21) (CW.exit (tx (tx ?_)))
    have hL102 : loopM (B_l_eqWriteS_0 p_a p_b) (p_a.length - 0) 0 () = .done () := hI12.symm.trans (loopM.stop hlt21)
    refine bx (tn (cR (sA rfl (dn (CW.ret (rr rfl (.cons rfl .nil) ?_))))))
    have hM103 : (l_eqWriteS p_a p_b) = (true) := by simp only [l_eqWriteS, hb3, hL102, cL]
    rw [hM103]
    exact ⟨rfl, hf19⟩
 ·have hb3p := dec_f hb3
  refine CW.cond_t rfl (not_f hb3) (cR (sA rfl (dn (CW.ret (tr (rr rfl (.cons rfl .nil) ?_))))))
  have hM104 : (l_eqWriteS p_a p_b) = (false) := by simp only [l_eqWriteS, hb3, cL]
  rw [hM104]
  exact ⟨rfl, (Ex.refl w)⟩
theorem c_l_eqCopy {A1 : Option Addr} {c1 : Nat} {A2 : Option Addr} {c2 : Nat} {w : World} (p_a : DCopy) (p_b : DCopy) (h1 : RdS w (Iv 0 w.heap.size) (RF e_Write) 3 A1 p_a.Rows.length c1 p_a.Rows) (h2 : RdS w (Iv 0 w.heap.size) (RF e_Write) 3 A2 p_b.Rows.length c2 p_b.Rows) : Cal Try.prog 8 #[.agg #[.int .i64 (p_a.Time), .slice A1 p_a.Rows.length c1], .agg #[.int .i64 (p_b.Time), .slice A2 p_b.Rows.length c2]] w fun v w' => v = .bool ((l_eqCopy p_a p_b)) ∧ Ex w w' := by
 refine Cal.of func8 rfl ntmps8 rfl (cR (sd rfl (yl_box rfl rfl rfl ?_)))
 intro b3 w4 hs5 hz6 hB7 hE8
 refine sd rfl (yl_box rfl rfl rfl ?_)
 intro b9 w10 hs11 hz12 hB13 hE14
 refine sA rfl (dn (CW.seq (cR (sd rfl (yl_fieldAddr fd26_0 rfl rfl ?_)))))
 have q15 := Box.ex hB7 hE14
 refine sd rfl (yl_load1 ty3 rfl rfl ((q15.cell 0).trans rfl) (sd rfl (yl_fieldAddr fd26_0 rfl rfl (sd rfl (yl_load1 ty3 rfl rfl ((hB13.cell 0).trans rfl) (sd rfl (yl_neq rfl rfl rfl (dn (bcase (decide (p_a.Time = p_b.Time)) (fun hb16 => ?_) (fun hb16 => ?_))))))))))
 ·have hb16p := dec_t hb16
  refine CW.cond_f rfl (not_t hb16) (CW.skip (tn (CW.seq (cR (sd rfl (yl_fieldAddr fd26_1 rfl rfl (sd rfl (yl_load1 ty24 rfl rfl ((q15.cell 1).trans rfl) (sd rfl (yl_fieldAddr fd26_1 rfl rfl ?_))))))))))
  refine sd rfl (yl_load1 ty24 rfl rfl ((hB13.cell 1).trans rfl) (sd rfl (yC en19 rfl (oc rfl (oc rfl oz)) (Cal.mono (c_l_eqWriteS p_a.Rows p_b.Rows (RdS.up (RdS.ex gW (RdS.ex gW h1 hE8) hE14) gW) (RdS.up (RdS.ex gW (RdS.ex gW h2 hE8) hE14) gW)) ?_))))
  rintro v22 w21 ⟨rfl, hE23⟩
  refine sd rfl (yl_not rfl rfl (dn (bcase (l_eqWriteS p_a.Rows p_b.Rows) (fun hb24 => ?_) (fun hb24 => ?_))))
  ·refine CW.cond_f rfl (not_t hb24) (CW.skip (tn (cR (sA rfl (dn (CW.ret ?_))))))
   refine rr rfl (.cons rfl .nil) ?_
   have hM25 : (l_eqCopy p_a p_b) = (true) := by simp only [l_eqCopy, hb16, hb24, cL]
   rw [hM25]
   exact ⟨rfl, (Ex.trans (Ex.trans (Ex.trans (Ex.refl w) hE8) hE14) hE23)⟩
  ·refine CW.cond_t rfl (not_f hb24) (cR (sA rfl (dn (CW.ret (tr (rr rfl (.cons rfl .nil) ?_))))))
   have hM29 : (l_eqCopy p_a p_b) = (false) := by simp only [l_eqCopy, hb16, hb24, cL]
   rw [hM29]
   exact ⟨rfl, (Ex.trans (Ex.trans (Ex.trans (Ex.refl w) hE8) hE14) hE23)⟩
 ·have hb16p := dec_f hb16
  refine CW.cond_t rfl (not_f hb16) (cR (sA rfl (dn (CW.ret (tr (rr rfl (.cons rfl .nil) ?_))))))
  have hM33 : (l_eqCopy p_a p_b) = (false) := by simp only [l_eqCopy, hb16, cL]
  rw [hM33]
  exact ⟨rfl, (Ex.trans (Ex.trans (Ex.refl w) hE8) hE14)⟩
theorem c_l_eqVer {w : World} (p_a : DVer) (p_b : DVer) : Cal Try.prog 45 #[.agg #[.int .i64 (p_a.Time), .string (bs (p_a.Val)), .bool (p_a.Gone)], .agg #[.int .i64 (p_b.Time), .string (bs (p_b.Val)), .bool (p_b.Gone)]] w fun v w' => v = .bool ((l_eqVer p_a p_b)) ∧ Ex w w' := by
 refine Cal.of func45 rfl ntmps45 rfl (cR (sd rfl (yl_box rfl rfl rfl ?_)))
 intro b1 w2 hs3 hz4 hB5 hE6
 refine sd rfl (yl_box rfl rfl rfl ?_)
 intro b7 w8 hs9 hz10 hB11 hE12
 refine sA rfl (dn (CW.seq (cR (sd rfl (yl_fieldAddr fd68_0 rfl rfl ?_)))))
 have q13 := Box.ex hB5 hE12
 refine sd rfl (yl_load1 ty3 rfl rfl ((q13.cell 0).trans rfl) (sd rfl (yl_fieldAddr fd68_0 rfl rfl (sd rfl (yl_load1 ty3 rfl rfl ((hB11.cell 0).trans rfl) (sd rfl (yl_neq rfl rfl rfl (dn (bcase (decide (p_a.Time = p_b.Time)) (fun hb14 => ?_) (fun hb14 => ?_))))))))))
 ·have hb14p := dec_t hb14
  refine CW.cond_f rfl (not_t hb14) (CW.skip (tn (CW.seq (cR (sd rfl (yl_fieldAddr fd68_1 rfl rfl (sd rfl (yl_load1 ty9 rfl rfl ((q13.cell 1).trans rfl) (sd rfl (yl_fieldAddr fd68_1 rfl rfl ?_))))))))))
  refine sd rfl (yl_load1 ty9 rfl rfl ((hB11.cell 1).trans rfl) (sd rfl (yl_sneq (a := p_a.Val) (b := p_b.Val) rfl rfl rfl (dn (bcase (p_a.Val == p_b.Val) (fun hb15 => ?_) (fun hb15 => ?_))))))
  ·refine CW.cond_f rfl (not_t hb15) (CW.skip (tn (CW.seq (cR (sd rfl (yl_fieldAddr fd68_2 rfl rfl (sd rfl (yl_load1 ty4 rfl rfl ((q13.cell 2).trans rfl) (sd rfl (yl_fieldAddr fd68_2 rfl rfl ?_))))))))))
   refine sd rfl (yl_load1 ty4 rfl rfl ((hB11.cell 2).trans rfl) (sd rfl (yl_bneq un4 rfl rfl rfl (dn (bcase (p_a.Gone == p_b.Gone) (fun hb16 => ?_) (fun hb16 => ?_))))))
   ·refine CW.cond_f rfl (not_t hb16) (CW.skip (tn (cR (sA rfl (dn (CW.ret ?_))))))
    refine rr rfl (.cons rfl .nil) ?_
    have hM17 : (l_eqVer p_a p_b) = (true) := by simp only [l_eqVer, hb14, hb15, hb16, cL]
    rw [hM17]
    exact ⟨rfl, (Ex.trans (Ex.trans (Ex.refl w) hE6) hE12)⟩
   ·refine CW.cond_t rfl (not_f hb16) (cR (sA rfl (dn (CW.ret (tr (rr rfl (.cons rfl .nil) ?_))))))
    have hM20 : (l_eqVer p_a p_b) = (false) := by simp only [l_eqVer, hb14, hb15, hb16, cL]
    rw [hM20]
    exact ⟨rfl, (Ex.trans (Ex.trans (Ex.refl w) hE6) hE12)⟩
  ·refine CW.cond_t rfl (not_f hb15) (cR (sA rfl (dn (CW.ret (tr (rr rfl (.cons rfl .nil) ?_))))))
   have hM23 : (l_eqVer p_a p_b) = (false) := by simp only [l_eqVer, hb14, hb15, cL]
   rw [hM23]
   exact ⟨rfl, (Ex.trans (Ex.trans (Ex.refl w) hE6) hE12)⟩
 ·have hb14p := dec_f hb14
  refine CW.cond_t rfl (not_f hb14) (cR (sA rfl (dn (CW.ret (tr (rr rfl (.cons rfl .nil) ?_))))))
  have hM26 : (l_eqVer p_a p_b) = (false) := by simp only [l_eqVer, hb14, cL]
  rw [hM26]
  exact ⟨rfl, (Ex.trans (Ex.trans (Ex.refl w) hE6) hE12)⟩
theorem c_l_eqVerS {A1 : Option Addr} {c1 : Nat} {A2 : Option Addr} {c2 : Nat} {w : World} (p_a : List DVer) (p_b : List DVer) (h1 : RdS w (Iv 0 w.heap.size) (RF e_Ver) 3 A1 p_a.length c1 p_a) (h2 : RdS w (Iv 0 w.heap.size) (RF e_Ver) 3 A2 p_b.length c2 p_b) : Cal Try.prog 35 #[.slice A1 p_a.length c1, .slice A2 p_b.length c2] w fun v w' => v = .bool ((l_eqVerS p_a p_b)) ∧ Ex w w' := by
 refine Cal.of func35 rfl ntmps35 rfl (cR (sA rfl (dn (CW.seq (cR ?_)))))
 refine sM rfl (sd rfl (yL un42 rfl rfl (sM rfl (sd rfl (yL un42 rfl rfl (sd rfl (yl_neq rfl rfl rfl (dn (bcase (decide ((p_a.length : Int) = (p_b.length : Int))) (fun hb3 => ?_) (fun hb3 => ?_))))))))))
 ·have hb3p := dec_t hb3
  refine CW.cond_f rfl (not_t hb3) (CW.skip (tn (CW.seq (cR (sA rfl (dn ?_))))))
  refine CW.block (CW.loop (fun m5 L6 w7 => ∃ (k4 : Nat), m5 = p_a.length - k4 ∧ k4 ≤ p_a.length ∧ w.heap.size ≤ w7.heap.size ∧ lkp L6 0 = some (.slice A1 p_a.length c1) ∧ lkp L6 1 = some (.slice A2 p_b.length c2) ∧ lkp L6 5 = some (.int .i64 ((k4 : Int))) ∧ RdS w7 (Iv 0 w.heap.size) (RF e_Ver) 3 A1 p_a.length c1 p_a ∧ RdS w7 (Iv 0 w.heap.size) (RF e_Ver) 3 A2 p_b.length c2 p_b ∧ Ex w w7 ∧ loopM (B_l_eqVerS_0 p_a p_b) (p_a.length - k4) k4 () = loopM (B_l_eqVerS_0 p_a p_b) (p_a.length - 0) 0 ()) (p_a.length - 0) ?_ ?_)
  ·exact ⟨0, rfl, oM, Nat.le_refl _, rfl, rfl, rfl, h1, h2, (Ex.refl w), rfl⟩
  ·rintro m8 L9 w10 ⟨k4, rfl, hk11, hsz13, hl14, hl15, hl16, hf17, hf18, hf19, hI12⟩
   refine CW.sub (Sub.cons hl14 (Sub.cons hl15 (Sub.cons hl16 (Sub.nil _)))) ?_
   have hf19z := Ex.size hf19
   have hbg20 := RdS.big hf17
   rcases Nat.lt_or_ge k4 p_a.length with hlt21 | hlt21
   ·refine CW.seq (cR (sM rfl (sM rfl (sd rfl (yL un42 rfl rfl (sd rfl (yl_lss rfl rfl rfl (dn ?_))))))))
    refine CW.cond_t rfl (lt_t hlt21) (CW.skip (tn (CW.seq (CW.block (CW.seq ?_)))))
    obtain ⟨eb22, eo22, _, eA22, _, ebl22, _, eR22, eC22⟩ := RdS.aD hf17 d_Ver (i := k4)
    obtain rfl := eR22
    have eC22 : Cells w10 eb22 (eo22 + k4 * 3) [.int .i64 ((p_a.getD k4 d_Ver).Time), .string (bs ((p_a.getD k4 d_Ver).Val)), .bool ((p_a.getD k4 d_Ver).Gone)] := eC22
    obtain ⟨eb23, eo23, _, eA23, _, ebl23, _, eR23, eC23⟩ := RdS.aD hf18 d_Ver (i := k4)
    obtain rfl := eR23
    have eC23 : Cells w10 eb23 (eo23 + k4 * 3) [.int .i64 ((p_b.getD k4 d_Ver).Time), .string (bs ((p_b.getD k4 d_Ver).Val)), .bool ((p_b.getD k4 d_Ver).Gone)] := eC23
    refine drI 10 [.slice A1 p_a.length c1, .int .i64 ((k4 : Int)), .pointer (some ⟨eb22, eo22 + k4 * 3, none⟩), .agg #[.int .i64 ((p_a.getD k4 d_Ver).Time), .string (bs ((p_a.getD k4 d_Ver).Val)), .bool ((p_a.getD k4 d_Ver).Gone)], .slice A2 p_b.length c2, .int .i64 ((k4 : Int)), .pointer (some ⟨eb23, eo23 + k4 * 3, none⟩), .agg #[.int .i64 ((p_b.getD k4 d_Ver).Time), .string (bs ((p_b.getD k4 d_Ver).Val)), .bool ((p_b.getD k4 d_Ver).Gone)], .bool ((l_eqVer (p_a.getD k4 d_Ver) (p_b.getD k4 d_Ver))), .bool (!(l_eqVer (p_a.getD k4 d_Ver) (p_b.getD k4 d_Ver)))] Try.follows rfl ⟨?_, ?_, ?_, ?_, ?_, ?_, ?_, ?_, ?_, ?_, trivial⟩ ?_
    ·exact oI rfl fun h => yM rfl (h.old 0 _ rfl rfl) kI
    ·exact oI rfl fun h => yM rfl (h.old 5 _ rfl rfl) kI
    ·intro L35 w36 hi37
     have hE38 := hi37.ex
     have hE38z := Ex.size hE38
     exact os rfl ((yl_ixN un42 ty68 rfl (hi37.dt 0 17 rfl rfl rfl) (hi37.dt 1 18 rfl rfl rfl) eA22 kI))
    ·exact oI rfl fun h => yl_loadN ty68 rfl (h.dt 2 19 rfl rfl rfl) (Cells.ex eC22 h.ex) rfl kI
    ·exact oI rfl fun h => yM rfl (h.old 1 _ rfl rfl) kI
    ·exact oI rfl fun h => yM rfl (h.old 5 _ rfl rfl) kI
    ·intro L57 w58 hi59
     have hE60 := hi59.ex
     have hE60z := Ex.size hE60
     exact os rfl ((yl_ixN un42 ty68 rfl (hi59.dt 4 21 rfl rfl rfl) (hi59.dt 5 22 rfl rfl rfl) eA23 kI))
    ·exact oI rfl fun h => yl_loadN ty68 rfl (h.dt 6 23 rfl rfl rfl) (Cells.ex eC23 h.ex) rfl kI
    ·intro L69 w70 hi71
     exact OpR.op' rfl (yC en45 rfl (oc (hi71.dt 3 20 rfl rfl rfl) (oc (hi71.dt 7 24 rfl rfl rfl) oz)) (Cal.mono (c_l_eqVer (p_a.getD k4 d_Ver) (p_b.getD k4 d_Ver)) fun _ _ h => h))
    ·exact oI rfl fun h => yl_not rfl (h.dt 8 25 rfl rfl rfl) kI
    ·intro fl86 fh87 L83 w84 hp85
     have hE88 := hp85.ex
     have hE88z := Ex.size hE88
     refine dn (CW.sub (sC 0 (hp85.old 0 _ rfl rfl) (sC 1 (hp85.old 1 _ rfl rfl) (sC 5 (hp85.old 5 _ rfl rfl) (sC 26 (hp85.nt 9 26 rfl rfl rfl) (Sub.nil _))))) (bcase (l_eqVer (p_a.getD k4 d_Ver) (p_b.getD k4 d_Ver)) (fun hb93 => ?_) (fun hb93 => ?_)))
     ·refine CW.cond_f rfl (not_t hb93) (CW.skip (bn (tn (CW.region (sM rfl (sd rfl (yl_inc rfl rfl rfl oM (sA rfl (SeqR.done ?_)))))))))
      refine tn ?_
      have hB94 : B_l_eqVerS_0 p_a p_b k4 () = .cont () := by simp only [B_l_eqVerS_0, hb3, hb93, cL]
      exact ⟨p_a.length - (k4 + 1), oM, k4 + 1, rfl, hlt21, oM, rfl, rfl, rfl, (RdS.ex good_Ver hf17 hE88), (RdS.ex good_Ver hf18 hE88), (Ex.trans hf19 hE88), (loopM.cont hlt21 hB94).symm.trans hI12⟩
     ·refine CW.cond_t rfl (not_f hb93) (cR (sA rfl (dn (CW.ret (br (tr ?_))))))
      refine tr ?_
      have hB99 : B_l_eqVerS_0 p_a p_b k4 () = .ret false := by simp only [B_l_eqVerS_0, hb3, hb93, cL]
      have hL98 : loopM (B_l_eqVerS_0 p_a p_b) (p_a.length - 0) 0 () = .ret false := hI12.symm.trans (loopM.ret hlt21 hB99)
      refine br (tr (rr rfl (.cons rfl .nil) ?_))
      have hM100 : (l_eqVerS p_a p_b) = (false) := by simp only [l_eqVerS, hb3, hb93, hL98, cL]
      rw [hM100]
      exact ⟨rfl, (Ex.trans hf19 hE88)⟩
   ·refine CW.seq (cR (sM rfl (sM rfl (sd rfl (yL un42 rfl rfl (sd rfl (yl_lss rfl rfl rfl (dn ?_))))))))
    refine CW.cond_f rfl (lt_f hlt21) (CW.exit (tx (tx ?_)))
    have hL102 : loopM (B_l_eqVerS_0 p_a p_b) (p_a.length - 0) 0 () = .done () := hI12.symm.trans (loopM.stop hlt21)
    refine bx (tn (cR (sA rfl (dn (CW.ret (rr rfl (.cons rfl .nil) ?_))))))
    have hM103 : (l_eqVerS p_a p_b) = (true) := by simp only [l_eqVerS, hb3, hL102, cL]
    rw [hM103]
    exact ⟨rfl, hf19⟩
 ·have hb3p := dec_f hb3
  refine CW.cond_t rfl (not_f hb3) (cR (sA rfl (dn (CW.ret (tr (rr rfl (.cons rfl .nil) ?_))))))
  have hM104 : (l_eqVerS p_a p_b) = (false) := by simp only [l_eqVerS, hb3, cL]
  rw [hM104]
  exact ⟨rfl, (Ex.refl w)⟩
theorem c_l_eqCell {A1 : Option Addr} {c1 : Nat} {A2 : Option Addr} {c2 : Nat} {w : World} (p_a : DCell) (p_b : DCell) (h1 : RdS w (Iv 0 w.heap.size) (RF e_Ver) 3 A1 p_a.Vers.length c1 p_a.Vers) (h2 : RdS w (Iv 0 w.heap.size) (RF e_Ver) 3 A2 p_b.Vers.length c2 p_b.Vers) : Cal Try.prog 20 #[.agg #[.string (bs (p_a.Key)), .slice A1 p_a.Vers.length c1], .agg #[.string (bs (p_b.Key)), .slice A2 p_b.Vers.length c2]] w fun v w' => v = .bool ((l_eqCell p_a p_b)) ∧ Ex w w' := by
 refine Cal.of func20 rfl ntmps20 rfl (cR (sd rfl (yl_box rfl rfl rfl ?_)))
 intro b3 w4 hs5 hz6 hB7 hE8
 refine sd rfl (yl_box rfl rfl rfl ?_)
 intro b9 w10 hs11 hz12 hB13 hE14
 refine sA rfl (dn (CW.seq (cR (sd rfl (yl_fieldAddr fd44_0 rfl rfl ?_)))))
 have q15 := Box.ex hB7 hE14
 refine sd rfl (yl_load1 ty9 rfl rfl ((q15.cell 0).trans rfl) (sd rfl (yl_fieldAddr fd44_0 rfl rfl (sd rfl (yl_load1 ty9 rfl rfl ((hB13.cell 0).trans rfl) (sd rfl (yl_sneq (a := p_a.Key) (b := p_b.Key) rfl rfl rfl (dn (bcase (p_a.Key == p_b.Key) (fun hb16 => ?_) (fun hb16 => ?_))))))))))
 ·refine CW.cond_f rfl (not_t hb16) (CW.skip (tn (CW.seq (cR (sd rfl (yl_fieldAddr fd44_1 rfl rfl (sd rfl (yl_load1 ty42 rfl rfl ((q15.cell 1).trans rfl) (sd rfl (yl_fieldAddr fd44_1 rfl rfl ?_))))))))))
  refine sd rfl (yl_load1 ty42 rfl rfl ((hB13.cell 1).trans rfl) (sd rfl (yC en35 rfl (oc rfl (oc rfl oz)) (Cal.mono (c_l_eqVerS p_a.Vers p_b.Vers (RdS.up (RdS.ex good_Ver (RdS.ex good_Ver h1 hE8) hE14) good_Ver) (RdS.up (RdS.ex good_Ver (RdS.ex good_Ver h2 hE8) hE14) good_Ver)) ?_))))
  rintro v22 w21 ⟨rfl, hE23⟩
  refine sd rfl (yl_not rfl rfl (dn (bcase (l_eqVerS p_a.Vers p_b.Vers) (fun hb24 => ?_) (fun hb24 => ?_))))
  ·refine CW.cond_f rfl (not_t hb24) (CW.skip (tn (cR (sA rfl (dn (CW.ret ?_))))))
   refine rr rfl (.cons rfl .nil) ?_
   have hM25 : (l_eqCell p_a p_b) = (true) := by simp only [l_eqCell, hb16, hb24, cL]
   rw [hM25]
   exact ⟨rfl, (Ex.trans (Ex.trans (Ex.trans (Ex.refl w) hE8) hE14) hE23)⟩
  ·refine CW.cond_t rfl (not_f hb24) (cR (sA rfl (dn (CW.ret (tr (rr rfl (.cons rfl .nil) ?_))))))
   have hM29 : (l_eqCell p_a p_b) = (false) := by simp only [l_eqCell, hb16, hb24, cL]
   rw [hM29]
   exact ⟨rfl, (Ex.trans (Ex.trans (Ex.trans (Ex.refl w) hE8) hE14) hE23)⟩
 ·refine CW.cond_t rfl (not_f hb16) (cR (sA rfl (dn (CW.ret (tr (rr rfl (.cons rfl .nil) ?_))))))
  have hM33 : (l_eqCell p_a p_b) = (false) := by simp only [l_eqCell, hb16, cL]
  rw [hM33]
  exact ⟨rfl, (Ex.trans (Ex.trans (Ex.refl w) hE8) hE14)⟩
end Go.Proofs.Ytbglfhmnjbgciaa
