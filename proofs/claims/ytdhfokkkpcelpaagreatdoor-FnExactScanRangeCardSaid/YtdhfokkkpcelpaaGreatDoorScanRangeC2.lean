/- Scan Range: what each call returns, part 2. -/
import Derived.Test.YtdhfokkkpcelpaaGreatDoorScanRangeC1
set_option maxRecDepth 100000
set_option maxHeartbeats 2000000
open Go.Proofs.Tryz Go.Proofs.YtdhfokkkpcelpaaGreatDoor.Tryz
set_option linter.unusedVariables false
set_option linter.unusedSimpArgs false
namespace Go.Proofs.YtdhfokkkpcelpaaGreatDoor
open Go.RowKit Go.X
theorem c_l_toWriteS {A1 : Option Addr} {c1 : Nat} {w : World} (p_a : List DWrite) (h1 : RdS w (Iv 0 w.heap.size) (RF e_Write) 3 A1 p_a.length c1 p_a) (o2 : (okL ok_Write) p_a) : Cal Tryz.prog 8 #[.slice A1 p_a.length c1] w fun v w' => ∃ A_1 c_1 lo_1 hi_1, v = .slice A_1 p_a.length c_1 ∧ OwnL w' lo_1 hi_1 57 3 (RF e_Write) A_1 p_a.length c_1 p_a ∧ (w.heap.size ≤ lo_1 ∧ lo_1 ≤ hi_1 ∧ hi_1 ≤ w'.heap.size) ∧ Ex w w' := by
 have hol3 := o2.1
 refine Cal.of func8 rfl ntmps8 rfl (CW.seq (CW.region (sd rfl (yl_assign rfl rfl (dn (CW.seq (CW.region (sd rfl (yl_move rfl rfl ?_)))))))))
 refine sd rfl (yl_len un26 rfl rfl (sd rfl (yl_make (zs := [.string (bs (([] : Str))), .string (bs (([] : Str))), .bool (false)]) (n := p_a.length) un36 ty57 rfl rfl (Nat.le_of_ble_eq_true rfl) rfl rfl rfl (by first | omega | assumption | (simp only [wI] at *; omega)) (by first | omega | assumption | (simp only [wI] at *; omega)) ?_)))
 intro b4 w5 hs6 hz7 hB8 hE9
 have hO10 : OwnL w5 b4 (b4 + 1) 57 3 (RF e_Write) (some ⟨b4, 0, none⟩) p_a.length p_a.length (List.replicate p_a.length d_Write) := by have := OwnL.of_boxF (lo := b4) (hi := b4 + 1) (xs := (List.replicate p_a.length d_Write)) hB8 (Nat.le_refl _) (Nat.lt_succ_self _) (EncL.zerosF (enc := e_Write) (d := d_Write) rfl p_a.length) (by rw [List.length_replicate]; omega); rwa [List.length_replicate] at this
 refine sd rfl (yl_assign rfl rfl (dn (CW.seq (CW.seq (CW.region (sd rfl (yl_assign rfl rfl (dn ?_))))))))
 refine CW.block (CW.loop (fun m23 L24 w25 => ∃ (k11 : Nat) (x22 : List DWrite), m23 = p_a.length - k11 ∧ k11 ≤ p_a.length ∧ w5.heap.size ≤ w25.heap.size ∧ Sub [(0, .slice A1 p_a.length c1), (3, .slice (some ⟨b4, 0, none⟩) p_a.length p_a.length), (4, .int .i64 ((k11 : Int)))] L24 ∧ OwnL w25 b4 (b4 + 1) 57 3 (RF e_Write) (some ⟨b4, 0, none⟩) p_a.length p_a.length x22 ∧ Ex w w25 ∧ loopM (B_l_toWriteS_0 p_a) (p_a.length - k11) k11 (x22) = loopM (B_l_toWriteS_0 p_a) (p_a.length - 0) 0 ((List.replicate p_a.length d_Write))) (p_a.length - 0) ?_ ?_)
 ·exact ⟨0, (List.replicate p_a.length d_Write), rfl, (by omega), Nat.le_refl _, (sR rfl), hO10, (Ex.trans (Ex.refl w) hE9), rfl⟩
 ·rintro m27 L28 w29 ⟨k11, x22, rfl, hk30, hsz32, hl33, hf34, hf35, hI31⟩
  refine CW.sub hl33 ?_
  have hf35z := Ex.size hf35
  have q37 := RdS.ex good_Write h1 hf35
  have hbg36 := RdS.big q37
  rcases Nat.lt_or_ge k11 p_a.length with hlt38 | hlt38
  ·refine CW.seq (CW.seq (CW.region (sd rfl (yl_move rfl rfl (sd rfl (yl_move rfl rfl (sd rfl (yl_len un26 rfl rfl (sd rfl (yl_lss rfl rfl rfl (dn ?_)))))))))))
   refine CW.cond_t rfl (lt_t hlt38) (CW.skip (tn (CW.seq (CW.block (CW.region (sd rfl (yl_move rfl rfl (sd rfl (yl_move rfl rfl (sd rfl (yl_move rfl rfl ?_)))))))))))
   refine sd rfl (yl_move rfl rfl ?_)
   obtain ⟨_, _, _, eA39, _, ebl39, _, eR39, eC39⟩ := RdS.aD q37 d_Write (i := k11)
   obtain rfl := eR39
   refine sd rfl (yl_ixN un26 ty49 rfl rfl rfl eA39 (sd rfl (yl_loadN ty49 rfl rfl eC39 rfl (sd rfl (yl_call en27 rfl (oc rfl oz) (Cal.mono (c_l_toWrite (p_a.getD k11 d_Write) (okL.getD o2 ok_d_Write _)) ?_))))))
   rintro v41 w40 ⟨rfl, hE42⟩
   have hE42z := Ex.size hE42
   have q44 := OwnL.ex good_Write hf34 hE42
   obtain ⟨eb45, eo45, _, eA45, _, ebl45, _, eR45, _⟩ := RdS.aD (OwnL.rd good_Write q44) d_Write (i := k11)
   obtain rfl := eR45
   refine sd rfl (yl_ixN un36 ty57 rfl rfl rfl eA45 ?_)
   have hrg46 := OwnL.rng q44 (i := k11) (by first | omega | assumption | (simp only [wI] at *; omega)) eb45 (by rw [eA45]; rfl)
   refine SeqR.u rfl rfl (yl_storeF (off := eo45) (i := k11) (d := 0) (dx := d_Write) (x' := (p_a.getD k11 d_Write)) (vs := [.string (bs ((p_a.getD k11 d_Write).Key)), .string (bs ((p_a.getD k11 d_Write).Val)), .bool ((p_a.getD k11 d_Write).Gone)]) ty57 rfl q44 eA45 rfl rfl rfl rfl rfl (by first | omega | assumption | (simp only [wI] at *; omega)) (Nat.le_of_ble_eq_true rfl) rfl rfl ?_)
   intro w47 hB48 hO49
   have hO49z := hO49.size
   refine SeqR.done (bn (tn (CW.region (sd rfl (yl_move rfl rfl (sd rfl (yl_inc rfl rfl rfl (by omega) (sd rfl (yl_assign rfl rfl (dn ?_))))))))))
   have hB50 : B_l_toWriteS_0 p_a k11 (x22) = .cont ((x22.set k11 (p_a.getD k11 d_Write))) := by simp only [B_l_toWriteS_0, cL]
   exact ⟨p_a.length - (k11 + 1), by omega, k11 + 1, (x22.set k11 (p_a.getD k11 d_Write)), rfl, hlt38, (by omega), (sR rfl), hB48, (Below.only (Ex.trans hf35 hE42) hO49 (by omega)), (loopM.cont hlt38 hB50).symm.trans hI31⟩
  ·refine CW.seq (CW.seq (CW.region (sd rfl (yl_move rfl rfl (sd rfl (yl_move rfl rfl (sd rfl (yl_len un26 rfl rfl (sd rfl (yl_lss rfl rfl rfl (dn ?_)))))))))))
   refine CW.cond_f rfl (lt_f hlt38) (CW.exit (tx (tx ?_)))
   have hL53 : loopM (B_l_toWriteS_0 p_a) (p_a.length - 0) 0 ((List.replicate p_a.length d_Write)) = .done (x22) := hI31.symm.trans (loopM.stop hlt38)
   refine bx (tn (CW.seq (CW.region (sd rfl (yl_move rfl rfl (sd rfl (yl_assign rfl rfl (dn (CW.ret ?_)))))))))
   refine rr rfl (.cons rfl .nil) ?_
   have hM54 : p_a = (x22) := (to_WriteS _).symm.trans <| by simp only [l_toWriteS, hL53, cL]
   subst hM54
   exact ⟨(some ⟨b4, 0, none⟩), p_a.length, b4, (b4 + 1), rfl, hf34, (by omega), hf35⟩
theorem c_i_within {w : World} (p_n : Int) (p_low : Int) (p_high : Int) : Cal Tryz.prog 30 #[.int .i64 (p_n), .int .i64 (p_low), .int .i64 (p_high)] w fun v w' => v = .bool ((i_within p_n p_low p_high)) ∧ Ex w w' := by
 refine Cal.of func30 rfl ntmps30 rfl (CW.seq (CW.region (sd rfl (yl_assign rfl rfl (dn (CW.seq (CW.region (sd rfl (yl_move rfl rfl ?_)))))))))
 refine sd rfl (yl_move rfl rfl (sd rfl (yl_geq rfl rfl rfl (sd rfl (yl_move rfl rfl (bcD (q := p_low ≤ p_n) (fun hb1 hb1p => ?_) (fun hb1 hb1p => ?_)))))))
 ·refine sy rfl rfl hb1 (yl_move rfl rfl (sy rfl rfl hb1 (yl_move rfl rfl (sy rfl rfl hb1 (yl_leq rfl rfl rfl (sd rfl (yl_pick_t rfl rfl hb1 rfl (sd rfl (yl_assign rfl rfl (dn (CW.ret (rr rfl (.cons rfl .nil) ?_))))))))))))
  rw [show (i_within p_n p_low p_high) = (decide (p_n ≤ p_high)) by simp only [i_within, hb1, cL]]
  exact ⟨rfl, (Ex.refl w)⟩
 ·refine sz rfl rfl hb1 (sz rfl rfl hb1 (sz rfl rfl hb1 (sd rfl (yl_pick_f rfl rfl hb1 rfl (sd rfl (yl_assign rfl rfl (dn (CW.ret (rr rfl (.cons rfl .nil) ?_)))))))))
  rw [show (i_within p_n p_low p_high) = (false) by simp only [i_within, hb1, cL]]
  exact ⟨rfl, (Ex.refl w)⟩
theorem c_i_areLetters {w : World} (p_s : Str) (p_most : Int) (o1 : okS p_s) : Cal Tryz.prog 55 #[.string (bs (p_s)), .int .i64 (p_most)] w fun v w' => v = .bool ((i_areLetters p_s p_most)) ∧ Ex w w' := by
 have hol2 : p_s.length ≤ 1073741824 := o1
 refine Cal.of func55 rfl ntmps55 rfl (CW.seq (CW.region (sd rfl (yl_assign rfl rfl (dn (CW.seq (CW.seq (CW.region ?_))))))))
 refine sd rfl (yl_move rfl rfl (sd rfl (yl_slen un9 (a := p_s) rfl rfl (sd rfl (yl_move rfl rfl (dn (CW.block (CW.loop (fun m4 L5 w6 => ∃ (k3 : Nat), m4 = p_s.length - k3 ∧ k3 ≤ p_s.length ∧ w.heap.size ≤ w6.heap.size ∧ Sub [(0, .string (bs (p_s))), (1, .int .i64 (p_most)), (7, .int .i64 ((p_s.length : Int))), (8, .int .i64 ((k3 : Int)))] L5 ∧ Ex w w6 ∧ loopM (B_i_areLetters_0 p_s p_most) (p_s.length - k3) k3 () = loopM (B_i_areLetters_0 p_s p_most) (p_s.length - 0) 0 ()) (p_s.length - 0) ?_ ?_))))))))
 ·exact ⟨0, rfl, (by omega), Nat.le_refl _, (sR rfl), (Ex.refl w), rfl⟩
 ·rintro m7 L8 w9 ⟨k3, rfl, hk10, hsz12, hl13, hf14, hI11⟩
  refine CW.sub hl13 ?_
  have hf14z := Ex.size hf14
  have hbg15 : p_s.length ≤ 1073741824 := o1
  rcases Nat.lt_or_ge k3 p_s.length with hlt16 | hlt16
  ·refine CW.seq (CW.region (sd rfl (yl_lss rfl rfl rfl (dn (CW.seq (CW.cond_t rfl (lt_t hlt16) (CW.skip (tn ?_))))))))
   refine CW.seq (CW.block (CW.seq (CW.region (sd rfl (yl_move rfl rfl (sd rfl (yl_assign rfl rfl (dn (CW.seq ?_)))))))))
   refine CW.region (sd rfl (yl_move rfl rfl (sd rfl (yl_move rfl rfl (sd rfl (yl_sindexN un9 (a := p_s) rfl rfl rfl (by first | omega | assumption | (simp only [wI] at *; omega)) (sd rfl (yl_lss rfl rfl rfl (sd rfl (yl_move rfl rfl (bcD (q := ((p_s.getD k3 0).toNat : Int) < 97) (fun hb17 hb17p => ?_) (fun hb17 hb17p => ?_))))))))))))
   ·refine sz rfl rfl hb17 (sz rfl rfl hb17 (sz rfl rfl hb17 (sz rfl rfl hb17 (sd rfl (yl_pick_t rfl rfl hb17 rfl (dn (CW.cond_t rfl rfl (CW.seq ?_))))))))
    refine CW.region (sd rfl (yl_assign rfl rfl (dn (CW.ret (br (tr (tr ?_)))))))
    have hB19 : B_i_areLetters_0 p_s p_most k3 () = .ret false := by simp only [B_i_areLetters_0, hb17, cL]
    have hL18 : loopM (B_i_areLetters_0 p_s p_most) (p_s.length - 0) 0 () = .ret false := hI11.symm.trans (loopM.ret hlt16 hB19)
    refine br (tr (rr rfl (.cons rfl .nil) ?_))
    rw [show (i_areLetters p_s p_most) = (false) by simp only [i_areLetters, hb17, hL18, cL]]
    exact ⟨rfl, hf14⟩
   ·refine sy rfl rfl hb17 (yl_move rfl rfl (sy rfl rfl hb17 (yl_move rfl rfl (sy rfl rfl hb17 (yl_sindexN un9 (a := p_s) rfl rfl rfl (by first | omega | assumption | (simp only [wI] at *; omega)) (sy rfl rfl hb17 (yl_gtr rfl rfl rfl (sd rfl (yl_pick_f rfl rfl hb17 rfl (dn (bcD (q := 122 < ((p_s.getD k3 0).toNat : Int)) (fun hb21 hb21p => ?_) (fun hb21 hb21p => ?_))))))))))))
    ·refine CW.cond_t rfl hb21 (CW.seq (CW.region (sd rfl (yl_assign rfl rfl (dn (CW.ret (br (tr ?_))))))))
     refine tr ?_
     have hB23 : B_i_areLetters_0 p_s p_most k3 () = .ret false := by simp only [B_i_areLetters_0, hb17, hb21, cL]
     have hL22 : loopM (B_i_areLetters_0 p_s p_most) (p_s.length - 0) 0 () = .ret false := hI11.symm.trans (loopM.ret hlt16 hB23)
     refine br (tr (rr rfl (.cons rfl .nil) ?_))
     rw [show (i_areLetters p_s p_most) = (false) by simp only [i_areLetters, hb17, hb21, hL22, cL]]
     exact ⟨rfl, hf14⟩
    ·refine CW.cond_f rfl hb21 (CW.skip (bn (tn (CW.region (sd rfl (yl_inc rfl rfl rfl (by omega) (sd rfl (yl_move rfl rfl (dn ?_)))))))))
     have hB25 : B_i_areLetters_0 p_s p_most k3 () = .cont () := by simp only [B_i_areLetters_0, hb17, hb21, cL]
     exact ⟨p_s.length - (k3 + 1), by omega, k3 + 1, rfl, hlt16, (by omega), (sR rfl), hf14, (loopM.cont hlt16 hB25).symm.trans hI11⟩
  ·refine CW.seq (CW.region (sd rfl (yl_lss rfl rfl rfl (dn (CW.seq (CW.cond_f rfl (lt_f hlt16) (CW.exit (tx ?_))))))))
   refine tx ?_
   have hL26 : loopM (B_i_areLetters_0 p_s p_most) (p_s.length - 0) 0 () = .done () := hI11.symm.trans (loopM.stop hlt16)
   refine bx (tn (CW.seq (CW.region (sd rfl (yl_move rfl rfl (sd rfl (yl_slen un9 (a := p_s) rfl rfl (sd rfl (yl_move rfl rfl (sd rfl (yl_call en30 rfl (oc rfl (oc rfl (oc rfl oz))) (Cal.mono (c_i_within (p_s.length : Int) 1 p_most) ?_))))))))))))
   rintro v28 w27 ⟨rfl, hE29⟩
   have hE29z := Ex.size hE29
   refine sd rfl (yl_assign rfl rfl (dn (CW.ret (rr rfl (.cons rfl .nil) ?_))))
   rw [show (i_areLetters p_s p_most) = ((i_within (p_s.length : Int) 1 p_most)) by simp only [i_areLetters, hL26, cL]]
   exact ⟨rfl, (Ex.trans hf14 hE29)⟩
theorem c_g_slices_Index_string {A1 : Option Addr} {c1 : Nat} {w : World} (p_s : List Str) (p_v : Str) (h1 : RdS w (Iv 0 w.heap.size) (RF e_Str) 1 A1 p_s.length c1 p_s) (o2 : (okL okS) p_s) (o3 : okS p_v) : Cal Tryz.prog 70 #[.slice A1 p_s.length c1, .string (bs (p_v))] w fun v w' => v = .int .i64 ((g_slices_Index_string p_s p_v)) ∧ Ex w w' := by
 have hol4 := o2.1
 have hol5 : p_v.length ≤ 1073741824 := o3
 refine Cal.of func70 rfl ntmps70 rfl (CW.seq (CW.region (sd rfl (yl_assign rfl rfl (dn (CW.seq (CW.seq (CW.region ?_))))))))
 refine sd rfl (yl_move rfl rfl (sd rfl (yl_len un22 rfl rfl (sd rfl (yl_move rfl rfl (dn (CW.block (CW.loop (fun m7 L8 w9 => ∃ (k6 : Nat), m7 = p_s.length - k6 ∧ k6 ≤ p_s.length ∧ w.heap.size ≤ w9.heap.size ∧ Sub [(0, .slice A1 p_s.length c1), (1, .string (bs (p_v))), (7, .int .i64 ((p_s.length : Int))), (8, .int .i64 ((k6 : Int)))] L8 ∧ Ex w w9 ∧ loopM (B_g_slices_Index_string_0 p_s p_v) (p_s.length - k6) k6 () = loopM (B_g_slices_Index_string_0 p_s p_v) (p_s.length - 0) 0 ()) (p_s.length - 0) ?_ ?_))))))))
 ·exact ⟨0, rfl, (by omega), Nat.le_refl _, (sR rfl), (Ex.refl w), rfl⟩
 ·rintro m10 L11 w12 ⟨k6, rfl, hk13, hsz15, hl16, hf17, hI14⟩
  refine CW.sub hl16 ?_
  have hf17z := Ex.size hf17
  have q19 := RdS.ex good_Str h1 hf17
  have hbg18 := RdS.big q19
  rcases Nat.lt_or_ge k6 p_s.length with hlt20 | hlt20
  ·refine CW.seq (CW.region (sd rfl (yl_lss rfl rfl rfl (dn (CW.seq (CW.cond_t rfl (lt_t hlt20) (CW.skip (tn ?_))))))))
   refine CW.seq (CW.block (CW.seq (CW.region (sd rfl (yl_move rfl rfl (sd rfl (yl_assign rfl rfl (dn (CW.seq ?_)))))))))
   refine CW.region (sd rfl (yl_move rfl rfl (sd rfl (yl_move rfl rfl (sd rfl (yl_move rfl rfl ?_))))))
   obtain ⟨_, _, _, eA21, _, ebl21, _, eR21, eC21⟩ := RdS.aD q19 d_Str (i := k6)
   obtain rfl := eR21
   refine sd rfl (yl_ixN un22 ty9 rfl rfl rfl eA21 (sd rfl (yl_load1 ty9 rfl rfl (eC21 0 _ rfl) (sd rfl (yl_seql (a := p_v) (b := (p_s.getD k6 d_Str)) rfl rfl rfl (dn (bcase (p_v == (p_s.getD k6 d_Str)) (fun hb22 => ?_) (fun hb22 => ?_))))))))
   ·refine CW.cond_t rfl hb22 (CW.seq (CW.region (sd rfl (yl_move rfl rfl (sd rfl (yl_assign rfl rfl (dn (CW.ret (br ?_)))))))))
    refine tr (tr ?_)
    have hB24 : B_g_slices_Index_string_0 p_s p_v k6 () = .ret (k6 : Int) := by simp only [B_g_slices_Index_string_0, hb22, cL]
    have hL23 : loopM (B_g_slices_Index_string_0 p_s p_v) (p_s.length - 0) 0 () = .ret (k6 : Int) := hI14.symm.trans (loopM.ret hlt20 hB24)
    refine br (tr (rr rfl (.cons rfl .nil) ?_))
    rw [show (g_slices_Index_string p_s p_v) = ((k6 : Int)) by simp only [g_slices_Index_string, hb22, hL23, cL]]
    exact ⟨rfl, hf17⟩
   ·refine CW.cond_f rfl hb22 (CW.skip (bn (tn (CW.region (sd rfl (yl_inc rfl rfl rfl (by omega) (sd rfl (yl_move rfl rfl (dn ?_)))))))))
    have hB26 : B_g_slices_Index_string_0 p_s p_v k6 () = .cont () := by simp only [B_g_slices_Index_string_0, hb22, cL]
    exact ⟨p_s.length - (k6 + 1), by omega, k6 + 1, rfl, hlt20, (by omega), (sR rfl), hf17, (loopM.cont hlt20 hB26).symm.trans hI14⟩
  ·refine CW.seq (CW.region (sd rfl (yl_lss rfl rfl rfl (dn (CW.seq (CW.cond_f rfl (lt_f hlt20) (CW.exit (tx ?_))))))))
   refine tx ?_
   have hL27 : loopM (B_g_slices_Index_string_0 p_s p_v) (p_s.length - 0) 0 () = .done () := hI14.symm.trans (loopM.stop hlt20)
   refine bx (tn (CW.seq (CW.region (sd rfl (yl_assign rfl rfl (dn (CW.ret (rr rfl (.cons rfl .nil) ?_))))))))
   rw [show (g_slices_Index_string p_s p_v) = (-1) by simp only [g_slices_Index_string, hL27, cL]]
   exact ⟨rfl, hf17⟩
theorem c_g_slices_Contains_string {A1 : Option Addr} {c1 : Nat} {w : World} (p_s : List Str) (p_v : Str) (h1 : RdS w (Iv 0 w.heap.size) (RF e_Str) 1 A1 p_s.length c1 p_s) (o2 : (okL okS) p_s) (o3 : okS p_v) : Cal Tryz.prog 56 #[.slice A1 p_s.length c1, .string (bs (p_v))] w fun v w' => v = .bool ((g_slices_Contains_string p_s p_v)) ∧ Ex w w' := by
 refine Cal.of func56 rfl ntmps56 rfl (CW.seq (CW.region (sd rfl (yl_assign rfl rfl (dn (CW.seq (CW.region (sd rfl (yl_move rfl rfl ?_)))))))))
 refine sd rfl (yl_move rfl rfl (sd rfl (yl_call en70 rfl (oc rfl (oc rfl oz)) (Cal.mono (c_g_slices_Index_string p_s p_v (RdS.up h1 good_Str) o2 o3) ?_))))
 rintro v7 w6 ⟨rfl, hE8⟩
 refine sd rfl (yl_geq rfl rfl rfl (sd rfl (yl_assign rfl rfl (dn (CW.ret (rr rfl (.cons rfl .nil) ?_))))))
 rw [show (g_slices_Contains_string p_s p_v) = (decide (0 ≤ (g_slices_Index_string p_s p_v))) by simp only [g_slices_Contains_string, cL]]
 exact ⟨rfl, (Ex.trans (Ex.refl w) hE8)⟩
theorem c_i_isStage {w : World} (p_stage : Int) : Cal Tryz.prog 57 #[.int .i64 (p_stage)] w fun v w' => v = .bool ((i_isStage p_stage)) ∧ Ex w w' := by
 refine Cal.of func57 rfl ntmps57 rfl (CW.seq (CW.region (sd rfl (yl_assign rfl rfl (dn (CW.seq (CW.region (sd rfl (yl_move rfl rfl ?_)))))))))
 refine sd rfl (yl_call en30 rfl (oc rfl (oc rfl (oc rfl oz))) (Cal.mono (c_i_within p_stage 0 3) ?_))
 rintro v2 w1 ⟨rfl, hE3⟩
 refine sd rfl (yl_assign rfl rfl (dn (CW.ret (rr rfl (.cons rfl .nil) ?_))))
 rw [show (i_isStage p_stage) = ((i_within p_stage 0 3)) by simp only [i_isStage, cL]]
 exact ⟨rfl, (Ex.trans (Ex.refl w) hE3)⟩
theorem c_i_GoodTable {A1 : Option Addr} {c1 : Nat} {A2 : Option Addr} {c2 : Nat} {w : World} (p_0 : DTable) (h1 : RdS w (Iv 0 w.heap.size) (RF e_Str) 1 A1 p_0.Cols.length c1 p_0.Cols) (h2 : RdS w (Iv 0 w.heap.size) (RF e_Idx) 3 A2 p_0.Idxs.length c2 p_0.Idxs) (o3 : ok_Table p_0) : Cal Tryz.prog 28 #[.agg #[.string (bs (p_0.Name)), .slice A1 p_0.Cols.length c1, .slice A2 p_0.Idxs.length c2]] w fun v w' => v = .bool ((i_GoodTable p_0)) ∧ Ex w w' := by
 have hol4 : p_0.Name.length ≤ 1073741824 := o3.1
 have hol5 := o3.2.1.1
 have hol6 := o3.2.2.1
 refine Cal.of func28 rfl ntmps28 rfl (CW.seq (CW.region (sd rfl (yl_box rfl rfl rfl ?_))))
 intro b7 w8 hs9 hz10 hB11 hE12
 refine sd rfl (yl_assign rfl rfl (dn (CW.seq (CW.seq (CW.region (sd rfl (yl_fieldAddr fd34_0 rfl rfl (sd rfl (yl_load1 ty9 rfl rfl ((hB11.cell 0).trans rfl) (sd rfl (yl_call en55 rfl (oc rfl (oc rfl oz)) (Cal.mono (c_i_areLetters p_0.Name 1 o3.1) ?_))))))))))))
 rintro v14 w13 ⟨rfl, hE15⟩
 have hE15z := Ex.size hE15
 refine sd rfl (yl_not rfl rfl (sd rfl (yl_move rfl rfl (bcase (i_areLetters p_0.Name 1) (fun hb16 => ?_) (fun hb16 => ?_)))))
 ·refine sy rfl rfl (not_t hb16) (yl_fieldAddr fd34_1 rfl rfl ?_)
  have q17 := Box.ex hB11 hE15
  refine sy rfl rfl (not_t hb16) (yl_load1 ty22 rfl rfl ((q17.cell 1).trans rfl) (sy rfl rfl (not_t hb16) (yl_len un22 rfl rfl (sy rfl rfl (not_t hb16) (yl_call en30 rfl (oc rfl (oc rfl (oc rfl oz))) (Cal.mono (c_i_within (p_0.Cols.length : Int) 2 4) ?_))))))
  rintro v19 w18 ⟨rfl, hE20⟩
  have hE20z := Ex.size hE20
  refine sy rfl rfl (not_t hb16) (yl_not rfl rfl (sd rfl (yl_pick_f rfl rfl (not_t hb16) rfl (sd rfl (yl_move rfl rfl (bcase (i_within (p_0.Cols.length : Int) 2 4) (fun hb21 => ?_) (fun hb21 => ?_)))))))
  ·have hb21p := f_within hb21
   refine sy rfl rfl (not_t hb21) (yl_fieldAddr fd34_2 rfl rfl ?_)
   have q22 := Box.ex q17 hE20
   refine sy rfl rfl (not_t hb21) (yl_load1 ty32 rfl rfl ((q22.cell 2).trans rfl) (sy rfl rfl (not_t hb21) (yl_len un32 rfl rfl (sy rfl rfl (not_t hb21) (yl_gtr rfl rfl rfl (sd rfl (yl_pick_f rfl rfl (not_t hb21) rfl (dn (bcD (q := 3 < (p_0.Idxs.length : Int)) (fun hb23 hb23p => ?_) (fun hb23 hb23p => ?_))))))))))
   ·refine CW.cond_t rfl hb23 (CW.seq (CW.region (sd rfl (yl_assign rfl rfl (dn (CW.ret (tr (rr rfl (.cons rfl .nil) ?_))))))))
    rw [show (i_GoodTable p_0) = (false) by simp only [i_GoodTable, hb16, hb21, hb23, cL]]
    exact ⟨rfl, (Ex.trans (Ex.trans (Ex.trans (Ex.refl w) hE12) hE15) hE20)⟩
   ·refine CW.cond_f rfl hb23 (CW.skip (tn (CW.seq (CW.seq (CW.region (sd rfl (yl_fieldAddr fd34_1 rfl rfl (sd rfl (yl_load1 ty22 rfl rfl ((q22.cell 1).trans rfl) (sd rfl (yl_len un22 rfl rfl ?_)))))))))))
    refine sd rfl (yl_move rfl rfl (dn (CW.block (CW.loop (fun m29 L30 w31 => ∃ (k28 : Nat), m29 = p_0.Cols.length - k28 ∧ k28 ≤ p_0.Cols.length ∧ w18.heap.size ≤ w31.heap.size ∧ Sub [(1, .pointer (some ⟨b7, 0, none⟩)), (25, .slice A1 p_0.Cols.length c1), (26, .int .i64 ((p_0.Cols.length : Int))), (27, .int .i64 ((k28 : Int)))] L30 ∧ Box w31 b7 34 [.string (bs (p_0.Name)), .slice A1 p_0.Cols.length c1, .slice A2 p_0.Idxs.length c2] ∧ Ex w w31 ∧ loopM (B_i_GoodTable_0 p_0) (p_0.Cols.length - k28) k28 () = loopM (B_i_GoodTable_0 p_0) (p_0.Cols.length - 0) 0 ()) (p_0.Cols.length - 0) ?_ ?_))))
    ·exact ⟨0, rfl, (by omega), Nat.le_refl _, (sR rfl), q22, (Ex.trans (Ex.trans (Ex.trans (Ex.refl w) hE12) hE15) hE20), rfl⟩
    ·rintro m35 L36 w37 ⟨k28, rfl, hk38, hsz40, hl41, hf42, hf43, hI39⟩
     refine CW.sub hl41 ?_
     have hf42z := Box.lt hf42
     have hf43z := Ex.size hf43
     have q45 := RdS.ex good_Str h1 hf43
     have hbg44 := RdS.big q45
     rcases Nat.lt_or_ge k28 p_0.Cols.length with hlt46 | hlt46
     ·refine CW.seq (CW.region (sd rfl (yl_lss rfl rfl rfl (dn (CW.seq (CW.cond_t rfl (lt_t hlt46) (CW.skip (tn ?_))))))))
      refine CW.seq (CW.block (CW.seq (CW.region (sd rfl (yl_move rfl rfl ?_)))))
      obtain ⟨_, _, _, eA47, _, ebl47, _, eR47, eC47⟩ := RdS.aD q45 d_Str (i := k28)
      obtain rfl := eR47
      refine sd rfl (yl_ixN un22 ty9 rfl rfl rfl eA47 (sd rfl (yl_load1 ty9 rfl rfl (eC47 0 _ rfl) (sd rfl (yl_assign rfl rfl (sd rfl (yl_assign rfl rfl (dn (CW.seq (CW.region (sd rfl (yl_move rfl rfl ?_))))))))))))
      refine sd rfl (yl_call en55 rfl (oc rfl (oc rfl oz)) (Cal.mono (c_i_areLetters (p_0.Cols.getD k28 d_Str) 3 (okL.getD o3.2.1 ok_d_Str _)) ?_))
      rintro v49 w48 ⟨rfl, hE50⟩
      have hE50z := Ex.size hE50
      refine sd rfl (yl_not rfl rfl (sd rfl (yl_move rfl rfl (bcase (i_areLetters (p_0.Cols.getD k28 d_Str) 3) (fun hb51 => ?_) (fun hb51 => ?_)))))
      ·refine sy rfl rfl (not_t hb51) (yl_fieldAddr fd34_1 rfl rfl ?_)
       have q52 := Box.ex hf42 hE50
       refine sy rfl rfl (not_t hb51) (yl_load1 ty22 rfl rfl ((q52.cell 1).trans rfl) (sy rfl rfl (not_t hb51) (yl_move rfl rfl ?_)))
       have q53 := Ex.trans hf43 hE50
       have q54 := RdS.ex good_Str h1 q53
       obtain ⟨A55, c56, he59, h58⟩ := RdS.sl (RdS.drop (RdS.take q54 (k := k28) (by omega)) (k := 0) (by omega))
       have hrc60 := (q54).2.1
       refine sy rfl rfl (not_t hb51) (yl_sliceR (kl := .i64) (l := 0) (h := k28) un22 ty9 rfl rfl (.inl ⟨rfl, rfl⟩) (.inr ⟨_, rfl, rfl⟩) (by omega) (by omega) he59 (sy rfl rfl (not_t hb51) (yl_move rfl rfl (sy rfl rfl (not_t hb51) (yl_call en56 rfl (oc rfl (oc rfl oz)) (Cal.mono (c_g_slices_Contains_string (p_0.Cols.take k28) (p_0.Cols.getD k28 d_Str) (RdS.up h58 good_Str) (okL.take o3.2.1 _) (okL.getD o3.2.1 ok_d_Str _)) ?_))))))
       rintro v62 w61 ⟨rfl, hE63⟩
       have hE63z := Ex.size hE63
       refine sd rfl (yl_pick_f rfl rfl (not_t hb51) rfl (dn (bcase (g_slices_Contains_string (p_0.Cols.take k28) (p_0.Cols.getD k28 d_Str)) (fun hb64 => ?_) (fun hb64 => ?_))))
       ·refine CW.cond_t rfl hb64 (CW.seq (CW.region (sd rfl (yl_assign rfl rfl (dn (CW.ret (br (tr ?_))))))))
        refine tr ?_
        have hB66 : B_i_GoodTable_0 p_0 k28 () = .ret false := by simp only [B_i_GoodTable_0, hb16, hb21, hb23, hb51, hb64, cL]
        have hL65 : loopM (B_i_GoodTable_0 p_0) (p_0.Cols.length - 0) 0 () = .ret false := hI39.symm.trans (loopM.ret hlt46 hB66)
        refine br (tr (rr rfl (.cons rfl .nil) ?_))
        rw [show (i_GoodTable p_0) = (false) by simp only [i_GoodTable, hb16, hb21, hb23, hb51, hb64, hL65, cL]]
        exact ⟨rfl, (Ex.trans q53 hE63)⟩
       ·refine CW.cond_f rfl hb64 (CW.skip (bn (tn (CW.region (sd rfl (yl_inc rfl rfl rfl (by omega) (sd rfl (yl_move rfl rfl (dn ?_)))))))))
        have hB69 : B_i_GoodTable_0 p_0 k28 () = .cont () := by simp only [B_i_GoodTable_0, hb16, hb21, hb23, hb51, hb64, cL]
        exact ⟨p_0.Cols.length - (k28 + 1), by omega, k28 + 1, rfl, hlt46, (by omega), (sR rfl), (Box.ex q52 hE63), (Ex.trans q53 hE63), (loopM.cont hlt46 hB69).symm.trans hI39⟩
      ·refine sz rfl rfl (not_f hb51) (sz rfl rfl (not_f hb51) (sz rfl rfl (not_f hb51) (sz rfl rfl (not_f hb51) (sz rfl rfl (not_f hb51) (sz rfl rfl (not_f hb51) (sd rfl (yl_pick_t rfl rfl (not_f hb51) rfl (dn ?_))))))))
       refine CW.cond_t rfl rfl (CW.seq (CW.region (sd rfl (yl_assign rfl rfl (dn (CW.ret (br (tr ?_))))))))
       refine tr ?_
       have hB73 : B_i_GoodTable_0 p_0 k28 () = .ret false := by simp only [B_i_GoodTable_0, hb16, hb21, hb23, hb51, cL]
       have hL72 : loopM (B_i_GoodTable_0 p_0) (p_0.Cols.length - 0) 0 () = .ret false := hI39.symm.trans (loopM.ret hlt46 hB73)
       refine br (tr (rr rfl (.cons rfl .nil) ?_))
       rw [show (i_GoodTable p_0) = (false) by simp only [i_GoodTable, hb16, hb21, hb23, hb51, hL72, cL]]
       exact ⟨rfl, (Ex.trans hf43 hE50)⟩
     ·refine CW.seq (CW.region (sd rfl (yl_lss rfl rfl rfl (dn (CW.seq (CW.cond_f rfl (lt_f hlt46) (CW.exit (tx ?_))))))))
      refine tx ?_
      have hL76 : loopM (B_i_GoodTable_0 p_0) (p_0.Cols.length - 0) 0 () = .done () := hI39.symm.trans (loopM.stop hlt46)
      refine bx (tn (CW.seq (CW.seq (CW.region (sd rfl (yl_fieldAddr fd34_2 rfl rfl (sd rfl (yl_load1 ty32 rfl rfl ((hf42.cell 2).trans rfl) (sd rfl (yl_len un32 rfl rfl (sd rfl (yl_move rfl rfl ?_))))))))))))
      refine dn (CW.block (CW.loop (fun m115 L116 w117 => ∃ (k77 : Nat), m115 = p_0.Idxs.length - k77 ∧ k77 ≤ p_0.Idxs.length ∧ w37.heap.size ≤ w117.heap.size ∧ Sub [(1, .pointer (some ⟨b7, 0, none⟩)), (45, .slice A2 p_0.Idxs.length c2), (46, .int .i64 ((p_0.Idxs.length : Int))), (47, .int .i64 ((k77 : Int)))] L116 ∧ Box w117 b7 34 [.string (bs (p_0.Name)), .slice A1 p_0.Cols.length c1, .slice A2 p_0.Idxs.length c2] ∧ Ex w w117 ∧ loopM (B_i_GoodTable_1 p_0) (p_0.Idxs.length - k77) k77 () = loopM (B_i_GoodTable_1 p_0) (p_0.Idxs.length - 0) 0 ()) (p_0.Idxs.length - 0) ?_ ?_))
      ·exact ⟨0, rfl, (by omega), Nat.le_refl _, (sR rfl), hf42, hf43, rfl⟩
      ·rintro m118 L119 w120 ⟨k77, rfl, hk121, hsz123, hl124, hf125, hf126, hI122⟩
       refine CW.sub hl124 ?_
       have hf125z := Box.lt hf125
       have hf126z := Ex.size hf126
       have q128 := RdS.ex good_Idx h2 hf126
       have hbg127 := RdS.big q128
       rcases Nat.lt_or_ge k77 p_0.Idxs.length with hlt129 | hlt129
       ·refine CW.seq (CW.region (sd rfl (yl_lss rfl rfl rfl (dn (CW.seq (CW.cond_t rfl (lt_t hlt129) (CW.skip (tn ?_))))))))
        refine CW.seq (CW.block (CW.seq (CW.region (sd rfl (yl_move rfl rfl ?_)))))
        obtain ⟨_, _, _, eA130, _, ebl130, _, eR130, eC130⟩ := RdS.aD q128 d_Idx (i := k77)
        obtain rfl := eR130
        refine sd rfl (yl_ixN un32 ty79 rfl rfl rfl eA130 (sd rfl (yl_loadN ty79 rfl rfl eC130 rfl (sd rfl (yl_alloc ty79 (cs := [.string (bs (([] : Str))), .int .i64 (0), .int .i64 (0)]) rfl rfl ?_)))))
        intro b131 w132 hs133 hz134 hB135 hE136
        refine sd rfl (yl_assign rfl rfl (SeqR.u rfl rfl (yl_storeA (vs := [.string (bs ((p_0.Idxs.getD k77 d_Idx).Name)), .int .i64 ((p_0.Idxs.getD k77 d_Idx).Col), .int .i64 ((p_0.Idxs.getD k77 d_Idx).Stage)]) ty79 rfl rfl rfl rfl rfl rfl hB135 rfl ?_)))
        intro w137 hB138 hO139
        have hO139z := hO139.size
        refine dn (CW.seq (bcase (i_areLetters ((p_0.Idxs.getD k77 d_Idx).Name) 1) (fun hb141 => ?_) (fun hb141 => ?_)))
        ·refine bcase (i_within ((p_0.Idxs.getD k77 d_Idx).Col) 1 (IntKind.wrap .i64 ((p_0.Cols.length : Int) - 1))) (fun hb146 => ?_) (fun hb146 => ?_)
         ·have hb146p := f_within hb146
          refine bcase (i_isStage ((p_0.Idxs.getD k77 d_Idx).Stage)) (fun hb152 => ?_) (fun hb152 => ?_)
          ·have hb152p := f_i_isStage hb152
           refine bcD (q := 0 < (k77 : Int)) (fun hb158 hb158p => ?_) (fun hb158 hb158p => ?_)
           ·have q161 := Box.only (Box.ex hf125 hE136) hO139 (by omega)
            have q165 := Below.only (Ex.trans hf126 hE136) hO139 (by omega)
            obtain ⟨eb167, eo167, _, eA167, _, ebl167, _, eR167, eC167⟩ := RdS.atD (RdS.ex good_Idx h2 q165) d_Idx (i := (IntKind.wrap .i64 ((k77 : Int) - 1)).toNat) (by first | omega | assumption | (simp only [wI] at *; omega))
            obtain rfl := eR167
            refine drJ 36 [.pointer (some ⟨b131, 0 + 0, none⟩), .string (bs ((p_0.Idxs.getD k77 d_Idx).Name)), .bool ((i_areLetters ((p_0.Idxs.getD k77 d_Idx).Name) 1)), .bool (!(i_areLetters ((p_0.Idxs.getD k77 d_Idx).Name) 1)), .bool (!(i_areLetters ((p_0.Idxs.getD k77 d_Idx).Name) 1)), .pointer (some ⟨b131, 0 + 1, none⟩), .int .i64 ((p_0.Idxs.getD k77 d_Idx).Col), .pointer (some ⟨b7, 0 + 1, none⟩), .slice A1 p_0.Cols.length c1, .int .i64 ((p_0.Cols.length : Int)), .int .i64 (IntKind.wrap .i64 ((p_0.Cols.length : Int) - 1)), .bool ((i_within ((p_0.Idxs.getD k77 d_Idx).Col) 1 (IntKind.wrap .i64 ((p_0.Cols.length : Int) - 1)))), .bool (!(i_within ((p_0.Idxs.getD k77 d_Idx).Col) 1 (IntKind.wrap .i64 ((p_0.Cols.length : Int) - 1)))), .bool (!(i_within ((p_0.Idxs.getD k77 d_Idx).Col) 1 (IntKind.wrap .i64 ((p_0.Cols.length : Int) - 1)))), .bool (!(i_within ((p_0.Idxs.getD k77 d_Idx).Col) 1 (IntKind.wrap .i64 ((p_0.Cols.length : Int) - 1)))), .pointer (some ⟨b131, 0 + 2, none⟩), .int .i64 ((p_0.Idxs.getD k77 d_Idx).Stage), .bool ((i_isStage ((p_0.Idxs.getD k77 d_Idx).Stage))), .bool (!(i_isStage ((p_0.Idxs.getD k77 d_Idx).Stage))), .bool (!(i_isStage ((p_0.Idxs.getD k77 d_Idx).Stage))), .bool (!(i_isStage ((p_0.Idxs.getD k77 d_Idx).Stage))), .int .i64 ((k77 : Int)), .bool (decide (0 < (k77 : Int))), .bool (decide (0 < (k77 : Int))), .pointer (some ⟨b131, 0 + 0, none⟩), .string (bs ((p_0.Idxs.getD k77 d_Idx).Name)), .pointer (some ⟨b7, 0 + 2, none⟩), .slice A2 p_0.Idxs.length c2, .int .i64 ((k77 : Int)), .int .i64 (IntKind.wrap .i64 ((k77 : Int) - 1)), .pointer (some ⟨eb167, eo167 + ((IntKind.wrap .i64 ((k77 : Int) - 1)).toNat) * 3, none⟩), .pointer (some ⟨eb167, eo167 + ((IntKind.wrap .i64 ((k77 : Int) - 1)).toNat) * 3 + 0, none⟩), .string (bs ((p_0.Idxs.getD ((IntKind.wrap .i64 ((k77 : Int) - 1)).toNat) d_Idx).Name)), .bool (sLe ((p_0.Idxs.getD k77 d_Idx).Name) ((p_0.Idxs.getD ((IntKind.wrap .i64 ((k77 : Int) - 1)).toNat) d_Idx).Name)), .bool (sLe ((p_0.Idxs.getD k77 d_Idx).Name) ((p_0.Idxs.getD ((IntKind.wrap .i64 ((k77 : Int) - 1)).toNat) d_Idx).Name)), .bool (sLe ((p_0.Idxs.getD k77 d_Idx).Name) ((p_0.Idxs.getD ((IntKind.wrap .i64 ((k77 : Int) - 1)).toNat) d_Idx).Name))] Tryz.follows rfl ?_ ?_
            ·refine ⟨oI rfl fun h => yl_fieldAddr fd79_0 rfl (h.g 6 rfl) kI, oI rfl fun h => yl_load1 ty9 rfl (h.g 52 rfl) (((Box.ex hB138 h.ex).cell 0).trans rfl) kI, ?_, oI rfl fun h => yl_not rfl (h.g 54 rfl) kI, oI rfl fun h => yl_move rfl (h.g 55 rfl) kI, oW rfl rfl rfl rfl (not_t hb141) fun h => yl_fieldAddr fd79_1 rfl (h.g 6 rfl) kI, oW rfl rfl rfl rfl (not_t hb141) fun h => yl_load1 ty3 rfl (h.g 57 rfl) (((Box.ex hB138 h.ex).cell 1).trans rfl) kI, oW rfl rfl rfl rfl (not_t hb141) fun h => yl_fieldAddr fd34_1 rfl (h.g 1 rfl) kI, oW rfl rfl rfl rfl (not_t hb141) fun h => yl_load1 ty22 rfl (h.g 59 rfl) (((Box.ex q161 h.ex).cell 1).trans rfl) kI, oW rfl rfl rfl rfl (not_t hb141) fun h => yl_len un22 rfl (h.g 60 rfl) kI, oW rfl rfl rfl rfl (not_t hb141) fun h => yl_sub rfl (h.g 61 rfl) rfl kI, ?_, oW rfl rfl rfl rfl (not_t hb141) fun h => yl_not rfl (h.g 63 rfl) kI, oI rfl fun h => yl_pick_f rfl (h.g 56 rfl) (not_t hb141) (h.g 64 rfl) kI, oI rfl fun h => yl_move rfl (h.g 65 rfl) kI, oW rfl rfl rfl rfl (not_t hb146) fun h => yl_fieldAddr fd79_2 rfl (h.g 6 rfl) kI, oW rfl rfl rfl rfl (not_t hb146) fun h => yl_load1 ty3 rfl (h.g 67 rfl) (((Box.ex hB138 h.ex).cell 2).trans rfl) kI, ?_, oW rfl rfl rfl rfl (not_t hb146) fun h => yl_not rfl (h.g 69 rfl) kI, oI rfl fun h => yl_pick_f rfl (h.g 66 rfl) (not_t hb146) (h.g 70 rfl) kI, oI rfl fun h => yl_move rfl (h.g 71 rfl) kI, oW rfl rfl rfl rfl (not_t hb152) fun h => yl_move rfl (h.g 5 rfl) kI, oW rfl rfl rfl rfl (not_t hb152) fun h => yl_gtr rfl (h.g 73 rfl) rfl kI, oW rfl rfl rfl rfl (not_t hb152) fun h => yl_move rfl (h.g 74 rfl) kI, oW rfl rfl rfl rfl hb158 fun h => yl_fieldAddr fd79_0 rfl (h.g 6 rfl) kI, oW rfl rfl rfl rfl hb158 fun h => yl_load1 ty9 rfl (h.g 76 rfl) (((Box.ex hB138 h.ex).cell 0).trans rfl) kI, oW rfl rfl rfl rfl hb158 fun h => yl_fieldAddr fd34_2 rfl (h.g 1 rfl) kI, oW rfl rfl rfl rfl hb158 fun h => yl_load1 ty32 rfl (h.g 78 rfl) (((Box.ex q161 h.ex).cell 2).trans rfl) kI, oW rfl rfl rfl rfl hb158 fun h => yl_move rfl (h.g 5 rfl) kI, oW rfl rfl rfl rfl hb158 fun h => yl_sub rfl (h.g 80 rfl) rfl kI, ?_, oW rfl rfl rfl rfl hb158 fun h => yl_fieldAddr fd79_0 rfl (h.g 82 rfl) kI, oW rfl rfl rfl rfl hb158 fun h => yl_load1 ty9 rfl (h.g 83 rfl) ((Cells.ex eC167 h.ex) 0 _ rfl) kI, oW rfl rfl rfl rfl hb158 fun h => yl_sleq (a := ((p_0.Idxs.getD k77 d_Idx).Name)) (b := ((p_0.Idxs.getD ((IntKind.wrap .i64 ((k77 : Int) - 1)).toNat) d_Idx).Name)) rfl (h.g 77 rfl) (h.g 84 rfl) kI, oW rfl rfl rfl rfl (not_t hb152) fun h => yl_pick_t rfl (h.g 75 rfl) hb158 (h.g 85 rfl) kI, oI rfl fun h => yl_pick_f rfl (h.g 72 rfl) (not_t hb152) (h.g 86 rfl) kI, trivial⟩
             ·intro L179 w180 hi181
              exact OpR.op' rfl (yl_call en55 rfl (oc (hi181.g 53 rfl) (oc rfl oz)) (Cal.mono (c_i_areLetters ((p_0.Idxs.getD k77 d_Idx).Name) 1 (okL.getD o3.2.2 ok_d_Idx _)) fun _ _ h => h))
             ·intro L235 w236 hi237
              exact OpR.want rfl rfl (hi237.g 56 rfl) (not_t hb141) (yl_call en30 rfl (oc (hi237.g 58 rfl) (oc rfl (oc (hi237.g 62 rfl) oz))) (Cal.mono (c_i_within ((p_0.Idxs.getD k77 d_Idx).Col) 1 (IntKind.wrap .i64 ((p_0.Cols.length : Int) - 1))) fun _ _ h => h))
             ·intro L275 w276 hi277
              exact OpR.want rfl rfl (hi277.g 66 rfl) (not_t hb146) (yl_call en57 rfl (oc (hi277.g 68 rfl) oz) (Cal.mono (c_i_isStage ((p_0.Idxs.getD k77 d_Idx).Stage)) fun _ _ h => h))
             ·intro L357 w358 hi359
              have hE360 := hi359.ex
              have hE360z := Ex.size hE360
              exact OpR.want rfl rfl (hi359.g 75 rfl) hb158 (Yl.sameI (yl_indexAddr un32 ty79 rfl (hi359.g 79 rfl) (hi359.g 81 rfl) eA167 (by first | omega | assumption | (simp only [wI] at *; omega)) (by first | omega | assumption | (simp only [wI] at *; omega)) kI))
            ·intro fl400 fh401 L397 w398 hp399
             have hE402 := hp399.ex
             have hE402z := Ex.size hE402
             refine dn (CW.sub (hp399.ss [1, 45, 46, 47, 87] rfl) (bcase (sLe ((p_0.Idxs.getD k77 d_Idx).Name) ((p_0.Idxs.getD ((IntKind.wrap .i64 ((k77 : Int) - 1)).toNat) d_Idx).Name)) (fun hb408 => ?_) (fun hb408 => ?_)))
             ·refine CW.cond_t rfl hb408 (CW.seq (CW.region (sd rfl (yl_assign rfl rfl (dn (CW.ret (br (tr ?_))))))))
              refine tr ?_
              have hB410 : B_i_GoodTable_1 p_0 k77 () = .ret false := by simp only [B_i_GoodTable_1, hb16, hb21, hb23, hb141, hb146, hb152, hb158, hb408, hL76, cL]
              have hL409 : loopM (B_i_GoodTable_1 p_0) (p_0.Idxs.length - 0) 0 () = .ret false := hI122.symm.trans (loopM.ret hlt129 hB410)
              refine br (tr (rr rfl (.cons rfl .nil) ?_))
              rw [show (i_GoodTable p_0) = (false) by simp only [i_GoodTable, hb16, hb21, hb23, hb141, hb146, hb152, hb158, hb408, hL76, hL409, cL]]
              exact ⟨rfl, (Ex.trans q165 hE402)⟩
             ·refine CW.cond_f rfl hb408 (CW.skip (bn (tn (CW.region (sd rfl (yl_inc rfl rfl rfl (by omega) (sd rfl (yl_move rfl rfl (dn ?_)))))))))
              have hB413 : B_i_GoodTable_1 p_0 k77 () = .cont () := by simp only [B_i_GoodTable_1, hb16, hb21, hb23, hb141, hb146, hb152, hb158, hb408, hL76, cL]
              exact ⟨p_0.Idxs.length - (k77 + 1), by omega, k77 + 1, rfl, hlt129, (by omega), (sR rfl), (Box.ex q161 hE402), (Ex.trans q165 hE402), (loopM.cont hlt129 hB413).symm.trans hI122⟩
           ·have q418 := Box.only (Box.ex hf125 hE136) hO139 (by omega)
            refine drJ 36 [.pointer (some ⟨b131, 0 + 0, none⟩), .string (bs ((p_0.Idxs.getD k77 d_Idx).Name)), .bool ((i_areLetters ((p_0.Idxs.getD k77 d_Idx).Name) 1)), .bool (!(i_areLetters ((p_0.Idxs.getD k77 d_Idx).Name) 1)), .bool (!(i_areLetters ((p_0.Idxs.getD k77 d_Idx).Name) 1)), .pointer (some ⟨b131, 0 + 1, none⟩), .int .i64 ((p_0.Idxs.getD k77 d_Idx).Col), .pointer (some ⟨b7, 0 + 1, none⟩), .slice A1 p_0.Cols.length c1, .int .i64 ((p_0.Cols.length : Int)), .int .i64 (IntKind.wrap .i64 ((p_0.Cols.length : Int) - 1)), .bool ((i_within ((p_0.Idxs.getD k77 d_Idx).Col) 1 (IntKind.wrap .i64 ((p_0.Cols.length : Int) - 1)))), .bool (!(i_within ((p_0.Idxs.getD k77 d_Idx).Col) 1 (IntKind.wrap .i64 ((p_0.Cols.length : Int) - 1)))), .bool (!(i_within ((p_0.Idxs.getD k77 d_Idx).Col) 1 (IntKind.wrap .i64 ((p_0.Cols.length : Int) - 1)))), .bool (!(i_within ((p_0.Idxs.getD k77 d_Idx).Col) 1 (IntKind.wrap .i64 ((p_0.Cols.length : Int) - 1)))), .pointer (some ⟨b131, 0 + 2, none⟩), .int .i64 ((p_0.Idxs.getD k77 d_Idx).Stage), .bool ((i_isStage ((p_0.Idxs.getD k77 d_Idx).Stage))), .bool (!(i_isStage ((p_0.Idxs.getD k77 d_Idx).Stage))), .bool (!(i_isStage ((p_0.Idxs.getD k77 d_Idx).Stage))), .bool (!(i_isStage ((p_0.Idxs.getD k77 d_Idx).Stage))), .int .i64 ((k77 : Int)), .bool (decide (0 < (k77 : Int))), .bool (decide (0 < (k77 : Int))), undef, undef, undef, undef, undef, undef, undef, undef, undef, undef, .bool (false), .bool (false)] Tryz.follows rfl ?_ ?_
            ·refine ⟨oI rfl fun h => yl_fieldAddr fd79_0 rfl (h.g 6 rfl) kI, oI rfl fun h => yl_load1 ty9 rfl (h.g 52 rfl) (((Box.ex hB138 h.ex).cell 0).trans rfl) kI, ?_, oI rfl fun h => yl_not rfl (h.g 54 rfl) kI, oI rfl fun h => yl_move rfl (h.g 55 rfl) kI, oW rfl rfl rfl rfl (not_t hb141) fun h => yl_fieldAddr fd79_1 rfl (h.g 6 rfl) kI, oW rfl rfl rfl rfl (not_t hb141) fun h => yl_load1 ty3 rfl (h.g 57 rfl) (((Box.ex hB138 h.ex).cell 1).trans rfl) kI, oW rfl rfl rfl rfl (not_t hb141) fun h => yl_fieldAddr fd34_1 rfl (h.g 1 rfl) kI, oW rfl rfl rfl rfl (not_t hb141) fun h => yl_load1 ty22 rfl (h.g 59 rfl) (((Box.ex q418 h.ex).cell 1).trans rfl) kI, oW rfl rfl rfl rfl (not_t hb141) fun h => yl_len un22 rfl (h.g 60 rfl) kI, oW rfl rfl rfl rfl (not_t hb141) fun h => yl_sub rfl (h.g 61 rfl) rfl kI, ?_, oW rfl rfl rfl rfl (not_t hb141) fun h => yl_not rfl (h.g 63 rfl) kI, oI rfl fun h => yl_pick_f rfl (h.g 56 rfl) (not_t hb141) (h.g 64 rfl) kI, oI rfl fun h => yl_move rfl (h.g 65 rfl) kI, oW rfl rfl rfl rfl (not_t hb146) fun h => yl_fieldAddr fd79_2 rfl (h.g 6 rfl) kI, oW rfl rfl rfl rfl (not_t hb146) fun h => yl_load1 ty3 rfl (h.g 67 rfl) (((Box.ex hB138 h.ex).cell 2).trans rfl) kI, ?_, oW rfl rfl rfl rfl (not_t hb146) fun h => yl_not rfl (h.g 69 rfl) kI, oI rfl fun h => yl_pick_f rfl (h.g 66 rfl) (not_t hb146) (h.g 70 rfl) kI, oI rfl fun h => yl_move rfl (h.g 71 rfl) kI, oW rfl rfl rfl rfl (not_t hb152) fun h => yl_move rfl (h.g 5 rfl) kI, oW rfl rfl rfl rfl (not_t hb152) fun h => yl_gtr rfl (h.g 73 rfl) rfl kI, oW rfl rfl rfl rfl (not_t hb152) fun h => yl_move rfl (h.g 74 rfl) kI, oS rfl rfl rfl rfl rfl hb158, oS rfl rfl rfl rfl rfl hb158, oS rfl rfl rfl rfl rfl hb158, oS rfl rfl rfl rfl rfl hb158, oS rfl rfl rfl rfl rfl hb158, oS rfl rfl rfl rfl rfl hb158, oS rfl rfl rfl rfl rfl hb158, oS rfl rfl rfl rfl rfl hb158, oS rfl rfl rfl rfl rfl hb158, oS rfl rfl rfl rfl rfl hb158, oW rfl rfl rfl rfl (not_t hb152) fun h => yl_pick_f rfl (h.g 75 rfl) hb158 rfl kI, oI rfl fun h => yl_pick_f rfl (h.g 72 rfl) (not_t hb152) (h.g 86 rfl) kI, trivial⟩
             ·intro L432 w433 hi434
              exact OpR.op' rfl (yl_call en55 rfl (oc (hi434.g 53 rfl) (oc rfl oz)) (Cal.mono (c_i_areLetters ((p_0.Idxs.getD k77 d_Idx).Name) 1 (okL.getD o3.2.2 ok_d_Idx _)) fun _ _ h => h))
             ·intro L488 w489 hi490
              exact OpR.want rfl rfl (hi490.g 56 rfl) (not_t hb141) (yl_call en30 rfl (oc (hi490.g 58 rfl) (oc rfl (oc (hi490.g 62 rfl) oz))) (Cal.mono (c_i_within ((p_0.Idxs.getD k77 d_Idx).Col) 1 (IntKind.wrap .i64 ((p_0.Cols.length : Int) - 1))) fun _ _ h => h))
             ·intro L528 w529 hi530
              exact OpR.want rfl rfl (hi530.g 66 rfl) (not_t hb146) (yl_call en57 rfl (oc (hi530.g 68 rfl) oz) (Cal.mono (c_i_isStage ((p_0.Idxs.getD k77 d_Idx).Stage)) fun _ _ h => h))
            ·intro fl638 fh639 L635 w636 hp637
             have hE640 := hp637.ex
             have hE640z := Ex.size hE640
             refine dn (CW.sub (hp637.ss [1, 45, 46, 47, 87] rfl) (CW.cond_f rfl rfl (CW.skip (bn (tn (CW.region (sd rfl (yl_inc rfl rfl rfl (by omega) ?_))))))))
             refine sd rfl (yl_move rfl rfl (dn ?_))
             have hB646 : B_i_GoodTable_1 p_0 k77 () = .cont () := by simp only [B_i_GoodTable_1, hb16, hb21, hb23, hb141, hb146, hb152, hb158, hL76, cL]
             exact ⟨p_0.Idxs.length - (k77 + 1), by omega, k77 + 1, rfl, hlt129, (by omega), (sR rfl), (Box.ex q418 hE640), (Ex.trans (Below.only (Ex.trans hf126 hE136) hO139 (by omega)) hE640), (loopM.cont hlt129 hB646).symm.trans hI122⟩
          ·refine drJ 36 [.pointer (some ⟨b131, 0 + 0, none⟩), .string (bs ((p_0.Idxs.getD k77 d_Idx).Name)), .bool ((i_areLetters ((p_0.Idxs.getD k77 d_Idx).Name) 1)), .bool (!(i_areLetters ((p_0.Idxs.getD k77 d_Idx).Name) 1)), .bool (!(i_areLetters ((p_0.Idxs.getD k77 d_Idx).Name) 1)), .pointer (some ⟨b131, 0 + 1, none⟩), .int .i64 ((p_0.Idxs.getD k77 d_Idx).Col), .pointer (some ⟨b7, 0 + 1, none⟩), .slice A1 p_0.Cols.length c1, .int .i64 ((p_0.Cols.length : Int)), .int .i64 (IntKind.wrap .i64 ((p_0.Cols.length : Int) - 1)), .bool ((i_within ((p_0.Idxs.getD k77 d_Idx).Col) 1 (IntKind.wrap .i64 ((p_0.Cols.length : Int) - 1)))), .bool (!(i_within ((p_0.Idxs.getD k77 d_Idx).Col) 1 (IntKind.wrap .i64 ((p_0.Cols.length : Int) - 1)))), .bool (!(i_within ((p_0.Idxs.getD k77 d_Idx).Col) 1 (IntKind.wrap .i64 ((p_0.Cols.length : Int) - 1)))), .bool (!(i_within ((p_0.Idxs.getD k77 d_Idx).Col) 1 (IntKind.wrap .i64 ((p_0.Cols.length : Int) - 1)))), .pointer (some ⟨b131, 0 + 2, none⟩), .int .i64 ((p_0.Idxs.getD k77 d_Idx).Stage), .bool ((i_isStage ((p_0.Idxs.getD k77 d_Idx).Stage))), .bool (!(i_isStage ((p_0.Idxs.getD k77 d_Idx).Stage))), .bool (!(i_isStage ((p_0.Idxs.getD k77 d_Idx).Stage))), .bool (!(i_isStage ((p_0.Idxs.getD k77 d_Idx).Stage))), undef, undef, undef, undef, undef, undef, undef, undef, undef, undef, undef, undef, undef, undef, .bool (true)] Tryz.follows rfl ?_ ?_
           ·refine ⟨oI rfl fun h => yl_fieldAddr fd79_0 rfl (h.g 6 rfl) kI, oI rfl fun h => yl_load1 ty9 rfl (h.g 52 rfl) (((Box.ex hB138 h.ex).cell 0).trans rfl) kI, ?_, oI rfl fun h => yl_not rfl (h.g 54 rfl) kI, oI rfl fun h => yl_move rfl (h.g 55 rfl) kI, oW rfl rfl rfl rfl (not_t hb141) fun h => yl_fieldAddr fd79_1 rfl (h.g 6 rfl) kI, oW rfl rfl rfl rfl (not_t hb141) fun h => yl_load1 ty3 rfl (h.g 57 rfl) (((Box.ex hB138 h.ex).cell 1).trans rfl) kI, oW rfl rfl rfl rfl (not_t hb141) fun h => yl_fieldAddr fd34_1 rfl (h.g 1 rfl) kI, ?_, oW rfl rfl rfl rfl (not_t hb141) fun h => yl_len un22 rfl (h.g 60 rfl) kI, oW rfl rfl rfl rfl (not_t hb141) fun h => yl_sub rfl (h.g 61 rfl) rfl kI, ?_, oW rfl rfl rfl rfl (not_t hb141) fun h => yl_not rfl (h.g 63 rfl) kI, oI rfl fun h => yl_pick_f rfl (h.g 56 rfl) (not_t hb141) (h.g 64 rfl) kI, oI rfl fun h => yl_move rfl (h.g 65 rfl) kI, oW rfl rfl rfl rfl (not_t hb146) fun h => yl_fieldAddr fd79_2 rfl (h.g 6 rfl) kI, oW rfl rfl rfl rfl (not_t hb146) fun h => yl_load1 ty3 rfl (h.g 67 rfl) (((Box.ex hB138 h.ex).cell 2).trans rfl) kI, ?_, oW rfl rfl rfl rfl (not_t hb146) fun h => yl_not rfl (h.g 69 rfl) kI, oI rfl fun h => yl_pick_f rfl (h.g 66 rfl) (not_t hb146) (h.g 70 rfl) kI, oI rfl fun h => yl_move rfl (h.g 71 rfl) kI, oS rfl rfl rfl rfl rfl (not_f hb152), oS rfl rfl rfl rfl rfl (not_f hb152), oS rfl rfl rfl rfl rfl (not_f hb152), oU rfl rfl rfl rfl rfl, oU rfl rfl rfl rfl rfl, oU rfl rfl rfl rfl rfl, oU rfl rfl rfl rfl rfl, oU rfl rfl rfl rfl rfl, oU rfl rfl rfl rfl rfl, oU rfl rfl rfl rfl rfl, oU rfl rfl rfl rfl rfl, oU rfl rfl rfl rfl rfl, oU rfl rfl rfl rfl rfl, oS rfl rfl rfl rfl rfl (not_f hb152), oI rfl fun h => yl_pick_t rfl (h.g 72 rfl) (not_f hb152) rfl kI, trivial⟩
            ·intro L667 w668 hi669
             exact OpR.op' rfl (yl_call en55 rfl (oc (hi669.g 53 rfl) (oc rfl oz)) (Cal.mono (c_i_areLetters ((p_0.Idxs.getD k77 d_Idx).Name) 1 (okL.getD o3.2.2 ok_d_Idx _)) fun _ _ h => h))
            ·intro L704 w705 hi706
             have hE707 := hi706.ex
             have hE707z := Ex.size hE707
             exact OpR.want rfl rfl (hi706.g 56 rfl) (not_t hb141) (Yl.sameI (yl_load1 ty22 rfl (hi706.g 59 rfl) (((Box.ex (Box.only (Box.ex hf125 hE136) hO139 (by omega)) hE707).cell 1).trans rfl) kI))
            ·intro L723 w724 hi725
             exact OpR.want rfl rfl (hi725.g 56 rfl) (not_t hb141) (yl_call en30 rfl (oc (hi725.g 58 rfl) (oc rfl (oc (hi725.g 62 rfl) oz))) (Cal.mono (c_i_within ((p_0.Idxs.getD k77 d_Idx).Col) 1 (IntKind.wrap .i64 ((p_0.Cols.length : Int) - 1))) fun _ _ h => h))
            ·intro L763 w764 hi765
             exact OpR.want rfl rfl (hi765.g 66 rfl) (not_t hb146) (yl_call en57 rfl (oc (hi765.g 68 rfl) oz) (Cal.mono (c_i_isStage ((p_0.Idxs.getD k77 d_Idx).Stage)) fun _ _ h => h))
           ·intro fl868 fh869 L865 w866 hp867
            have hE870 := hp867.ex
            have hE870z := Ex.size hE870
            refine dn (CW.sub (hp867.ss [1, 45, 46, 47, 87] rfl) (CW.cond_t rfl rfl (CW.seq (CW.region (sd rfl (yl_assign rfl rfl (dn ?_)))))))
            refine CW.ret (br (tr (tr ?_)))
            have hB877 : B_i_GoodTable_1 p_0 k77 () = .ret false := by simp only [B_i_GoodTable_1, hb16, hb21, hb23, hb141, hb146, hb152, hL76, cL]
            have hL876 : loopM (B_i_GoodTable_1 p_0) (p_0.Idxs.length - 0) 0 () = .ret false := hI122.symm.trans (loopM.ret hlt129 hB877)
            refine br (tr (rr rfl (.cons rfl .nil) ?_))
            rw [show (i_GoodTable p_0) = (false) by simp only [i_GoodTable, hb16, hb21, hb23, hb141, hb146, hb152, hL76, hL876, cL]]
            exact ⟨rfl, (Ex.trans (Below.only (Ex.trans hf126 hE136) hO139 (by omega)) hE870)⟩
         ·refine drJ 36 [.pointer (some ⟨b131, 0 + 0, none⟩), .string (bs ((p_0.Idxs.getD k77 d_Idx).Name)), .bool ((i_areLetters ((p_0.Idxs.getD k77 d_Idx).Name) 1)), .bool (!(i_areLetters ((p_0.Idxs.getD k77 d_Idx).Name) 1)), .bool (!(i_areLetters ((p_0.Idxs.getD k77 d_Idx).Name) 1)), .pointer (some ⟨b131, 0 + 1, none⟩), .int .i64 ((p_0.Idxs.getD k77 d_Idx).Col), .pointer (some ⟨b7, 0 + 1, none⟩), .slice A1 p_0.Cols.length c1, .int .i64 ((p_0.Cols.length : Int)), .int .i64 (IntKind.wrap .i64 ((p_0.Cols.length : Int) - 1)), .bool ((i_within ((p_0.Idxs.getD k77 d_Idx).Col) 1 (IntKind.wrap .i64 ((p_0.Cols.length : Int) - 1)))), .bool (!(i_within ((p_0.Idxs.getD k77 d_Idx).Col) 1 (IntKind.wrap .i64 ((p_0.Cols.length : Int) - 1)))), .bool (!(i_within ((p_0.Idxs.getD k77 d_Idx).Col) 1 (IntKind.wrap .i64 ((p_0.Cols.length : Int) - 1)))), .bool (!(i_within ((p_0.Idxs.getD k77 d_Idx).Col) 1 (IntKind.wrap .i64 ((p_0.Cols.length : Int) - 1)))), undef, undef, undef, undef, .bool (true), .bool (true), undef, undef, undef, undef, undef, undef, undef, undef, undef, undef, undef, undef, undef, undef, .bool (true)] Tryz.follows rfl ?_ ?_
          ·refine ⟨oI rfl fun h => yl_fieldAddr fd79_0 rfl (h.g 6 rfl) kI, oI rfl fun h => yl_load1 ty9 rfl (h.g 52 rfl) (((Box.ex hB138 h.ex).cell 0).trans rfl) kI, ?_, oI rfl fun h => yl_not rfl (h.g 54 rfl) kI, oI rfl fun h => yl_move rfl (h.g 55 rfl) kI, oW rfl rfl rfl rfl (not_t hb141) fun h => yl_fieldAddr fd79_1 rfl (h.g 6 rfl) kI, oW rfl rfl rfl rfl (not_t hb141) fun h => yl_load1 ty3 rfl (h.g 57 rfl) (((Box.ex hB138 h.ex).cell 1).trans rfl) kI, oW rfl rfl rfl rfl (not_t hb141) fun h => yl_fieldAddr fd34_1 rfl (h.g 1 rfl) kI, ?_, oW rfl rfl rfl rfl (not_t hb141) fun h => yl_len un22 rfl (h.g 60 rfl) kI, oW rfl rfl rfl rfl (not_t hb141) fun h => yl_sub rfl (h.g 61 rfl) rfl kI, ?_, oW rfl rfl rfl rfl (not_t hb141) fun h => yl_not rfl (h.g 63 rfl) kI, oI rfl fun h => yl_pick_f rfl (h.g 56 rfl) (not_t hb141) (h.g 64 rfl) kI, oI rfl fun h => yl_move rfl (h.g 65 rfl) kI, oS rfl rfl rfl rfl rfl (not_f hb146), oS rfl rfl rfl rfl rfl (not_f hb146), oS rfl rfl rfl rfl rfl (not_f hb146), oS rfl rfl rfl rfl rfl (not_f hb146), oI rfl fun h => yl_pick_t rfl (h.g 66 rfl) (not_f hb146) rfl kI, oI rfl fun h => yl_move rfl (h.g 71 rfl) kI, oS rfl rfl rfl rfl rfl rfl, oS rfl rfl rfl rfl rfl rfl, oS rfl rfl rfl rfl rfl rfl, oU rfl rfl rfl rfl rfl, oU rfl rfl rfl rfl rfl, oU rfl rfl rfl rfl rfl, oU rfl rfl rfl rfl rfl, oU rfl rfl rfl rfl rfl, oU rfl rfl rfl rfl rfl, oU rfl rfl rfl rfl rfl, oU rfl rfl rfl rfl rfl, oU rfl rfl rfl rfl rfl, oU rfl rfl rfl rfl rfl, oS rfl rfl rfl rfl rfl rfl, oI rfl fun h => yl_pick_t rfl (h.g 72 rfl) rfl rfl kI, trivial⟩
           ·intro L897 w898 hi899
            exact OpR.op' rfl (yl_call en55 rfl (oc (hi899.g 53 rfl) (oc rfl oz)) (Cal.mono (c_i_areLetters ((p_0.Idxs.getD k77 d_Idx).Name) 1 (okL.getD o3.2.2 ok_d_Idx _)) fun _ _ h => h))
           ·intro L934 w935 hi936
            have hE937 := hi936.ex
            have hE937z := Ex.size hE937
            exact OpR.want rfl rfl (hi936.g 56 rfl) (not_t hb141) (Yl.sameI (yl_load1 ty22 rfl (hi936.g 59 rfl) (((Box.ex (Box.only (Box.ex hf125 hE136) hO139 (by omega)) hE937).cell 1).trans rfl) kI))
           ·intro L953 w954 hi955
            exact OpR.want rfl rfl (hi955.g 56 rfl) (not_t hb141) (yl_call en30 rfl (oc (hi955.g 58 rfl) (oc rfl (oc (hi955.g 62 rfl) oz))) (Cal.mono (c_i_within ((p_0.Idxs.getD k77 d_Idx).Col) 1 (IntKind.wrap .i64 ((p_0.Cols.length : Int) - 1))) fun _ _ h => h))
          ·intro fl1090 fh1091 L1087 w1088 hp1089
           have hE1092 := hp1089.ex
           have hE1092z := Ex.size hE1092
           refine dn (CW.sub (hp1089.ss [1, 45, 46, 47, 87] rfl) (CW.cond_t rfl rfl (CW.seq (CW.region (sd rfl (yl_assign rfl rfl (dn ?_)))))))
           refine CW.ret (br (tr (tr ?_)))
           have hB1099 : B_i_GoodTable_1 p_0 k77 () = .ret false := by simp only [B_i_GoodTable_1, hb16, hb21, hb23, hb141, hb146, hL76, cL]
           have hL1098 : loopM (B_i_GoodTable_1 p_0) (p_0.Idxs.length - 0) 0 () = .ret false := hI122.symm.trans (loopM.ret hlt129 hB1099)
           refine br (tr (rr rfl (.cons rfl .nil) ?_))
           rw [show (i_GoodTable p_0) = (false) by simp only [i_GoodTable, hb16, hb21, hb23, hb141, hb146, hL76, hL1098, cL]]
           exact ⟨rfl, (Ex.trans (Below.only (Ex.trans hf126 hE136) hO139 (by omega)) hE1092)⟩
        ·refine drJ 36 [.pointer (some ⟨b131, 0 + 0, none⟩), .string (bs ((p_0.Idxs.getD k77 d_Idx).Name)), .bool ((i_areLetters ((p_0.Idxs.getD k77 d_Idx).Name) 1)), .bool (!(i_areLetters ((p_0.Idxs.getD k77 d_Idx).Name) 1)), .bool (!(i_areLetters ((p_0.Idxs.getD k77 d_Idx).Name) 1)), undef, undef, undef, undef, undef, undef, undef, undef, .bool (true), .bool (true), undef, undef, undef, undef, .bool (true), .bool (true), undef, undef, undef, undef, undef, undef, undef, undef, undef, undef, undef, undef, undef, undef, .bool (true)] Tryz.follows rfl ?_ ?_
         ·refine ⟨oI rfl fun h => yl_fieldAddr fd79_0 rfl (h.g 6 rfl) kI, oI rfl fun h => yl_load1 ty9 rfl (h.g 52 rfl) (((Box.ex hB138 h.ex).cell 0).trans rfl) kI, ?_, oI rfl fun h => yl_not rfl (h.g 54 rfl) kI, oI rfl fun h => yl_move rfl (h.g 55 rfl) kI, oS rfl rfl rfl rfl rfl (not_f hb141), oS rfl rfl rfl rfl rfl (not_f hb141), oS rfl rfl rfl rfl rfl (not_f hb141), oS rfl rfl rfl rfl rfl (not_f hb141), oS rfl rfl rfl rfl rfl (not_f hb141), oS rfl rfl rfl rfl rfl (not_f hb141), oS rfl rfl rfl rfl rfl (not_f hb141), oS rfl rfl rfl rfl rfl (not_f hb141), oI rfl fun h => yl_pick_t rfl (h.g 56 rfl) (not_f hb141) rfl kI, oI rfl fun h => yl_move rfl (h.g 65 rfl) kI, oS rfl rfl rfl rfl rfl rfl, oS rfl rfl rfl rfl rfl rfl, oS rfl rfl rfl rfl rfl rfl, oS rfl rfl rfl rfl rfl rfl, oI rfl fun h => yl_pick_t rfl (h.g 66 rfl) rfl rfl kI, oI rfl fun h => yl_move rfl (h.g 71 rfl) kI, oS rfl rfl rfl rfl rfl rfl, oS rfl rfl rfl rfl rfl rfl, oS rfl rfl rfl rfl rfl rfl, oU rfl rfl rfl rfl rfl, oU rfl rfl rfl rfl rfl, oU rfl rfl rfl rfl rfl, oU rfl rfl rfl rfl rfl, oU rfl rfl rfl rfl rfl, oU rfl rfl rfl rfl rfl, oU rfl rfl rfl rfl rfl, oU rfl rfl rfl rfl rfl, oU rfl rfl rfl rfl rfl, oU rfl rfl rfl rfl rfl, oS rfl rfl rfl rfl rfl rfl, oI rfl fun h => yl_pick_t rfl (h.g 72 rfl) rfl rfl kI, trivial⟩
          ·intro L1116 w1117 hi1118
           exact OpR.op' rfl (yl_call en55 rfl (oc (hi1118.g 53 rfl) (oc rfl oz)) (Cal.mono (c_i_areLetters ((p_0.Idxs.getD k77 d_Idx).Name) 1 (okL.getD o3.2.2 ok_d_Idx _)) fun _ _ h => h))
         ·intro fl1295 fh1296 L1292 w1293 hp1294
          have hE1297 := hp1294.ex
          have hE1297z := Ex.size hE1297
          refine dn (CW.sub (hp1294.ss [1, 45, 46, 47, 87] rfl) (CW.cond_t rfl rfl (CW.seq (CW.region (sd rfl (yl_assign rfl rfl (dn ?_)))))))
          refine CW.ret (br (tr (tr ?_)))
          have hB1304 : B_i_GoodTable_1 p_0 k77 () = .ret false := by simp only [B_i_GoodTable_1, hb16, hb21, hb23, hb141, hL76, cL]
          have hL1303 : loopM (B_i_GoodTable_1 p_0) (p_0.Idxs.length - 0) 0 () = .ret false := hI122.symm.trans (loopM.ret hlt129 hB1304)
          refine br (tr (rr rfl (.cons rfl .nil) ?_))
          rw [show (i_GoodTable p_0) = (false) by simp only [i_GoodTable, hb16, hb21, hb23, hb141, hL76, hL1303, cL]]
          exact ⟨rfl, (Ex.trans (Below.only (Ex.trans hf126 hE136) hO139 (by omega)) hE1297)⟩
       ·refine CW.seq (CW.region (sd rfl (yl_lss rfl rfl rfl (dn (CW.seq (CW.cond_f rfl (lt_f hlt129) (CW.exit (tx ?_))))))))
        refine tx ?_
        have hL1309 : loopM (B_i_GoodTable_1 p_0) (p_0.Idxs.length - 0) 0 () = .done () := hI122.symm.trans (loopM.stop hlt129)
        refine bx (tn (CW.seq (CW.region (sd rfl (yl_assign rfl rfl (dn (CW.ret (rr rfl (.cons rfl .nil) ?_))))))))
        rw [show (i_GoodTable p_0) = (true) by simp only [i_GoodTable, hb16, hb21, hb23, hL76, hL1309, cL]]
        exact ⟨rfl, hf126⟩
  ·refine sz rfl rfl (not_f hb21) (sz rfl rfl (not_f hb21) (sz rfl rfl (not_f hb21) (sz rfl rfl (not_f hb21) (sd rfl (yl_pick_t rfl rfl (not_f hb21) rfl (dn (CW.cond_t rfl rfl (CW.seq ?_))))))))
   refine CW.region (sd rfl (yl_assign rfl rfl (dn (CW.ret (tr (rr rfl (.cons rfl .nil) ?_))))))
   rw [show (i_GoodTable p_0) = (false) by simp only [i_GoodTable, hb16, hb21, cL]]
   exact ⟨rfl, (Ex.trans (Ex.trans (Ex.trans (Ex.refl w) hE12) hE15) hE20)⟩
 ·refine sz rfl rfl (not_f hb16) (sz rfl rfl (not_f hb16) (sz rfl rfl (not_f hb16) (sz rfl rfl (not_f hb16) (sz rfl rfl (not_f hb16) (sd rfl (yl_pick_t rfl rfl (not_f hb16) rfl (sd rfl (yl_move rfl rfl (sz rfl rfl rfl (sz rfl rfl rfl ?_))))))))))
  refine sz rfl rfl rfl (sz rfl rfl rfl (sd rfl (yl_pick_t rfl rfl rfl rfl (dn (CW.cond_t rfl rfl (CW.seq (CW.region (sd rfl (yl_assign rfl rfl ?_)))))))))
  refine dn (CW.ret (tr (rr rfl (.cons rfl .nil) ?_)))
  rw [show (i_GoodTable p_0) = (false) by simp only [i_GoodTable, hb16, cL]]
  exact ⟨rfl, (Ex.trans (Ex.trans (Ex.refl w) hE12) hE15)⟩
theorem c_g_slices_IndexFunc_Write {A1 : Option Addr} {c1 : Nat} {g3 : Nat} {cp4 : List Value} {w : World} (p_s : List DWrite) (p_f : DWrite → Bool) (h1 : RdS w (Iv 0 w.heap.size) (RF e_Write) 3 A1 p_s.length c1 p_s) (hen5 : Go.X.Enters Tryz.prog g3) (hfn6 : ∀ (w1 : World) (y0 : DWrite), Ex w w1 → y0 ∈ p_s → ok_Write y0 → Cal Tryz.prog g3 (([.agg #[.string (bs (y0.Key)), .string (bs (y0.Val)), .bool (y0.Gone)]] : List Value) ++ cp4).toArray w1 fun v w2 => v = .bool (p_f y0) ∧ Ex w1 w2) (o2 : (okL ok_Write) p_s) : Cal Tryz.prog 75 #[.slice A1 p_s.length c1, .func (.func g3) #[] cp4.toArray] w fun v w' => v = .int .i64 ((g_slices_IndexFunc_Write p_s p_f)) ∧ Ex w w' := by
 have hol7 := o2.1
 refine Cal.of func75 rfl ntmps75 rfl (CW.seq (CW.region (sd rfl (yl_assign rfl rfl (dn (CW.seq (CW.seq (CW.region ?_))))))))
 refine sd rfl (yl_move rfl rfl (sd rfl (yl_len un36 rfl rfl (sd rfl (yl_move rfl rfl (dn (CW.block (CW.loop (fun m9 L10 w11 => ∃ (k8 : Nat), m9 = p_s.length - k8 ∧ k8 ≤ p_s.length ∧ w.heap.size ≤ w11.heap.size ∧ Sub [(0, .slice A1 p_s.length c1), (1, .func (.func g3) #[] cp4.toArray), (7, .int .i64 ((p_s.length : Int))), (8, .int .i64 ((k8 : Int)))] L10 ∧ Ex w w11 ∧ loopM (B_g_slices_IndexFunc_Write_0 p_s p_f) (p_s.length - k8) k8 () = loopM (B_g_slices_IndexFunc_Write_0 p_s p_f) (p_s.length - 0) 0 ()) (p_s.length - 0) ?_ ?_))))))))
 ·exact ⟨0, rfl, (by omega), Nat.le_refl _, (sR rfl), (Ex.refl w), rfl⟩
 ·rintro m12 L13 w14 ⟨k8, rfl, hk15, hsz17, hl18, hf19, hI16⟩
  refine CW.sub hl18 ?_
  have hf19z := Ex.size hf19
  have q21 := RdS.ex good_Write h1 hf19
  have hbg20 := RdS.big q21
  rcases Nat.lt_or_ge k8 p_s.length with hlt22 | hlt22
  ·refine CW.seq (CW.region (sd rfl (yl_lss rfl rfl rfl (dn (CW.seq (CW.cond_t rfl (lt_t hlt22) (CW.skip (tn ?_))))))))
   refine CW.seq (CW.block (CW.seq (CW.region (sd rfl (yl_move rfl rfl (sd rfl (yl_assign rfl rfl (dn (CW.seq ?_)))))))))
   refine CW.region (sd rfl (yl_move rfl rfl (sd rfl (yl_move rfl rfl (sd rfl (yl_move rfl rfl ?_))))))
   obtain ⟨_, _, _, eA23, _, ebl23, _, eR23, eC23⟩ := RdS.aD q21 d_Write (i := k8)
   obtain rfl := eR23
   refine sd rfl (yl_ixN un36 ty57 rfl rfl rfl eA23 (sd rfl (yl_loadN ty57 rfl rfl eC23 rfl (sd rfl (yl_callv hen5 rfl rfl (oc rfl oz) (Cal.mono (hfn6 w14 (p_s.getD k8 d_Write) hf19 (getD_mem (by omega)) (okL.getD o2 ok_d_Write _)) ?_))))))
   rintro v25 w24 ⟨rfl, hE26⟩
   have hE26z := Ex.size hE26
   refine dn (bcase (p_f (p_s.getD k8 d_Write)) (fun hb27 => ?_) (fun hb27 => ?_))
   ·refine CW.cond_t rfl hb27 (CW.seq (CW.region (sd rfl (yl_move rfl rfl (sd rfl (yl_assign rfl rfl (dn (CW.ret (br ?_)))))))))
    refine tr (tr ?_)
    have hB29 : B_g_slices_IndexFunc_Write_0 p_s p_f k8 () = .ret (k8 : Int) := by simp only [B_g_slices_IndexFunc_Write_0, hb27, cL]
    have hL28 : loopM (B_g_slices_IndexFunc_Write_0 p_s p_f) (p_s.length - 0) 0 () = .ret (k8 : Int) := hI16.symm.trans (loopM.ret hlt22 hB29)
    refine br (tr (rr rfl (.cons rfl .nil) ?_))
    rw [show (g_slices_IndexFunc_Write p_s p_f) = ((k8 : Int)) by simp only [g_slices_IndexFunc_Write, hb27, hL28, cL]]
    exact ⟨rfl, (Ex.trans hf19 hE26)⟩
   ·refine CW.cond_f rfl hb27 (CW.skip (bn (tn (CW.region (sd rfl (yl_inc rfl rfl rfl (by omega) (sd rfl (yl_move rfl rfl (dn ?_)))))))))
    have hB32 : B_g_slices_IndexFunc_Write_0 p_s p_f k8 () = .cont () := by simp only [B_g_slices_IndexFunc_Write_0, hb27, cL]
    exact ⟨p_s.length - (k8 + 1), by omega, k8 + 1, rfl, hlt22, (by omega), (sR rfl), (Ex.trans hf19 hE26), (loopM.cont hlt22 hB32).symm.trans hI16⟩
  ·refine CW.seq (CW.region (sd rfl (yl_lss rfl rfl rfl (dn (CW.seq (CW.cond_f rfl (lt_f hlt22) (CW.exit (tx ?_))))))))
   refine tx ?_
   have hL34 : loopM (B_g_slices_IndexFunc_Write_0 p_s p_f) (p_s.length - 0) 0 () = .done () := hI16.symm.trans (loopM.stop hlt22)
   refine bx (tn (CW.seq (CW.region (sd rfl (yl_assign rfl rfl (dn (CW.ret (rr rfl (.cons rfl .nil) ?_))))))))
   rw [show (g_slices_IndexFunc_Write p_s p_f) = (-1) by simp only [g_slices_IndexFunc_Write, hL34, cL]]
   exact ⟨rfl, hf19⟩
theorem c_g_slices_ContainsFunc_Write {A1 : Option Addr} {c1 : Nat} {g3 : Nat} {cp4 : List Value} {w : World} (p_s : List DWrite) (p_f : DWrite → Bool) (h1 : RdS w (Iv 0 w.heap.size) (RF e_Write) 3 A1 p_s.length c1 p_s) (hen5 : Go.X.Enters Tryz.prog g3) (hfn6 : ∀ (w1 : World) (y0 : DWrite), Ex w w1 → y0 ∈ p_s → ok_Write y0 → Cal Tryz.prog g3 (([.agg #[.string (bs (y0.Key)), .string (bs (y0.Val)), .bool (y0.Gone)]] : List Value) ++ cp4).toArray w1 fun v w2 => v = .bool (p_f y0) ∧ Ex w1 w2) (o2 : (okL ok_Write) p_s) : Cal Tryz.prog 59 #[.slice A1 p_s.length c1, .func (.func g3) #[] cp4.toArray] w fun v w' => v = .bool ((g_slices_ContainsFunc_Write p_s p_f)) ∧ Ex w w' := by
 refine Cal.of func59 rfl ntmps59 rfl (CW.seq (CW.region (sd rfl (yl_assign rfl rfl (dn (CW.seq (CW.region (sd rfl (yl_move rfl rfl ?_)))))))))
 refine sd rfl (yl_move rfl rfl (sd rfl (yl_call en75 rfl (oc rfl (oc rfl oz)) (Cal.mono (c_g_slices_IndexFunc_Write p_s p_f (RdS.up h1 good_Write) hen5 (fun w1 y0 => fun hE => hfn6 w1 y0 (Ex.trans (Ex.refl w) hE)) o2) ?_))))
 rintro v9 w8 ⟨rfl, hE10⟩
 refine sd rfl (yl_geq rfl rfl rfl (sd rfl (yl_assign rfl rfl (dn (CW.ret (rr rfl (.cons rfl .nil) ?_))))))
 rw [show (g_slices_ContainsFunc_Write p_s p_f) = (decide (0 ≤ (g_slices_IndexFunc_Write p_s p_f))) by simp only [g_slices_ContainsFunc_Write, cL]]
 exact ⟨rfl, (Ex.trans (Ex.refl w) hE10)⟩
theorem c_i_isLowerOrDigit {w : World} (p_b : Int) : Cal Tryz.prog 76 #[.int .u8 (p_b)] w fun v w' => v = .bool ((i_isLowerOrDigit p_b)) ∧ Ex w w' := by
 refine Cal.of func76 rfl ntmps76 rfl (CW.seq (CW.region (sd rfl (yl_assign rfl rfl (dn (CW.seq (CW.region (sd rfl (yl_move rfl rfl ?_)))))))))
 refine sd rfl (yl_geq rfl rfl rfl (sd rfl (yl_move rfl rfl (bcD (q := 97 ≤ p_b) (fun hb1 hb1p => ?_) (fun hb1 hb1p => ?_)))))
 ·refine sy rfl rfl hb1 (yl_move rfl rfl (sy rfl rfl hb1 (yl_leq rfl rfl rfl (sd rfl (yl_pick_t rfl rfl hb1 rfl (sd rfl (yl_move rfl rfl (bcD (q := p_b ≤ 122) (fun hb2 hb2p => ?_) (fun hb2 hb2p => ?_)))))))))
  ·refine sz rfl rfl hb2 (sz rfl rfl hb2 (sz rfl rfl hb2 (sq rfl rfl (sq rfl rfl (sz rfl rfl hb2 (sd rfl (yl_pick_t rfl rfl hb2 rfl (sd rfl (yl_assign rfl rfl (SeqR.done ?_))))))))))
   refine tn (CW.ret (rr rfl (.cons rfl .nil) ?_))
   rw [show (i_isLowerOrDigit p_b) = (true) by simp only [i_isLowerOrDigit, hb1, hb2, cL]]
   exact ⟨rfl, (Ex.refl w)⟩
  ·refine sy rfl rfl hb2 (yl_move rfl rfl (sy rfl rfl hb2 (yl_geq rfl rfl rfl (sy rfl rfl hb2 (yl_move rfl rfl (bcD (q := 48 ≤ p_b) (fun hb4 hb4p => ?_) (fun hb4 hb4p => ?_)))))))
   ·refine sy rfl rfl hb4 (yl_move rfl rfl (sy rfl rfl hb4 (yl_leq rfl rfl rfl (sy rfl rfl hb2 (yl_pick_t rfl rfl hb4 rfl (sd rfl (yl_pick_f rfl rfl hb2 rfl (sd rfl (yl_assign rfl rfl (dn (CW.ret (rr rfl (.cons rfl .nil) ?_))))))))))))
    rw [show (i_isLowerOrDigit p_b) = (decide (p_b ≤ 57)) by simp only [i_isLowerOrDigit, hb1, hb2, hb4, cL]]
    exact ⟨rfl, (Ex.refl w)⟩
   ·refine sz rfl rfl hb4 (sz rfl rfl hb4 (sy rfl rfl hb2 (yl_pick_f rfl rfl hb4 rfl (sd rfl (yl_pick_f rfl rfl hb2 rfl (sd rfl (yl_assign rfl rfl (dn (CW.ret (rr rfl (.cons rfl .nil) ?_))))))))))
    rw [show (i_isLowerOrDigit p_b) = (false) by simp only [i_isLowerOrDigit, hb1, hb2, hb4, cL]]
    exact ⟨rfl, (Ex.refl w)⟩
 ·refine sz rfl rfl hb1 (sz rfl rfl hb1 (sd rfl (yl_pick_f rfl rfl hb1 rfl (sd rfl (yl_move rfl rfl (sy rfl rfl rfl (yl_move rfl rfl (sy rfl rfl rfl (yl_geq rfl rfl rfl (sy rfl rfl rfl (yl_move rfl rfl (bcD (q := 48 ≤ p_b) (fun hb7 hb7p => ?_) (fun hb7 hb7p => ?_)))))))))))))
  ·refine sy rfl rfl hb7 (yl_move rfl rfl (sy rfl rfl hb7 (yl_leq rfl rfl rfl (sy rfl rfl rfl (yl_pick_t rfl rfl hb7 rfl (sd rfl (yl_pick_f rfl rfl rfl rfl (sd rfl (yl_assign rfl rfl (dn (CW.ret (rr rfl (.cons rfl .nil) ?_))))))))))))
   rw [show (i_isLowerOrDigit p_b) = (decide (p_b ≤ 57)) by simp only [i_isLowerOrDigit, hb1, hb7, cL]]
   exact ⟨rfl, (Ex.refl w)⟩
  ·refine sz rfl rfl hb7 (sz rfl rfl hb7 (sy rfl rfl rfl (yl_pick_f rfl rfl hb7 rfl (sd rfl (yl_pick_f rfl rfl rfl rfl (sd rfl (yl_assign rfl rfl (dn (CW.ret (rr rfl (.cons rfl .nil) ?_))))))))))
   rw [show (i_isLowerOrDigit p_b) = (false) by simp only [i_isLowerOrDigit, hb1, hb7, cL]]
   exact ⟨rfl, (Ex.refl w)⟩
theorem c_g_internal_stringslite_IndexByte {w : World} (p_s : Str) (p_c : Int) (o1 : okS p_s) : Cal Tryz.prog 91 #[.string (bs (p_s)), .int .u8 (p_c)] w fun v w' => v = .int .i64 ((g_internal_stringslite_IndexByte p_s p_c)) ∧ Ex w w' := by
 refine Cal.of func91 rfl ntmps91 rfl (CW.seq (CW.region (sd rfl (yl_assign rfl rfl (dn (CW.seq (CW.region (sd rfl (yl_move rfl rfl ?_)))))))))
 refine sd rfl (yl_move rfl rfl (sd rfl (yl_idxB (s := p_s) (c := p_c) Tryz.ex99 rfl (oc rfl (oc rfl oz)) (sd rfl (yl_assign rfl rfl (dn (CW.ret (rr rfl (.cons rfl .nil) ?_))))))))
 rw [show (g_internal_stringslite_IndexByte p_s p_c) = (idxB p_s p_c) by simp only [g_internal_stringslite_IndexByte, cL]]
 exact ⟨rfl, (Ex.refl w)⟩
theorem c_g_strings_IndexByte {w : World} (p_s : Str) (p_c : Int) (o1 : okS p_s) : Cal Tryz.prog 77 #[.string (bs (p_s)), .int .u8 (p_c)] w fun v w' => v = .int .i64 ((g_strings_IndexByte p_s p_c)) ∧ Ex w w' := by
 refine Cal.of func77 rfl ntmps77 rfl (CW.seq (CW.region (sd rfl (yl_assign rfl rfl (dn (CW.seq (CW.region (sd rfl (yl_move rfl rfl ?_)))))))))
 refine sd rfl (yl_move rfl rfl (sd rfl (yl_call en91 rfl (oc rfl (oc rfl oz)) (Cal.mono (c_g_internal_stringslite_IndexByte p_s p_c o1) ?_))))
 rintro v4 w3 ⟨rfl, hE5⟩
 refine sd rfl (yl_assign rfl rfl (dn (CW.ret (rr rfl (.cons rfl .nil) ?_))))
 rw [show (g_strings_IndexByte p_s p_c) = ((g_internal_stringslite_IndexByte p_s p_c)) by simp only [g_strings_IndexByte, cL]]
 exact ⟨rfl, (Ex.trans (Ex.refl w) hE5)⟩
theorem c_i_hasBytes {w : World} (p_s : Str) (p_others : Str) (o1 : okS p_s) (o2 : okS p_others) : Cal Tryz.prog 61 #[.string (bs (p_s)), .string (bs (p_others))] w fun v w' => v = .bool ((i_hasBytes p_s p_others)) ∧ Ex w w' := by
 have hol3 : p_s.length ≤ 1073741824 := o1
 have hol4 : p_others.length ≤ 1073741824 := o2
 refine Cal.of func61 rfl ntmps61 rfl (CW.seq (CW.region (sd rfl (yl_assign rfl rfl (dn (CW.seq (CW.seq (CW.region ?_))))))))
 refine sd rfl (yl_move rfl rfl (sd rfl (yl_slen un9 (a := p_s) rfl rfl (sd rfl (yl_move rfl rfl (dn (CW.block (CW.loop (fun m6 L7 w8 => ∃ (k5 : Nat), m6 = p_s.length - k5 ∧ k5 ≤ p_s.length ∧ w.heap.size ≤ w8.heap.size ∧ Sub [(0, .string (bs (p_s))), (1, .string (bs (p_others))), (7, .int .i64 ((p_s.length : Int))), (8, .int .i64 ((k5 : Int)))] L7 ∧ Ex w w8 ∧ loopM (B_i_hasBytes_0 p_s p_others) (p_s.length - k5) k5 () = loopM (B_i_hasBytes_0 p_s p_others) (p_s.length - 0) 0 ()) (p_s.length - 0) ?_ ?_))))))))
 ·exact ⟨0, rfl, (by omega), Nat.le_refl _, (sR rfl), (Ex.refl w), rfl⟩
 ·rintro m9 L10 w11 ⟨k5, rfl, hk12, hsz14, hl15, hf16, hI13⟩
  refine CW.sub hl15 ?_
  have hf16z := Ex.size hf16
  have hbg17 : p_s.length ≤ 1073741824 := o1
  rcases Nat.lt_or_ge k5 p_s.length with hlt18 | hlt18
  ·refine CW.seq (CW.region (sd rfl (yl_lss rfl rfl rfl (dn (CW.seq (CW.cond_t rfl (lt_t hlt18) (CW.skip (tn ?_))))))))
   refine CW.seq (CW.block (CW.seq (CW.region (sd rfl (yl_move rfl rfl (sd rfl (yl_assign rfl rfl (dn (CW.seq ?_)))))))))
   refine CW.region (sd rfl (yl_move rfl rfl (sd rfl (yl_move rfl rfl (sd rfl (yl_sindexN un9 (a := p_s) rfl rfl rfl (by first | omega | assumption | (simp only [wI] at *; omega)) (sd rfl (yl_call en76 rfl (oc rfl oz) (Cal.mono (c_i_isLowerOrDigit ((p_s.getD k5 0).toNat : Int)) ?_)))))))))
   rintro v20 w19 ⟨rfl, hE21⟩
   have hE21z := Ex.size hE21
   refine sd rfl (yl_not rfl rfl (sd rfl (yl_move rfl rfl (bcase (i_isLowerOrDigit ((p_s.getD k5 0).toNat : Int)) (fun hb22 => ?_) (fun hb22 => ?_)))))
   ·refine sz rfl rfl (not_t hb22) (sz rfl rfl (not_t hb22) (sz rfl rfl (not_t hb22) (sz rfl rfl (not_t hb22) (sz rfl rfl (not_t hb22) (sz rfl rfl (not_t hb22) (sd rfl (yl_pick_f rfl rfl (not_t hb22) rfl (dn ?_))))))))
    refine CW.cond_f rfl rfl (CW.skip (bn (tn (CW.region (sd rfl (yl_inc rfl rfl rfl (by omega) (sd rfl (yl_move rfl rfl (dn ?_)))))))))
    have hB23 : B_i_hasBytes_0 p_s p_others k5 () = .cont () := by simp only [B_i_hasBytes_0, hb22, cL]
    exact ⟨p_s.length - (k5 + 1), by omega, k5 + 1, rfl, hlt18, (by omega), (sR rfl), (Ex.trans hf16 hE21), (loopM.cont hlt18 hB23).symm.trans hI13⟩
   ·refine sy rfl rfl (not_f hb22) (yl_move rfl rfl (sy rfl rfl (not_f hb22) (yl_move rfl rfl (sy rfl rfl (not_f hb22) (yl_move rfl rfl (sy rfl rfl (not_f hb22) (yl_sindexN un9 (a := p_s) rfl rfl rfl (by first | omega | assumption | (simp only [wI] at *; omega)) (sy rfl rfl (not_f hb22) (yl_call en77 rfl (oc rfl (oc rfl oz)) (Cal.mono (c_g_strings_IndexByte p_others ((p_s.getD k5 0).toNat : Int) o2) ?_))))))))))
    rintro v26 w25 ⟨rfl, hE27⟩
    have hE27z := Ex.size hE27
    refine sy rfl rfl (not_f hb22) (yl_lss rfl rfl rfl (sd rfl (yl_pick_t rfl rfl (not_f hb22) rfl (dn (bcD (q := (g_strings_IndexByte p_others ((p_s.getD k5 0).toNat : Int)) < 0) (fun hb28 hb28p => ?_) (fun hb28 hb28p => ?_))))))
    ·refine CW.cond_t rfl hb28 (CW.seq (CW.region (sd rfl (yl_assign rfl rfl (dn (CW.ret (br (tr ?_))))))))
     refine tr ?_
     have hB30 : B_i_hasBytes_0 p_s p_others k5 () = .ret false := by simp only [B_i_hasBytes_0, hb22, hb28, cL]
     have hL29 : loopM (B_i_hasBytes_0 p_s p_others) (p_s.length - 0) 0 () = .ret false := hI13.symm.trans (loopM.ret hlt18 hB30)
     refine br (tr (rr rfl (.cons rfl .nil) ?_))
     rw [show (i_hasBytes p_s p_others) = (false) by simp only [i_hasBytes, hb22, hb28, hL29, cL]]
     exact ⟨rfl, (Ex.trans (Ex.trans hf16 hE21) hE27)⟩
    ·refine CW.cond_f rfl hb28 (CW.skip (bn (tn (CW.region (sd rfl (yl_inc rfl rfl rfl (by omega) (sd rfl (yl_move rfl rfl (dn ?_)))))))))
     have hB34 : B_i_hasBytes_0 p_s p_others k5 () = .cont () := by simp only [B_i_hasBytes_0, hb22, hb28, cL]
     exact ⟨p_s.length - (k5 + 1), by omega, k5 + 1, rfl, hlt18, (by omega), (sR rfl), (Ex.trans (Ex.trans hf16 hE21) hE27), (loopM.cont hlt18 hB34).symm.trans hI13⟩
  ·refine CW.seq (CW.region (sd rfl (yl_lss rfl rfl rfl (dn (CW.seq (CW.cond_f rfl (lt_f hlt18) (CW.exit (tx ?_))))))))
   refine tx ?_
   have hL37 : loopM (B_i_hasBytes_0 p_s p_others) (p_s.length - 0) 0 () = .done () := hI13.symm.trans (loopM.stop hlt18)
   refine bx (tn (CW.seq (CW.region (sd rfl (yl_assign rfl rfl (dn (CW.ret (rr rfl (.cons rfl .nil) ?_))))))))
   rw [show (i_hasBytes p_s p_others) = (true) by simp only [i_hasBytes, hL37, cL]]
   exact ⟨rfl, hf16⟩
theorem c_i_GoodKey {w : World} (p_s : Str) (o1 : okS p_s) : Cal Tryz.prog 89 #[.string (bs (p_s))] w fun v w' => v = .bool ((i_GoodKey p_s)) ∧ Ex w w' := by
 refine Cal.of func89 rfl ntmps89 rfl (CW.seq (CW.region (sd rfl (yl_assign rfl rfl (dn (CW.seq (CW.region (sd rfl (yl_move rfl rfl ?_)))))))))
 refine sd rfl (yl_slen un9 (a := p_s) rfl rfl (sd rfl (yl_call en30 rfl (oc rfl (oc rfl (oc rfl oz))) (Cal.mono (c_i_within (p_s.length : Int) 1 12) ?_))))
 rintro v4 w3 ⟨rfl, hE5⟩
 refine sd rfl (yl_move rfl rfl (bcase (i_within (p_s.length : Int) 1 12) (fun hb6 => ?_) (fun hb6 => ?_)))
 ·have hb6p := f_within hb6
  refine sy rfl rfl hb6 (yl_move rfl rfl (sy rfl rfl hb6 (yl_call en61 rfl (oc rfl (oc rfl oz)) (Cal.mono (c_i_hasBytes p_s ([46, 47] : Str) o1 (okS.lit rfl)) ?_))))
  rintro v8 w7 ⟨rfl, hE9⟩
  refine sd rfl (yl_pick_t rfl rfl hb6 rfl (sd rfl (yl_assign rfl rfl (dn (CW.ret (rr rfl (.cons rfl .nil) ?_))))))
  rw [show (i_GoodKey p_s) = ((i_hasBytes p_s ([46, 47] : Str))) by simp only [i_GoodKey, hb6, cL]]
  exact ⟨rfl, (Ex.trans (Ex.trans (Ex.refl w) hE5) hE9)⟩
 ·refine sz rfl rfl hb6 (sz rfl rfl hb6 (sd rfl (yl_pick_f rfl rfl hb6 rfl (sd rfl (yl_assign rfl rfl (dn (CW.ret (rr rfl (.cons rfl .nil) ?_))))))))
  rw [show (i_GoodKey p_s) = (false) by simp only [i_GoodKey, hb6, cL]]
  exact ⟨rfl, (Ex.trans (Ex.refl w) hE5)⟩
theorem c_i_areRising {A1 : Option Addr} {c1 : Nat} {w : World} (p_keys : List Str) (h1 : RdS w (Iv 0 w.heap.size) (RF e_Str) 1 A1 p_keys.length c1 p_keys) (o2 : (okL okS) p_keys) : Cal Tryz.prog 71 #[.slice A1 p_keys.length c1] w fun v w' => v = .bool ((i_areRising p_keys)) ∧ Ex w w' := by
 have hol3 := o2.1
 refine Cal.of func71 rfl ntmps71 rfl (CW.seq (CW.region (sd rfl (yl_assign rfl rfl (dn (CW.seq (CW.seq (CW.region ?_))))))))
 refine sd rfl (yl_move rfl rfl (sd rfl (yl_len un22 rfl rfl (sd rfl (yl_move rfl rfl (dn (CW.block (CW.loop (fun m5 L6 w7 => ∃ (k4 : Nat), m5 = p_keys.length - k4 ∧ k4 ≤ p_keys.length ∧ w.heap.size ≤ w7.heap.size ∧ Sub [(0, .slice A1 p_keys.length c1), (5, .slice A1 p_keys.length c1), (6, .int .i64 ((p_keys.length : Int))), (7, .int .i64 ((k4 : Int)))] L6 ∧ Ex w w7 ∧ loopM (B_i_areRising_0 p_keys) (p_keys.length - k4) k4 () = loopM (B_i_areRising_0 p_keys) (p_keys.length - 0) 0 ()) (p_keys.length - 0) ?_ ?_))))))))
 ·exact ⟨0, rfl, (by omega), Nat.le_refl _, (sR rfl), (Ex.refl w), rfl⟩
 ·rintro m8 L9 w10 ⟨k4, rfl, hk11, hsz13, hl14, hf15, hI12⟩
  refine CW.sub hl14 ?_
  have hf15z := Ex.size hf15
  have q17 := RdS.ex good_Str h1 hf15
  have hbg16 := RdS.big q17
  rcases Nat.lt_or_ge k4 p_keys.length with hlt18 | hlt18
  ·refine CW.seq (CW.region (sd rfl (yl_lss rfl rfl rfl (dn (CW.seq (CW.cond_t rfl (lt_t hlt18) (CW.skip (tn ?_))))))))
   refine CW.seq (CW.block (CW.seq (CW.region (sd rfl (yl_move rfl rfl ?_)))))
   obtain ⟨_, _, _, eA19, _, ebl19, _, eR19, eC19⟩ := RdS.aD q17 d_Str (i := k4)
   obtain rfl := eR19
   refine sd rfl (yl_ixN un22 ty9 rfl rfl rfl eA19 (sd rfl (yl_load1 ty9 rfl rfl (eC19 0 _ rfl) (sd rfl (yl_assign rfl rfl (sd rfl (yl_assign rfl rfl (dn (CW.seq (CW.region (sd rfl (yl_move rfl rfl ?_))))))))))))
   refine sd rfl (yl_call en89 rfl (oc rfl oz) (Cal.mono (c_i_GoodKey (p_keys.getD k4 d_Str) (okL.getD o2 ok_d_Str _)) ?_))
   rintro v21 w20 ⟨rfl, hE22⟩
   have hE22z := Ex.size hE22
   refine sd rfl (yl_not rfl rfl (sd rfl (yl_move rfl rfl (bcase (i_GoodKey (p_keys.getD k4 d_Str)) (fun hb23 => ?_) (fun hb23 => ?_)))))
   ·refine sy rfl rfl (not_t hb23) (yl_move rfl rfl (sy rfl rfl (not_t hb23) (yl_gtr rfl rfl rfl (sy rfl rfl (not_t hb23) (yl_move rfl rfl (bcD (q := 0 < (k4 : Int)) (fun hb24 hb24p => ?_) (fun hb24 hb24p => ?_)))))))
    ·refine sy rfl rfl hb24 (yl_move rfl rfl (sy rfl rfl hb24 (yl_move rfl rfl (sy rfl rfl hb24 (yl_move rfl rfl (sy rfl rfl hb24 (yl_sub rfl rfl rfl ?_)))))))
     have q25 := Ex.trans hf15 hE22
     obtain ⟨_, _, _, eA27, _, ebl27, _, eR27, eC27⟩ := RdS.atD (RdS.ex good_Str h1 q25) d_Str (i := (IntKind.wrap .i64 ((k4 : Int) - 1)).toNat) (by first | omega | assumption | (simp only [wI] at *; omega))
     obtain rfl := eR27
     refine sy rfl rfl hb24 (yl_indexAddr un22 ty9 rfl rfl rfl eA27 (by first | omega | assumption | (simp only [wI] at *; omega)) (by first | omega | assumption | (simp only [wI] at *; omega)) (sy rfl rfl hb24 (yl_load1 ty9 rfl rfl (eC27 0 _ rfl) (sy rfl rfl hb24 (yl_sleq (a := (p_keys.getD k4 d_Str)) (b := (p_keys.getD ((IntKind.wrap .i64 ((k4 : Int) - 1)).toNat) d_Str)) rfl rfl rfl (sy rfl rfl (not_t hb23) (yl_pick_t rfl rfl hb24 rfl (sd rfl (yl_pick_f rfl rfl (not_t hb23) rfl (dn (bcase (sLe (p_keys.getD k4 d_Str) (p_keys.getD ((IntKind.wrap .i64 ((k4 : Int) - 1)).toNat) d_Str)) (fun hb28 => ?_) (fun hb28 => ?_))))))))))))
     ·refine CW.cond_t rfl hb28 (CW.seq (CW.region (sd rfl (yl_assign rfl rfl (dn (CW.ret (br (tr ?_))))))))
      refine tr ?_
      have hB30 : B_i_areRising_0 p_keys k4 () = .ret false := by simp only [B_i_areRising_0, hb23, hb24, hb28, cL]
      have hL29 : loopM (B_i_areRising_0 p_keys) (p_keys.length - 0) 0 () = .ret false := hI12.symm.trans (loopM.ret hlt18 hB30)
      refine br (tr (rr rfl (.cons rfl .nil) ?_))
      rw [show (i_areRising p_keys) = (false) by simp only [i_areRising, hb23, hb24, hb28, hL29, cL]]
      exact ⟨rfl, q25⟩
     ·refine CW.cond_f rfl hb28 (CW.skip (bn (tn (CW.region (sd rfl (yl_inc rfl rfl rfl (by omega) (sd rfl (yl_move rfl rfl (dn ?_)))))))))
      have hB32 : B_i_areRising_0 p_keys k4 () = .cont () := by simp only [B_i_areRising_0, hb23, hb24, hb28, cL]
      exact ⟨p_keys.length - (k4 + 1), by omega, k4 + 1, rfl, hlt18, (by omega), (sR rfl), q25, (loopM.cont hlt18 hB32).symm.trans hI12⟩
    ·refine sz rfl rfl hb24 (sz rfl rfl hb24 (sz rfl rfl hb24 (sz rfl rfl hb24 (sz rfl rfl hb24 (sz rfl rfl hb24 (sz rfl rfl hb24 (sy rfl rfl (not_t hb23) (yl_pick_f rfl rfl hb24 rfl (sd rfl (yl_pick_f rfl rfl (not_t hb23) rfl ?_))))))))))
     refine dn (CW.cond_f rfl rfl (CW.skip (bn (tn (CW.region (sd rfl (yl_inc rfl rfl rfl (by omega) (sd rfl (yl_move rfl rfl ?_)))))))))
     refine dn ?_
     have hB33 : B_i_areRising_0 p_keys k4 () = .cont () := by simp only [B_i_areRising_0, hb23, hb24, cL]
     exact ⟨p_keys.length - (k4 + 1), by omega, k4 + 1, rfl, hlt18, (by omega), (sR rfl), (Ex.trans hf15 hE22), (loopM.cont hlt18 hB33).symm.trans hI12⟩
   ·refine sz rfl rfl (not_f hb23) (sz rfl rfl (not_f hb23) (sz rfl rfl (not_f hb23) (sq rfl rfl (sq rfl rfl (sq rfl rfl (sq rfl rfl (sq rfl rfl (sq rfl rfl ?_))))))))
    refine sq rfl rfl (sz rfl rfl (not_f hb23) (sd rfl (yl_pick_t rfl rfl (not_f hb23) rfl (dn (CW.cond_t rfl rfl (CW.seq (CW.region (sd rfl (yl_assign rfl rfl ?_)))))))))
    refine dn (CW.ret (br (tr (tr ?_))))
    have hB36 : B_i_areRising_0 p_keys k4 () = .ret false := by simp only [B_i_areRising_0, hb23, cL]
    have hL35 : loopM (B_i_areRising_0 p_keys) (p_keys.length - 0) 0 () = .ret false := hI12.symm.trans (loopM.ret hlt18 hB36)
    refine br (tr (rr rfl (.cons rfl .nil) ?_))
    rw [show (i_areRising p_keys) = (false) by simp only [i_areRising, hb23, hL35, cL]]
    exact ⟨rfl, (Ex.trans hf15 hE22)⟩
  ·refine CW.seq (CW.region (sd rfl (yl_lss rfl rfl rfl (dn (CW.seq (CW.cond_f rfl (lt_f hlt18) (CW.exit (tx ?_))))))))
   refine tx ?_
   have hL39 : loopM (B_i_areRising_0 p_keys) (p_keys.length - 0) 0 () = .done () := hI12.symm.trans (loopM.stop hlt18)
   refine bx (tn (CW.seq (CW.region (sd rfl (yl_assign rfl rfl (dn (CW.ret (rr rfl (.cons rfl .nil) ?_))))))))
   rw [show (i_areRising p_keys) = (true) by simp only [i_areRising, hL39, cL]]
   exact ⟨rfl, hf15⟩
theorem c_i_writeKeys {A1 : Option Addr} {c1 : Nat} {w : World} (p_l : List DWrite) (h1 : RdS w (Iv 0 w.heap.size) (RF e_Write) 3 A1 p_l.length c1 p_l) (o2 : (okL ok_Write) p_l) : Cal Tryz.prog 72 #[.slice A1 p_l.length c1] w fun v w' => ∃ A_1 c_1 lo_1 hi_1, v = .slice A_1 ((i_writeKeys p_l).length) c_1 ∧ OwnL w' lo_1 hi_1 9 1 (RF e_Str) A_1 ((i_writeKeys p_l).length) c_1 (i_writeKeys p_l) ∧ (okL okS) (i_writeKeys p_l) ∧ (w.heap.size ≤ lo_1 ∧ lo_1 ≤ hi_1 ∧ hi_1 ≤ w'.heap.size) ∧ Ex w w' := by
 have hol3 := o2.1
 refine Cal.of func72 rfl ntmps72 rfl (CW.seq (CW.region (sd rfl (yl_assign rfl rfl (dn (CW.seq (CW.region (sd rfl (yl_buildSlice (cs := []) un22 ty9 (by decide) rfl opvs_nil (by kernel_rfl) ?_)))))))))
 intro b4 w5 hs6 hz7 hB8 hE9
 have hO10 : OwnL w5 b4 (b4 + 1) 9 1 (RF e_Str) (some ⟨b4, 0, none⟩) 0 0 ([] : List Str) := oB hB8
 refine sd rfl (yl_assign rfl rfl (dn (CW.seq (CW.seq (CW.region (sd rfl (yl_move rfl rfl (sd rfl (yl_len un36 rfl rfl (sd rfl (yl_move rfl rfl ?_)))))))))))
 refine dn (CW.block (CW.loop (fun m65 L66 w67 => ∃ (k11 : Nat) (x61 : List Str) (A62 : Option Addr) (c63 : Nat) (u64 : Nat), m65 = p_l.length - k11 ∧ k11 ≤ p_l.length ∧ w5.heap.size ≤ w67.heap.size ∧ Sub [(3, .slice A62 x61.length c63), (7, .slice A1 p_l.length c1), (8, .int .i64 ((p_l.length : Int))), (9, .int .i64 ((k11 : Int)))] L66 ∧ OwnL w67 b4 u64 9 1 (RF e_Str) A62 x61.length c63 x61 ∧ Ex w w67 ∧ (b4 ≤ u64 ∧ u64 ≤ w67.heap.size) ∧ x61.length ≤ 0 + 1 * (k11 - 0) ∧ (∀ y ∈ x61, okS y) ∧ loopM (B_i_writeKeys_0 p_l) (p_l.length - k11) k11 (x61) = loopM (B_i_writeKeys_0 p_l) (p_l.length - 0) 0 (([] : List Str))) (p_l.length - 0) ?_ ?_))
 ·exact ⟨0, ([] : List Str), (some ⟨b4, 0, none⟩), 0, (b4 + 1), rfl, (by omega), Nat.le_refl _, (sR rfl), hO10, (Ex.trans (Ex.refl w) hE9), (by omega), (by first | (simp; done) | (first | omega | (simp only [List.length_append, List.length_cons, List.length_nil, List.length_set, toS_length]; omega))), okE.nil, rfl⟩
 ·rintro m69 L70 w71 ⟨k11, x61, A62, c63, u64, rfl, hk72, hsz74, hl75, hf76, hf77, hu78, hln79, hok80, hI73⟩
  refine CW.sub hl75 ?_
  have hf77z := Ex.size hf77
  have q82 := RdS.ex good_Write h1 hf77
  have hbg81 := RdS.big q82
  rcases Nat.lt_or_ge k11 p_l.length with hlt83 | hlt83
  ·refine CW.seq (CW.region (sd rfl (yl_lss rfl rfl rfl (dn (CW.seq (CW.cond_t rfl (lt_t hlt83) (CW.skip (tn ?_))))))))
   refine CW.seq (CW.block (CW.seq (CW.region ?_)))
   obtain ⟨_, _, _, eA84, _, ebl84, _, eR84, eC84⟩ := RdS.aD q82 d_Write (i := k11)
   obtain rfl := eR84
   refine sd rfl (yl_ixN un36 ty57 rfl rfl rfl eA84 (sd rfl (yl_loadN ty57 rfl rfl eC84 rfl (sd rfl (yl_alloc ty57 (cs := [.string (bs (([] : Str))), .string (bs (([] : Str))), .bool (false)]) rfl rfl ?_)))))
   intro b85 w86 hs87 hz88 hB89 hE90
   refine SeqR.u rfl rfl (yl_storeA (vs := [.string (bs ((p_l.getD k11 d_Write).Key)), .string (bs ((p_l.getD k11 d_Write).Val)), .bool ((p_l.getD k11 d_Write).Gone)]) ty57 rfl rfl rfl rfl rfl rfl hB89 rfl ?_)
   intro w91 hB92 hO93
   have hO93z := hO93.size
   refine dn (CW.region (sd rfl (yl_move rfl rfl (sd rfl (yl_fieldAddr fd57_0 rfl rfl (sd rfl (yl_load1 ty9 rfl rfl ((hB92.cell 0).trans rfl) (sd rfl (yl_buildSlice (cs := [.string (bs ((p_l.getD k11 d_Write).Key))]) un22 ty9 (by decide) rfl (oc rfl oz) (by kernel_rfl) ?_)))))))))
   intro b94 w95 hs96 hz97 hB98 hE99
   have hO100 : OwnL w95 b94 (b94 + 1) 9 1 (RF e_Str) (some ⟨b94, 0, none⟩) 1 1 ([(p_l.getD k11 d_Write).Key] : List Str) := OwnL.of_box (S := fun _ => False) hB98 (Nat.le_refl _) (Nat.lt_succ_self _) (EncL.cons (c := [.string (bs ((p_l.getD k11 d_Write).Key))]) rfl rfl EncL.nil) (Nat.le_of_ble_eq_true rfl) (fun h => h) (fun _ h => False.elim h)
   refine sd rfl (yl_appendL (S := (fun _ => False)) (lo := b4) (hi := u64) (xs := x61) (ys := ([(p_l.getD k11 d_Write).Key] : List Str)) good_Str un22 ty9 rfl (Nat.le_of_ble_eq_true rfl) rfl rfl rfl (OwnL.ex good_Str (OwnL.only good_Str (OwnL.ex good_Str hf76 hE90) hO93 (by omega)) hE99) (EncL.cons (c := [.string (bs ((p_l.getD k11 d_Write).Key))]) rfl rfl EncL.nil) (Or.inr ⟨_, _, rfl, rfl, hB98.cells (o := 0) (n := 1) rfl⟩) rfl (by first | omega | (simp only [List.length_append, List.length_cons, List.length_nil, List.length_take, List.length_drop, List.length_replicate, List.length_set, toS_length]; omega)) (by first | omega | (simp only [List.length_append, List.length_cons, List.length_nil, List.length_take, List.length_drop, List.length_replicate, List.length_set, toS_length]; omega)) (by omega) (by omega) (fun _ h _ => False.elim h) (by omega) ?_)
   intro A104 c105 w106 row107 hO108 hG109 hrg110
   have hG109z := hG109.size
   refine sd rfl (yl_assign rfl rfl (SeqR.done (bn (tn (CW.region (sd rfl (yl_inc rfl rfl rfl (by omega) (sd rfl (yl_move rfl rfl (dn ?_))))))))))
   have hB111 : B_i_writeKeys_0 p_l k11 (x61) = .cont ((x61 ++ ([(p_l.getD k11 d_Write).Key] : List Str))) := by simp only [B_i_writeKeys_0, cL]
   exact ⟨p_l.length - (k11 + 1), by omega, k11 + 1, (x61 ++ ([(p_l.getD k11 d_Write).Key] : List Str)), A104, c105, w106.heap.size, rfl, hlt83, (by omega), (sR rfl), hO108, (Below.grown (Ex.trans (Below.only (Ex.trans hf77 hE90) hO93 (by omega)) hE99) hG109 (by omega) (hW hrg110)), (by omega), (by first | omega | (simp only [List.length_append, List.length_cons, List.length_nil, List.length_set, toS_length]; omega)), (okE.append hok80 ((okL.mk (Nat.le_of_ble_eq_true rfl) (okE.cons (okL.getD o2 ok_d_Write _).1 okE.nil))).2), (loopM.cont hlt83 hB111).symm.trans hI73⟩
  ·refine CW.seq (CW.region (sd rfl (yl_lss rfl rfl rfl (dn (CW.seq (CW.cond_f rfl (lt_f hlt83) (CW.exit (tx ?_))))))))
   refine tx ?_
   have hL116 : loopM (B_i_writeKeys_0 p_l) (p_l.length - 0) 0 (([] : List Str)) = .done (x61) := hI73.symm.trans (loopM.stop hlt83)
   refine bx (tn (CW.seq (CW.region (sd rfl (yl_move rfl rfl (sd rfl (yl_assign rfl rfl (dn (CW.ret ?_)))))))))
   refine rr rfl (.cons rfl .nil) ?_
   rw [show (i_writeKeys p_l) = (x61) by simp only [i_writeKeys, hL116, cL]]
   exact ⟨A62, c63, b4, u64, rfl, hf76, (okL.mk (xs := x61) (by first | omega | (simp only [List.length_append, List.length_cons, List.length_nil, List.length_take, List.length_drop, List.length_replicate, List.length_set, toS_length]; omega)) hok80), (by omega), hf77⟩
theorem c_i_GoodVal {w : World} (p_s : Str) (o1 : okS p_s) : Cal Tryz.prog 90 #[.string (bs (p_s))] w fun v w' => v = .bool ((i_GoodVal p_s)) ∧ Ex w w' := by
 refine Cal.of func90 rfl ntmps90 rfl (CW.seq (CW.region (sd rfl (yl_assign rfl rfl (dn (CW.seq (CW.region (sd rfl (yl_move rfl rfl ?_)))))))))
 refine sd rfl (yl_slen un9 (a := p_s) rfl rfl (sd rfl (yl_leq rfl rfl rfl (sd rfl (yl_move rfl rfl (bcD (q := (p_s.length : Int) ≤ 24) (fun hb3 hb3p => ?_) (fun hb3 hb3p => ?_)))))))
 ·refine sy rfl rfl hb3 (yl_move rfl rfl (sy rfl rfl hb3 (yl_call en61 rfl (oc rfl (oc rfl oz)) (Cal.mono (c_i_hasBytes p_s ([46, 45, 44, 95] : Str) o1 (okS.lit rfl)) ?_))))
  rintro v5 w4 ⟨rfl, hE6⟩
  refine sd rfl (yl_pick_t rfl rfl hb3 rfl (sd rfl (yl_assign rfl rfl (dn (CW.ret (rr rfl (.cons rfl .nil) ?_))))))
  rw [show (i_GoodVal p_s) = ((i_hasBytes p_s ([46, 45, 44, 95] : Str))) by simp only [i_GoodVal, hb3, cL]]
  exact ⟨rfl, (Ex.trans (Ex.refl w) hE6)⟩
 ·refine sz rfl rfl hb3 (sz rfl rfl hb3 (sd rfl (yl_pick_f rfl rfl hb3 rfl (sd rfl (yl_assign rfl rfl (dn (CW.ret (rr rfl (.cons rfl .nil) ?_))))))))
  rw [show (i_GoodVal p_s) = (false) by simp only [i_GoodVal, hb3, cL]]
  exact ⟨rfl, (Ex.refl w)⟩
theorem c_i_isStored {w : World} (p_val : Str) (p_gone : Bool) (o1 : okS p_val) : Cal Tryz.prog 74 #[.string (bs (p_val)), .bool (p_gone)] w fun v w' => v = .bool ((i_isStored p_val p_gone)) ∧ Ex w w' := by
 refine Cal.of func74 rfl ntmps74 rfl (CW.seq (CW.region (sd rfl (yl_assign rfl rfl (dn (CW.seq (CW.region (sd rfl (yl_move rfl rfl ?_)))))))))
 refine sd rfl (yl_call en90 rfl (oc rfl oz) (Cal.mono (c_i_GoodVal p_val o1) ?_))
 rintro v4 w3 ⟨rfl, hE5⟩
 refine sd rfl (yl_move rfl rfl (bcase (i_GoodVal p_val) (fun hb6 => ?_) (fun hb6 => ?_)))
 ·refine sy rfl rfl hb6 (yl_move rfl rfl (sy rfl rfl hb6 (yl_move rfl rfl (bcase (p_gone) (fun hb7 => ?_) (fun hb7 => ?_)))))
  ·refine sy rfl rfl hb7 (yl_move rfl rfl (sy rfl rfl hb7 (yl_sneq (a := p_val) (b := ([] : Str)) rfl rfl rfl (sy rfl rfl hb6 (yl_pick_t rfl rfl hb7 rfl (sy rfl rfl hb6 (yl_not rfl rfl (sd rfl (yl_pick_t rfl rfl hb6 rfl (sd rfl (yl_assign rfl rfl (dn (CW.ret ?_)))))))))))))
   refine rr rfl (.cons rfl .nil) ?_
   rw [show (i_isStored p_val p_gone) = (!(!(p_val == ([] : Str)))) by simp only [i_isStored, hb6, hb7, cL]]
   exact ⟨rfl, (Ex.trans (Ex.refl w) hE5)⟩
  ·refine sz rfl rfl hb7 (sz rfl rfl hb7 (sy rfl rfl hb6 (yl_pick_f rfl rfl hb7 rfl (sy rfl rfl hb6 (yl_not rfl rfl (sd rfl (yl_pick_t rfl rfl hb6 rfl (sd rfl (yl_assign rfl rfl (dn (CW.ret ?_)))))))))))
   refine rr rfl (.cons rfl .nil) ?_
   rw [show (i_isStored p_val p_gone) = (!false) by simp only [i_isStored, hb6, hb7, cL]]
   exact ⟨rfl, (Ex.trans (Ex.refl w) hE5)⟩
 ·refine sz rfl rfl hb6 (sz rfl rfl hb6 (sq rfl rfl (sq rfl rfl (sz rfl rfl hb6 (sz rfl rfl hb6 (sd rfl (yl_pick_f rfl rfl hb6 rfl (sd rfl (yl_assign rfl rfl (SeqR.done ?_))))))))))
  refine tn (CW.ret (rr rfl (.cons rfl .nil) ?_))
  rw [show (i_isStored p_val p_gone) = (false) by simp only [i_isStored, hb6, cL]]
  exact ⟨rfl, (Ex.trans (Ex.refl w) hE5)⟩
theorem c_i_GoodWrites_c1 {w : World} (p_w : DWrite) (o1 : ok_Write p_w) : Cal Tryz.prog 73 #[.agg #[.string (bs (p_w.Key)), .string (bs (p_w.Val)), .bool (p_w.Gone)]] w fun v w' => v = .bool ((i_GoodWrites_c1 p_w)) ∧ Ex w w' := by
 refine Cal.of func73 rfl ntmps73 rfl (CW.seq (CW.region (sd rfl (yl_box rfl rfl rfl ?_))))
 intro b4 w5 hs6 hz7 hB8 hE9
 refine sd rfl (yl_assign rfl rfl (dn (CW.seq (CW.region (sd rfl (yl_fieldAddr fd57_1 rfl rfl (sd rfl (yl_load1 ty9 rfl rfl ((hB8.cell 1).trans rfl) (sd rfl (yl_fieldAddr fd57_2 rfl rfl (sd rfl (yl_load1 ty4 rfl rfl ((hB8.cell 2).trans rfl) ?_))))))))))))
 refine sd rfl (yl_call en74 rfl (oc rfl (oc rfl oz)) (Cal.mono (c_i_isStored p_w.Val p_w.Gone o1.2) ?_))
 rintro v11 w10 ⟨rfl, hE12⟩
 refine sd rfl (yl_not rfl rfl (sd rfl (yl_assign rfl rfl (dn (CW.ret (rr rfl (.cons rfl .nil) ?_))))))
 rw [show (i_GoodWrites_c1 p_w) = (!(i_isStored p_w.Val p_w.Gone)) by simp only [i_GoodWrites_c1, cL]]
 exact ⟨rfl, (Ex.trans (Ex.trans (Ex.refl w) hE9) hE12)⟩
theorem c_i_GoodWrites {A1 : Option Addr} {c1 : Nat} {w : World} (p_l : List DWrite) (h1 : RdS w (Iv 0 w.heap.size) (RF e_Write) 3 A1 p_l.length c1 p_l) (o2 : (okL ok_Write) p_l) : Cal Tryz.prog 58 #[.slice A1 p_l.length c1] w fun v w' => v = .bool ((i_GoodWrites p_l)) ∧ Ex w w' := by
 refine Cal.of func58 rfl ntmps58 rfl (CW.seq (CW.region (sd rfl (yl_assign rfl rfl (dn (CW.seq (CW.region (sd rfl (yl_move rfl rfl ?_)))))))))
 refine sd rfl (yl_len un36 rfl rfl (sd rfl (yl_leq rfl rfl rfl (sd rfl (yl_move rfl rfl (bcD (q := (p_l.length : Int) ≤ 24) (fun hb4 hb4p => ?_) (fun hb4 hb4p => ?_)))))))
 ·refine sy rfl rfl hb4 (yl_move rfl rfl (sy rfl rfl hb4 (yl_call en72 rfl (oc rfl oz) (Cal.mono (c_i_writeKeys p_l (RdS.up h1 good_Write) o2) ?_))))
  rintro v8 w5 ⟨A6, c6, lo6, hi6, rfl, h6, ho7, hrn10, hE9⟩
  refine sy rfl rfl hb4 (yl_call en71 rfl (oc rfl oz) (Cal.mono (c_i_areRising (i_writeKeys p_l) (RdS.up (OwnL.rd good_Str h6) good_Str) ho7) ?_))
  rintro v13 w12 ⟨rfl, hE14⟩
  refine sd rfl (yl_pick_t rfl rfl hb4 rfl (sd rfl (yl_move rfl rfl (bcase (i_areRising (i_writeKeys p_l)) (fun hb15 => ?_) (fun hb15 => ?_)))))
  ·refine sy rfl rfl hb15 (yl_move rfl rfl ?_)
   have q17 := Ex.trans (Ex.trans (Ex.refl w) hE9) hE14
   refine sy rfl rfl hb15 (yl_call en59 rfl (oc rfl (oc rfl oz)) (Cal.mono (c_g_slices_ContainsFunc_Write p_l (fun y0 => i_GoodWrites_c1 y0) (RdS.up (RdS.ex good_Write h1 q17) good_Write) en73 (fun _ y0 => fun hE hm0 ov0 => c_i_GoodWrites_c1 y0 ov0) o2) ?_))
   rintro v20 w19 ⟨rfl, hE21⟩
   refine sy rfl rfl hb15 (yl_not rfl rfl (sd rfl (yl_pick_t rfl rfl hb15 rfl (sd rfl (yl_assign rfl rfl (dn (CW.ret (rr rfl (.cons rfl .nil) ?_))))))))
   rw [show (i_GoodWrites p_l) = (!(g_slices_ContainsFunc_Write p_l (fun y0 => i_GoodWrites_c1 y0))) by simp only [i_GoodWrites, hb4, hb15, cL]]
   exact ⟨rfl, (Ex.trans q17 hE21)⟩
  ·refine sz rfl rfl hb15 (sz rfl rfl hb15 (sz rfl rfl hb15 (sd rfl (yl_pick_f rfl rfl hb15 rfl (sd rfl (yl_assign rfl rfl (dn (CW.ret (rr rfl (.cons rfl .nil) ?_)))))))))
   rw [show (i_GoodWrites p_l) = (false) by simp only [i_GoodWrites, hb4, hb15, cL]]
   exact ⟨rfl, (Ex.trans (Ex.trans (Ex.refl w) hE9) hE14)⟩
 ·refine sz rfl rfl hb4 (sz rfl rfl hb4 (sz rfl rfl hb4 (sd rfl (yl_pick_f rfl rfl hb4 rfl (sd rfl (yl_move rfl rfl (sz rfl rfl rfl (sz rfl rfl rfl (sz rfl rfl rfl (sd rfl (yl_pick_f rfl rfl rfl rfl ?_)))))))))))
  refine sd rfl (yl_assign rfl rfl (dn (CW.ret (rr rfl (.cons rfl .nil) ?_))))
  rw [show (i_GoodWrites p_l) = (false) by simp only [i_GoodWrites, hb4, cL]]
  exact ⟨rfl, (Ex.refl w)⟩
theorem c_i_isRows_c1 {w : World} (p_w : DWrite) (o1 : ok_Write p_w) : Cal Tryz.prog 60 #[.agg #[.string (bs (p_w.Key)), .string (bs (p_w.Val)), .bool (p_w.Gone)]] w fun v w' => v = .bool ((i_isRows_c1 p_w)) ∧ Ex w w' := by
 refine Cal.of func60 rfl ntmps60 rfl (CW.seq (CW.region (sd rfl (yl_box rfl rfl rfl ?_))))
 intro b4 w5 hs6 hz7 hB8 hE9
 refine sd rfl (yl_assign rfl rfl (dn (CW.seq (CW.region (sd rfl (yl_fieldAddr fd57_2 rfl rfl (sd rfl (yl_load1 ty4 rfl rfl ((hB8.cell 2).trans rfl) (sd rfl (yl_assign rfl rfl (SeqR.done ?_)))))))))))
 refine tn (CW.ret (rr rfl (.cons rfl .nil) ?_))
 rw [show (i_isRows_c1 p_w) = (p_w.Gone) by simp only [i_isRows_c1, cL]]
 exact ⟨rfl, (Ex.trans (Ex.refl w) hE9)⟩
theorem c_i_isRows {A1 : Option Addr} {c1 : Nat} {w : World} (p_rows : List DWrite) (h1 : RdS w (Iv 0 w.heap.size) (RF e_Write) 3 A1 p_rows.length c1 p_rows) (o2 : (okL ok_Write) p_rows) : Cal Tryz.prog 29 #[.slice A1 p_rows.length c1] w fun v w' => v = .bool ((i_isRows p_rows)) ∧ Ex w w' := by
 refine Cal.of func29 rfl ntmps29 rfl (CW.seq (CW.region (sd rfl (yl_assign rfl rfl (dn (CW.seq (CW.region (sd rfl (yl_move rfl rfl ?_)))))))))
 refine sd rfl (yl_call en58 rfl (oc rfl oz) (Cal.mono (c_i_GoodWrites p_rows (RdS.up h1 good_Write) o2) ?_))
 rintro v5 w4 ⟨rfl, hE6⟩
 refine sd rfl (yl_move rfl rfl (bcase (i_GoodWrites p_rows) (fun hb7 => ?_) (fun hb7 => ?_)))
 ·refine sy rfl rfl hb7 (yl_move rfl rfl ?_)
  have q8 := Ex.trans (Ex.refl w) hE6
  refine sy rfl rfl hb7 (yl_call en59 rfl (oc rfl (oc rfl oz)) (Cal.mono (c_g_slices_ContainsFunc_Write p_rows (fun y0 => i_isRows_c1 y0) (RdS.up (RdS.ex good_Write h1 q8) good_Write) en60 (fun _ y0 => fun hE hm0 ov0 => c_i_isRows_c1 y0 ov0) o2) ?_))
  rintro v11 w10 ⟨rfl, hE12⟩
  refine sy rfl rfl hb7 (yl_not rfl rfl (sd rfl (yl_pick_t rfl rfl hb7 rfl (sd rfl (yl_assign rfl rfl (dn (CW.ret (rr rfl (.cons rfl .nil) ?_))))))))
  rw [show (i_isRows p_rows) = (!(g_slices_ContainsFunc_Write p_rows (fun y0 => i_isRows_c1 y0))) by simp only [i_isRows, hb7, cL]]
  exact ⟨rfl, (Ex.trans q8 hE12)⟩
 ·refine sz rfl rfl hb7 (sz rfl rfl hb7 (sz rfl rfl hb7 (sd rfl (yl_pick_f rfl rfl hb7 rfl (sd rfl (yl_assign rfl rfl (dn (CW.ret (rr rfl (.cons rfl .nil) ?_)))))))))
  rw [show (i_isRows p_rows) = (false) by simp only [i_isRows, hb7, cL]]
  exact ⟨rfl, (Ex.trans (Ex.refl w) hE6)⟩
theorem c_i_isField {w : World} (p_s : Str) (o1 : okS p_s) : Cal Tryz.prog 31 #[.string (bs (p_s))] w fun v w' => v = .bool ((i_isField p_s)) ∧ Ex w w' := by
 refine Cal.of func31 rfl ntmps31 rfl (CW.seq (CW.region (sd rfl (yl_assign rfl rfl (dn (CW.seq (CW.region (sd rfl (yl_move rfl rfl ?_)))))))))
 refine sd rfl (yl_slen un9 (a := p_s) rfl rfl (sd rfl (yl_call en30 rfl (oc rfl (oc rfl (oc rfl oz))) (Cal.mono (c_i_within (p_s.length : Int) 1 3) ?_))))
 rintro v4 w3 ⟨rfl, hE5⟩
 refine sd rfl (yl_move rfl rfl (bcase (i_within (p_s.length : Int) 1 3) (fun hb6 => ?_) (fun hb6 => ?_)))
 ·have hb6p := f_within hb6
  refine sy rfl rfl hb6 (yl_move rfl rfl (sy rfl rfl hb6 (yl_call en61 rfl (oc rfl (oc rfl oz)) (Cal.mono (c_i_hasBytes p_s ([] : Str) o1 (okS.lit rfl)) ?_))))
  rintro v8 w7 ⟨rfl, hE9⟩
  refine sd rfl (yl_pick_t rfl rfl hb6 rfl (sd rfl (yl_assign rfl rfl (dn (CW.ret (rr rfl (.cons rfl .nil) ?_))))))
  rw [show (i_isField p_s) = ((i_hasBytes p_s ([] : Str))) by simp only [i_isField, hb6, cL]]
  exact ⟨rfl, (Ex.trans (Ex.trans (Ex.refl w) hE5) hE9)⟩
 ·refine sz rfl rfl hb6 (sz rfl rfl hb6 (sd rfl (yl_pick_f rfl rfl hb6 rfl (sd rfl (yl_assign rfl rfl (dn (CW.ret (rr rfl (.cons rfl .nil) ?_))))))))
  rw [show (i_isField p_s) = (false) by simp only [i_isField, hb6, cL]]
  exact ⟨rfl, (Ex.trans (Ex.refl w) hE5)⟩
theorem c_g_slices_IndexFunc_Row {A1 : Option Addr} {c1 : Nat} {g3 : Nat} {cp4 : List Value} {w : World} (p_s : List DRow) (p_f : DRow → Bool) (h1 : RdS w (Iv 0 w.heap.size) R_Row 1 A1 p_s.length c1 p_s) (hen5 : Go.X.Enters Tryz.prog g3) (hfn6 : ∀ (w1 : World) (y0 : DRow) {A7 : Option Addr} {c7 : Nat}, Ex w w1 → y0 ∈ p_s → RdS w1 (Iv 0 w1.heap.size) (RF e_Str) 1 A7 y0.Vals.length c7 y0.Vals → ok_Row y0 → Cal Tryz.prog g3 (([.agg #[.slice A7 y0.Vals.length c7]] : List Value) ++ cp4).toArray w1 fun v w2 => v = .bool (p_f y0) ∧ Ex w1 w2) (o2 : (okL ok_Row) p_s) : Cal Tryz.prog 62 #[.slice A1 p_s.length c1, .func (.func g3) #[] cp4.toArray] w fun v w' => v = .int .i64 ((g_slices_IndexFunc_Row p_s p_f)) ∧ Ex w w' := by
 have hol8 := o2.1
 refine Cal.of func62 rfl ntmps62 rfl (CW.seq (CW.region (sd rfl (yl_assign rfl rfl (dn (CW.seq (CW.seq (CW.region ?_))))))))
 refine sd rfl (yl_move rfl rfl (sd rfl (yl_len un29 rfl rfl (sd rfl (yl_move rfl rfl (dn (CW.block (CW.loop (fun m10 L11 w12 => ∃ (k9 : Nat), m10 = p_s.length - k9 ∧ k9 ≤ p_s.length ∧ w.heap.size ≤ w12.heap.size ∧ Sub [(0, .slice A1 p_s.length c1), (1, .func (.func g3) #[] cp4.toArray), (7, .int .i64 ((p_s.length : Int))), (8, .int .i64 ((k9 : Int)))] L11 ∧ Ex w w12 ∧ loopM (B_g_slices_IndexFunc_Row_0 p_s p_f) (p_s.length - k9) k9 () = loopM (B_g_slices_IndexFunc_Row_0 p_s p_f) (p_s.length - 0) 0 ()) (p_s.length - 0) ?_ ?_))))))))
 ·exact ⟨0, rfl, (by omega), Nat.le_refl _, (sR rfl), (Ex.refl w), rfl⟩
 ·rintro m13 L14 w15 ⟨k9, rfl, hk16, hsz18, hl19, hf20, hI17⟩
  refine CW.sub hl19 ?_
  have hf20z := Ex.size hf20
  have q22 := RdS.ex good_Row h1 hf20
  have hbg21 := RdS.big q22
  rcases Nat.lt_or_ge k9 p_s.length with hlt23 | hlt23
  ·refine CW.seq (CW.region (sd rfl (yl_lss rfl rfl rfl (dn (CW.seq (CW.cond_t rfl (lt_t hlt23) (CW.skip (tn ?_))))))))
   refine CW.seq (CW.block (CW.seq (CW.region (sd rfl (yl_move rfl rfl (sd rfl (yl_assign rfl rfl (dn (CW.seq ?_)))))))))
   refine CW.region (sd rfl (yl_move rfl rfl (sd rfl (yl_move rfl rfl (sd rfl (yl_move rfl rfl ?_))))))
   obtain ⟨_, _, _, eA24, _, ebl24, _, eR24, eC24⟩ := RdS.aD q22 d_Row (i := k9)
   obtain ⟨A25, c25, rfl, h25⟩ := eR24
   refine sd rfl (yl_ixN un29 ty61 rfl rfl rfl eA24 (sd rfl (yl_loadN ty61 rfl rfl eC24 rfl (sd rfl (yl_callv hen5 rfl rfl (oc rfl oz) (Cal.mono (hfn6 w15 (p_s.getD k9 d_Row) hf20 (getD_mem (by omega)) (RdS.up h25 good_Str) (okL.getD o2 ok_d_Row _)) ?_))))))
   rintro v27 w26 ⟨rfl, hE28⟩
   have hE28z := Ex.size hE28
   refine dn (bcase (p_f (p_s.getD k9 d_Row)) (fun hb29 => ?_) (fun hb29 => ?_))
   ·refine CW.cond_t rfl hb29 (CW.seq (CW.region (sd rfl (yl_move rfl rfl (sd rfl (yl_assign rfl rfl (dn (CW.ret (br ?_)))))))))
    refine tr (tr ?_)
    have hB31 : B_g_slices_IndexFunc_Row_0 p_s p_f k9 () = .ret (k9 : Int) := by simp only [B_g_slices_IndexFunc_Row_0, hb29, cL]
    have hL30 : loopM (B_g_slices_IndexFunc_Row_0 p_s p_f) (p_s.length - 0) 0 () = .ret (k9 : Int) := hI17.symm.trans (loopM.ret hlt23 hB31)
    refine br (tr (rr rfl (.cons rfl .nil) ?_))
    rw [show (g_slices_IndexFunc_Row p_s p_f) = ((k9 : Int)) by simp only [g_slices_IndexFunc_Row, hb29, hL30, cL]]
    exact ⟨rfl, (Ex.trans hf20 hE28)⟩
   ·refine CW.cond_f rfl hb29 (CW.skip (bn (tn (CW.region (sd rfl (yl_inc rfl rfl rfl (by omega) (sd rfl (yl_move rfl rfl (dn ?_)))))))))
    have hB34 : B_g_slices_IndexFunc_Row_0 p_s p_f k9 () = .cont () := by simp only [B_g_slices_IndexFunc_Row_0, hb29, cL]
    exact ⟨p_s.length - (k9 + 1), by omega, k9 + 1, rfl, hlt23, (by omega), (sR rfl), (Ex.trans hf20 hE28), (loopM.cont hlt23 hB34).symm.trans hI17⟩
  ·refine CW.seq (CW.region (sd rfl (yl_lss rfl rfl rfl (dn (CW.seq (CW.cond_f rfl (lt_f hlt23) (CW.exit (tx ?_))))))))
   refine tx ?_
   have hL36 : loopM (B_g_slices_IndexFunc_Row_0 p_s p_f) (p_s.length - 0) 0 () = .done () := hI17.symm.trans (loopM.stop hlt23)
   refine bx (tn (CW.seq (CW.region (sd rfl (yl_assign rfl rfl (dn (CW.ret (rr rfl (.cons rfl .nil) ?_))))))))
   rw [show (g_slices_IndexFunc_Row p_s p_f) = (-1) by simp only [g_slices_IndexFunc_Row, hL36, cL]]
   exact ⟨rfl, hf20⟩
theorem getD_self {α : Type} (d : α) (l : List α) : (List.range l.length).map (fun i => l.getD i d) = l := by
  refine List.ext_getElem (by rw [List.length_map, List.length_range]) fun i h1 h2 => ?_
  rw [List.getElem_map, List.getElem_range, List.getD_eq_getElem?_getD, List.getElem?_eq_getElem h2]; rfl
theorem row_at {w : World} {lo hi l2 h2 n : Nat} {vf : Nat → Nat × Nat} {cl : Nat → Value} {xf : Nat → DRow} (hE : ElI RO_Row w lo hi l2 h2 n vf cl xf) {w1 : World} (hM : Mut [(l2, h2)] w w1) {i : Nat} (hi' : i < n) : ∃ A c, cl i = .slice A (xf i).Vals.length c ∧ RdS w1 (Iv 0 w1.heap.size) (RF e_Str) 1 A (xf i).Vals.length c (xf i).Vals := by
  obtain ⟨_, _, h, _⟩ := (hE.mut goodO_Row hM) i hi'
  obtain ⟨A, c, e, h⟩ := goodO_Row.rd h
  simp only [List.cons.injEq, and_true] at e
  exact ⟨A, c, e, RdS.up h good_Str⟩
theorem c_g_slices_DeleteFunc_Row {A1 : Option Addr} {c1 : Nat} {lo1 hi1 : Nat} {g3 : Nat} {cp4 : List Value} {w : World} (p_s : List DRow) (p_f : DRow → Bool) (h1 : OwnU w lo1 hi1 61 1 RO_Row A1 p_s.length c1 p_s) (hen5 : Go.X.Enters Tryz.prog g3) (hfn6 : ∀ (w1 : World) (y0 : DRow) {A71 : Option Addr} {c71 : Nat}, Mut [(lo1, hi1)] w w1 → y0 ∈ p_s → RdS w1 (Iv 0 w1.heap.size) (RF e_Str) 1 A71 y0.Vals.length c71 y0.Vals → ok_Row y0 → Cal Tryz.prog g3 (([.agg #[.slice A71 y0.Vals.length c71]] : List Value) ++ cp4).toArray w1 fun v w2 => v = .bool (p_f y0) ∧ Ex w1 w2) (hrn7 : (0 ≤ lo1 ∧ lo1 ≤ hi1 ∧ hi1 ≤ w.heap.size)) (o2 : (okL ok_Row) p_s) : Cal Tryz.prog 32 #[.slice A1 p_s.length c1, .func (.func g3) #[] cp4.toArray] w fun v w' => ∃ A_1 c_1, v = .slice A_1 ((g_slices_DeleteFunc_Row p_s p_f).length) c_1 ∧ OwnU w' lo1 hi1 61 1 RO_Row A_1 ((g_slices_DeleteFunc_Row p_s p_f).length) c_1 (g_slices_DeleteFunc_Row p_s p_f) ∧ (okL ok_Row) (g_slices_DeleteFunc_Row p_s p_f) ∧ Mut [(lo1, hi1)] w w' := by
  have hn := o2.1
  have hok : (okL ok_Row) (g_slices_DeleteFunc_Row p_s p_f) := ⟨Nat.le_trans (List.length_filter_le _ _) o2.1, fun x hx => o2.2 x (List.mem_filter.1 hx).1⟩
  have hrd : RdS w (Iv 0 w.heap.size) R_Row 1 A1 p_s.length c1 p_s := RdS.up (OwnL.rd good_Row (OwnU.own goodO_Row good_Row h1)) good_Row
  obtain ⟨cl, l2, h2, vf, hcl, -, hO1, hr2, hE⟩ := OwnU.toN d_Row goodO_Row hrn7.2.1 h1
  have hup : ∀ w1, Mut [(l2, h2)] w w1 → Mut [(lo1, hi1)] w w1 := fun w1 h => Mut.mut (Mut.refl w) h fun k hk => by simp only [InR, or_false] at hk ⊢; omega
  have hself := getD_self d_Row p_s
  have hnd : ∀ q : Nat → Bool, ((List.range p_s.length).filter q).Nodup ∧ ∀ i ∈ (List.range p_s.length).filter q, i < p_s.length := fun q => ⟨List.Nodup.sublist List.filter_sublist List.nodup_range, fun i hi => List.mem_range.1 (List.mem_filter.1 hi).1⟩
  have hrl : (List.range p_s.length).length = p_s.length := List.length_range
  have hgr : ∀ j, j < p_s.length → (List.range p_s.length).getD j d_Opq = j := fun j hj => by rw [List.getD_eq_getElem?_getD, List.getElem?_eq_getElem (by omega), List.getElem_range]; rfl
  have hmodel : g_slices_DeleteFunc_Row p_s p_f = ((List.range p_s.length).filter fun i => !p_f (p_s.getD i d_Row)).map fun i => p_s.getD i d_Row := by
    show p_s.filter _ = _
    conv => lhs; rw [← hself]
    rw [List.filter_map]; rfl
  refine Cal.of func32 rfl ntmps32 rfl (CW.seq (CW.region (sd rfl (yl_assign rfl rfl (dn (CW.seq (CW.region (sd rfl (yl_move rfl rfl (sd rfl (yl_move rfl rfl (sd rfl (yl_call en62 rfl (oc rfl (oc rfl oz)) (Cal.mono (c_g_slices_IndexFunc_Row p_s p_f hrd hen5 (fun w1 y0 => fun hE => hfn6 w1 y0 (Mut.ex (Mut.refl w) hE)) o2) ?_))))))))))))))
  rintro v7 w8 ⟨rfl, hE9⟩
  refine sd rfl (yl_assign rfl rfl (dn (CW.seq (CW.seq (CW.region (sd rfl (yl_move rfl rfl (sd rfl (yl_eql rfl rfl rfl (dn (bcase (decide (g_slices_IndexFunc_Row p_s p_f = -1)) (fun hb => ?_) (fun hb => ?_))))))))))))
  · have hbp := dec_t hb
    refine CW.cond_t rfl hb (CW.seq (CW.region (sd rfl (yl_move rfl rfl (sd rfl (yl_assign rfl rfl (dn (CW.ret (tr (rr rfl (.cons rfl .nil) ?_))))))))))
    have hx : ∀ x ∈ p_s, p_f x = false := by
      rcases idxF_spec p_f d_Row p_s with ⟨_, h⟩ | ⟨k, _, h, _⟩
      · exact h
      · rw [show g_slices_IndexFunc_Row p_s p_f = idxF p_f d_Row p_s from rfl, h] at hbp; omega
    have hM : (g_slices_DeleteFunc_Row p_s p_f) = p_s := filter_none hx
    rw [hM]
    exact ⟨_, _, rfl, OwnU.ex goodO_Row h1 hE9, o2, Mut.ex (Mut.refl w) hE9⟩
  · have hbp := dec_f hb
    obtain ⟨i0, hi0, hS⟩ : ∃ i0 : Nat, g_slices_IndexFunc_Row p_s p_f = (i0 : Int) ∧ DF (fun q : Nat => p_f (p_s.getD q d_Row)) (List.range p_s.length) (List.range p_s.length) i0 (i0 + 1) := by
      rcases idxF_spec p_f d_Row p_s with ⟨h, _⟩ | ⟨k, hk, h, ht, hbef⟩
      · exact absurd h hbp
      · refine ⟨k, h, DF.start (by rw [hrl]; exact hk) ?_ fun j hj => ?_⟩
        · rw [List.getElem_range, List.getD_eq_getElem?_getD, List.getElem?_eq_getElem hk]; exact ht
        · have := hbef j hj
          rw [List.getElem_range, List.getD_eq_getElem?_getD, List.getElem?_eq_getElem (by omega)]; exact this
    have hw : IntKind.wrap .i64 (g_slices_IndexFunc_Row p_s p_f + 1) = ((i0 + 1 : Nat) : Int) := by rw [hi0, wrap_in (by have := hS.le; omega)]; rfl
    refine CW.cond_f rfl hb (CW.skip (tn (CW.seq (CW.seq (CW.region (sd rfl (yl_move rfl rfl (sd rfl (yl_add rfl rfl rfl (sd rfl (yl_assign rfl rfl (dn (CW.block (CW.loop (fun m L w2 => ∃ (i j : Nat) (xs : List Nat), p_s.length - j < m ∧ w.heap.size ≤ w2.heap.size ∧ lkp L 0 = some (.slice A1 p_s.length c1) ∧ lkp L 1 = some (.func (.func g3) #[] cp4.toArray) ∧ lkp L 5 = some (.int .i64 (i : Int)) ∧ lkp L 6 = some (.int .i64 (j : Int)) ∧ OwnL w2 l2 h2 61 1 (RF (e_Opq cl)) A1 p_s.length c1 xs ∧ Mut [(l2, h2)] w w2 ∧ DF (fun q : Nat => p_f (p_s.getD q d_Row)) (List.range p_s.length) xs i j) (p_s.length + 1) ?_ ?_))))))))))))))
    · exact ⟨i0, i0 + 1, _, by omega, Ex.size hE9, rfl, rfl, by rw [← hi0]; rfl, by rw [← hw]; rfl, OwnL.ex (good_Opq hcl) hO1 hE9, Mut.ex (Mut.refl w) hE9, hS⟩
    · rintro m L w2 ⟨i, j, xs, hm, hsz, hl0, hl1, hl5, hl6, hO, hM, hD⟩
      have hij := hD.lt
      have hjn := hD.le
      refine CW.sub (Sub.cons hl0 (Sub.cons hl1 (Sub.cons hl5 (Sub.cons hl6 (Sub.nil _))))) ?_
      refine CW.seq (CW.seq (CW.region (sd rfl (yl_move rfl rfl (sd rfl (yl_move rfl rfl (sd rfl (yl_len un29 rfl rfl (sd rfl (yl_lss rfl rfl rfl (dn (bcase (decide ((j : Int) < (p_s.length : Int))) (fun hb2 => ?_) (fun hb2 => ?_)))))))))))))
      · have hj : j < p_s.length := by have := dec_t hb2; omega
        obtain ⟨eb, eo, ec, eA, _, ebl, _, eR, eC⟩ := RdS.atD (OwnL.rd (good_Opq hcl) hO) d_Opq (i := j) (by omega)
        have eC : Cells w2 eb (eo + j * 1) [cl j] := by rw [hD.get (by omega), hgr j hj] at eR; have e : ec = [cl j] := eR; rw [← e]; exact eC
        refine CW.cond_t rfl hb2 (CW.skip (tn (CW.seq (CW.block (CW.seq (CW.region (sd rfl (yl_move rfl rfl (sd rfl (yl_move rfl rfl (sd rfl (yl_indexAddrN un29 ty61 rfl rfl rfl eA (by omega) (sd rfl (yl_loadN (cs := [cl j]) ty61 rfl rfl eC rfl (sd rfl (yl_alloc ty61 (cs := [.slice none 0 0]) rfl rfl ?_))))))))))))))))
        intro bv wv hsv hzv hBv hEv
        refine SeqR.u rfl rfl (yl_store (vs := [cl j]) ty61 rfl rfl rfl rfl rfl (all_Opq hcl j) hBv (Nat.le_of_ble_eq_true rfl) ?_)
        intro wu hBu hOu
        have hBu : Box wu bv 61 [cl j] := hBu
        have hOuz := hOu.size
        have hEvz := Ex.size hEv
        have hbhi : h2 ≤ bv := by omega
        have hOl := OwnL.only (good_Opq hcl) (OwnL.ex (good_Opq hcl) hO hEv) hOu (.inr hbhi)
        have hMu := Mut.new (Mut.ex hM hEv) hOu (.inr (by omega))
        obtain ⟨A9, c9, he9, hr9⟩ := row_at hE hMu hj
        have hcall := hfn6 wu (p_s.getD j d_Row) (A71 := A9) (c71 := c9) (hup _ hMu) (getD_mem hj) hr9 (okL.getD o2 ok_d_Row _)
        rw [← he9] at hcall
        refine dn (CW.seq (CW.region ?_))
        refine sd rfl (yl_move rfl rfl (sd rfl (yl_loadN (cs := [cl j]) ty61 rfl rfl (hBu.cells (o := 0) (n := 1) rfl) rfl (sd rfl (yl_callv hen5 rfl rfl (oc rfl oz) (Cal.mono hcall ?_))))))
        rintro v w3 ⟨rfl, hE3⟩
        have hE3z := Ex.size hE3
        refine sd rfl (yl_not rfl rfl (dn (bcase (p_f (p_s.getD j d_Row)) (fun hb3 => ?_) (fun hb3 => ?_))))
        · refine CW.cond_f rfl (not_t hb3) (CW.skip (bn (tn (CW.region (sd rfl (yl_move rfl rfl (sd rfl (yl_add rfl rfl rfl (sd rfl (yl_assign rfl rfl (SeqR.done (tn ?_))))))))))))
          exact ⟨m - 1, by omega, i, j + 1, xs, by omega, by omega, rfl, rfl, rfl, by rw [← show IntKind.wrap .i64 ((j : Int) + 1) = ((j + 1 : Nat) : Int) from wrap_in (by omega)]; rfl, OwnL.ex (good_Opq hcl) hOl hE3, Mut.ex hMu hE3, hD.gone (by omega) (by rw [hgr j hj]; exact hb3)⟩
        · have hO3 := OwnL.ex (good_Opq hcl) hOl hE3
          have hB3 := Box.ex hBu hE3
          obtain ⟨fb, fo, fc, fA, _, fbl, _, _, _⟩ := RdS.atD (OwnL.rd (good_Opq hcl) hO3) d_Opq (i := i) (by omega)
          refine CW.cond_t rfl (not_f hb3) (CW.seq (CW.region (sd rfl (yl_move rfl rfl (sd rfl (yl_move rfl rfl (sd rfl (yl_loadN (cs := [cl j]) ty61 rfl rfl (hB3.cells (o := 0) (n := 1) rfl) rfl (sd rfl (yl_indexAddrN un29 ty61 rfl rfl rfl fA (show i < p_s.length by omega) (SeqR.u rfl rfl (yl_storeF (enc := e_Opq cl) (i := i) (d := 0) (x' := j) (dx := d_Opq) ty61 rfl hO3 fA rfl rfl (vs := [cl j]) rfl rfl (all_Opq hcl j) (by omega) (Nat.le_of_ble_eq_true rfl) rfl rfl ?_))))))))))))
          intro w4 hO4 hN4
          refine dn (CW.region (sd rfl (yl_move rfl rfl (sd rfl (yl_add rfl rfl rfl (sd rfl (yl_assign rfl rfl (SeqR.done (bn (tn (CW.region (sd rfl (yl_move rfl rfl (sd rfl (yl_add rfl rfl rfl (sd rfl (yl_assign rfl rfl (SeqR.done (tn ?_)))))))))))))))))))
          exact ⟨m - 1, by omega, i + 1, j + 1, _, by omega, by rw [hN4.size]; omega, rfl, rfl, by rw [← show IntKind.wrap .i64 ((i : Int) + 1) = ((i + 1 : Nat) : Int) from wrap_in (by omega)]; rfl, by rw [← show IntKind.wrap .i64 ((j : Int) + 1) = ((j + 1 : Nat) : Int) from wrap_in (by omega)]; rfl, hO4, Mut.only (Mut.ex hMu hE3) hN4 (Or.inl (hO3.rng (i := i) (by omega) fb (by rw [fA]; rfl))), by have := hD.kept (by omega) (by rw [hgr j hj]; exact hb3); rw [hgr j hj] at this; exact this⟩
      · have hj : j = p_s.length := by have := dec_f hb2; omega
        subst hj
        have hD' : DF (fun q : Nat => p_f (p_s.getD q d_Row)) (List.range p_s.length) xs i (List.range p_s.length).length := by rw [hrl]; exact hD
        obtain ⟨ht, hik⟩ := hD'.done
        refine CW.cond_f rfl hb2 (CW.exit (tx (tx ?_)))
        refine bx (tn (CW.seq (CW.region (sd rfl (yl_move rfl rfl (sd rfl (yl_move rfl rfl (sd rfl (yl_slice (l := i) (h := p_s.length) (kh := .i64) un29 ty61 rfl rfl (Or.inr ⟨_, rfl, rfl⟩) (Or.inl ⟨rfl, rfl⟩) (by omega) (by have := (OwnL.rd (good_Opq hcl) hO).2.1; omega) (SeqR.u rfl rfl (yl_clearT (good_Opq hcl) un29 ty61 rfl rfl rfl rfl hO (by omega) ?_)))))))))))
        intro v5 w5 hO5 hM5
        obtain ⟨fb, fo, fc, fA, _, fbl, _, _, _⟩ := RdS.atD (OwnL.rd (good_Opq hcl) hO) d_Opq (i := i) (by omega)
        have hic : i ≤ c1 := by have := (OwnL.rd (good_Opq hcl) hO).2.1; omega
        refine dn (CW.seq (CW.region (sd rfl (yl_move rfl rfl (sd rfl (yl_move rfl rfl (sd rfl (yl_slice (l := 0) (h := i) (kl := .i64) un29 ty61 rfl rfl (Or.inl ⟨rfl, rfl⟩) (Or.inr ⟨_, rfl, rfl⟩) (Nat.zero_le _) hic (sd rfl (yl_assign rfl rfl (dn (CW.ret (rr rfl (.cons rfl .nil) ?_)))))))))))))
        have e : (if c1 = 0 then A1 else A1.map (·.add (0 * 1))) = A1 := by
          split
          · rfl
          · rw [Nat.zero_mul]; exact headA fA
        rw [ht] at hO5
        have hMe := hM.mut hM5 fun _ h => h
        have hz : (g_slices_DeleteFunc_Row p_s p_f).length = i := by rw [hmodel, List.length_map]; exact hik.symm
        have hr := OwnU.ofN goodO_Row hE hO5 hMe hr2 (hnd _).1 (hnd _).2
        rw [← hmodel] at hr
        rw [e, hz]
        exact ⟨_, _, rfl, hr, hok, hup _ hMe⟩

theorem c_g_internal_stringslite_HasPrefix {w : World} (p_s : Str) (p_prefix : Str) (o1 : okS p_s) (o2 : okS p_prefix) : Cal Tryz.prog 100 #[.string (bs (p_s)), .string (bs (p_prefix))] w fun v w' => v = .bool ((g_internal_stringslite_HasPrefix p_s p_prefix)) ∧ Ex w w' := by
 have hol3 : p_s.length ≤ 1073741824 := o1
 have hol4 : p_prefix.length ≤ 1073741824 := o2
 refine Cal.of func100 rfl ntmps100 rfl (CW.seq (CW.region (sd rfl (yl_assign rfl rfl (dn (CW.seq (CW.region (sd rfl (yl_move rfl rfl ?_)))))))))
 refine sd rfl (yl_slen un9 (a := p_s) rfl rfl (sd rfl (yl_move rfl rfl (sd rfl (yl_slen un9 (a := p_prefix) rfl rfl (sd rfl (yl_geq rfl rfl rfl (sd rfl (yl_move rfl rfl (bcD (q := (p_prefix.length : Int) ≤ (p_s.length : Int)) (fun hb5 hb5p => ?_) (fun hb5 hb5p => ?_)))))))))))
 ·refine sy rfl rfl hb5 (yl_move rfl rfl (sy rfl rfl hb5 (yl_move rfl rfl (sy rfl rfl hb5 (yl_slen un9 (a := p_prefix) rfl rfl (sy rfl rfl hb5 (yl_sslice_hi un9 (a := p_s) (h := p_prefix.length) rfl rfl rfl (by omega) (sy rfl rfl hb5 (yl_move rfl rfl (sy rfl rfl hb5 (yl_seql (a := (p_s.take p_prefix.length)) (b := p_prefix) rfl rfl rfl (sd rfl (yl_pick_t rfl rfl hb5 rfl (sd rfl (yl_assign rfl rfl (SeqR.done ?_))))))))))))))))
  refine tn (CW.ret (rr rfl (.cons rfl .nil) ?_))
  rw [show (g_internal_stringslite_HasPrefix p_s p_prefix) = ((p_s.take p_prefix.length) == p_prefix) by simp only [g_internal_stringslite_HasPrefix, hb5, cL]]
  exact ⟨rfl, (Ex.refl w)⟩
 ·refine sz rfl rfl hb5 (sz rfl rfl hb5 (sz rfl rfl hb5 (sz rfl rfl hb5 (sz rfl rfl hb5 (sz rfl rfl hb5 (sd rfl (yl_pick_f rfl rfl hb5 rfl (sd rfl (yl_assign rfl rfl (SeqR.done ?_))))))))))
  refine tn (CW.ret (rr rfl (.cons rfl .nil) ?_))
  rw [show (g_internal_stringslite_HasPrefix p_s p_prefix) = (false) by simp only [g_internal_stringslite_HasPrefix, hb5, cL]]
  exact ⟨rfl, (Ex.refl w)⟩
theorem c_g_internal_stringslite_CutPrefix {w : World} (p_s : Str) (p_prefix : Str) (o1 : okS p_s) (o2 : okS p_prefix) : Cal Tryz.prog 92 #[.string (bs (p_s)), .string (bs (p_prefix))] w fun v w' => v = .tuple #[.string (bs ((g_internal_stringslite_CutPrefix p_s p_prefix).1)), .bool ((g_internal_stringslite_CutPrefix p_s p_prefix).2)] ∧ okS ((g_internal_stringslite_CutPrefix p_s p_prefix).1) ∧ Ex w w' := by
 have hol3 : p_s.length ≤ 1073741824 := o1
 have hol4 : p_prefix.length ≤ 1073741824 := o2
 refine Cal.of func92 rfl ntmps92 rfl (CW.seq (CW.region (sd rfl (yl_assign rfl rfl (sd rfl (yl_assign rfl rfl (dn (CW.seq (CW.seq ?_)))))))))
 refine CW.region (sd rfl (yl_move rfl rfl (sd rfl (yl_move rfl rfl (sd rfl (yl_call en100 rfl (oc rfl (oc rfl oz)) (Cal.mono (c_g_internal_stringslite_HasPrefix p_s p_prefix o1 o2) ?_)))))))
 rintro v6 w5 ⟨rfl, hE7⟩
 have hE7z := Ex.size hE7
 refine sd rfl (yl_not rfl rfl (dn (bcase (g_internal_stringslite_HasPrefix p_s p_prefix) (fun hb8 => ?_) (fun hb8 => ?_))))
 ·have hb8p := f_HasPrefix hb8
  refine CW.cond_f rfl (not_t hb8) (CW.skip (tn (CW.seq (CW.region (sd rfl (yl_move rfl rfl (sd rfl (yl_move rfl rfl (sd rfl (yl_slen un9 (a := p_prefix) rfl rfl (sd rfl (yl_sslice_lo un9 (a := p_s) (l := p_prefix.length) rfl rfl rfl (by omega) ?_))))))))))))
  refine sd rfl (yl_assign rfl rfl (sd rfl (yl_assign rfl rfl (dn (CW.ret (rr rfl (.cons rfl (.cons rfl .nil)) ?_))))))
  rw [show (g_internal_stringslite_CutPrefix p_s p_prefix) = (((p_s.drop p_prefix.length), true)) by simp only [g_internal_stringslite_CutPrefix, hb8, cL]]
  exact ⟨rfl, (okS.drop o1 _), (Ex.trans (Ex.refl w) hE7)⟩
 ·refine CW.cond_t rfl (not_f hb8) (CW.seq (CW.region (sd rfl (yl_move rfl rfl (sd rfl (yl_assign rfl rfl (sd rfl (yl_assign rfl rfl (dn (CW.ret ?_))))))))))
  refine tr (rr rfl (.cons rfl (.cons rfl .nil)) ?_)
  rw [show (g_internal_stringslite_CutPrefix p_s p_prefix) = ((p_s, false)) by simp only [g_internal_stringslite_CutPrefix, hb8, cL]]
  exact ⟨rfl, o1, (Ex.trans (Ex.refl w) hE7)⟩
theorem c_g_strings_CutPrefix {w : World} (p_s : Str) (p_prefix : Str) (o1 : okS p_s) (o2 : okS p_prefix) : Cal Tryz.prog 78 #[.string (bs (p_s)), .string (bs (p_prefix))] w fun v w' => v = .tuple #[.string (bs ((g_strings_CutPrefix p_s p_prefix).1)), .bool ((g_strings_CutPrefix p_s p_prefix).2)] ∧ okS ((g_strings_CutPrefix p_s p_prefix).1) ∧ Ex w w' := by
 refine Cal.of func78 rfl ntmps78 rfl (CW.seq (CW.region (sd rfl (yl_assign rfl rfl (sd rfl (yl_assign rfl rfl (dn (CW.seq (CW.region ?_)))))))))
 refine sd rfl (yl_move rfl rfl (sd rfl (yl_move rfl rfl (sd rfl (yl_call en92 rfl (oc rfl (oc rfl oz)) (Cal.mono (c_g_internal_stringslite_CutPrefix p_s p_prefix o1 o2) ?_))))))
 rintro v7 w5 ⟨rfl, ho6, hE8⟩
 refine sd rfl (yl_extract rfl rfl rfl (sd rfl (yl_extract rfl rfl rfl (sd rfl (yl_assign rfl rfl (sd rfl (yl_assign rfl rfl (dn (CW.ret (rr rfl (.cons rfl (.cons rfl .nil)) ?_))))))))))
 rw [show (g_strings_CutPrefix p_s p_prefix) = (((g_internal_stringslite_CutPrefix p_s p_prefix).1, (g_internal_stringslite_CutPrefix p_s p_prefix).2)) by simp only [g_strings_CutPrefix, cL]]
 exact ⟨rfl, ho6, (Ex.trans (Ex.refl w) hE8)⟩
theorem c_g_slices_IndexFunc_string {A1 : Option Addr} {c1 : Nat} {g3 : Nat} {cp4 : List Value} {w : World} (p_s : List Str) (p_f : Str → Bool) (h1 : RdS w (Iv 0 w.heap.size) (RF e_Str) 1 A1 p_s.length c1 p_s) (hen5 : Go.X.Enters Tryz.prog g3) (hfn6 : ∀ (w1 : World) (y0 : Str), Ex w w1 → y0 ∈ p_s → okS y0 → Cal Tryz.prog g3 (([.string (bs (y0))] : List Value) ++ cp4).toArray w1 fun v w2 => v = .bool (p_f y0) ∧ Ex w1 w2) (o2 : (okL okS) p_s) : Cal Tryz.prog 104 #[.slice A1 p_s.length c1, .func (.func g3) #[] cp4.toArray] w fun v w' => v = .int .i64 ((g_slices_IndexFunc_string p_s p_f)) ∧ Ex w w' := by
 have hol7 := o2.1
 refine Cal.of func104 rfl ntmps104 rfl (CW.seq (CW.region (sd rfl (yl_assign rfl rfl (dn (CW.seq (CW.seq (CW.region ?_))))))))
 refine sd rfl (yl_move rfl rfl (sd rfl (yl_len un22 rfl rfl (sd rfl (yl_move rfl rfl (dn (CW.block (CW.loop (fun m9 L10 w11 => ∃ (k8 : Nat), m9 = p_s.length - k8 ∧ k8 ≤ p_s.length ∧ w.heap.size ≤ w11.heap.size ∧ Sub [(0, .slice A1 p_s.length c1), (1, .func (.func g3) #[] cp4.toArray), (7, .int .i64 ((p_s.length : Int))), (8, .int .i64 ((k8 : Int)))] L10 ∧ Ex w w11 ∧ loopM (B_g_slices_IndexFunc_string_0 p_s p_f) (p_s.length - k8) k8 () = loopM (B_g_slices_IndexFunc_string_0 p_s p_f) (p_s.length - 0) 0 ()) (p_s.length - 0) ?_ ?_))))))))
 ·exact ⟨0, rfl, (by omega), Nat.le_refl _, (sR rfl), (Ex.refl w), rfl⟩
 ·rintro m12 L13 w14 ⟨k8, rfl, hk15, hsz17, hl18, hf19, hI16⟩
  refine CW.sub hl18 ?_
  have hf19z := Ex.size hf19
  have q21 := RdS.ex good_Str h1 hf19
  have hbg20 := RdS.big q21
  rcases Nat.lt_or_ge k8 p_s.length with hlt22 | hlt22
  ·refine CW.seq (CW.region (sd rfl (yl_lss rfl rfl rfl (dn (CW.seq (CW.cond_t rfl (lt_t hlt22) (CW.skip (tn ?_))))))))
   refine CW.seq (CW.block (CW.seq (CW.region (sd rfl (yl_move rfl rfl (sd rfl (yl_assign rfl rfl (dn (CW.seq ?_)))))))))
   refine CW.region (sd rfl (yl_move rfl rfl (sd rfl (yl_move rfl rfl (sd rfl (yl_move rfl rfl ?_))))))
   obtain ⟨_, _, _, eA23, _, ebl23, _, eR23, eC23⟩ := RdS.aD q21 d_Str (i := k8)
   obtain rfl := eR23
   refine sd rfl (yl_ixN un22 ty9 rfl rfl rfl eA23 (sd rfl (yl_load1 ty9 rfl rfl (eC23 0 _ rfl) (sd rfl (yl_callv hen5 rfl rfl (oc rfl oz) (Cal.mono (hfn6 w14 (p_s.getD k8 d_Str) hf19 (getD_mem (by omega)) (okL.getD o2 ok_d_Str _)) ?_))))))
   rintro v25 w24 ⟨rfl, hE26⟩
   have hE26z := Ex.size hE26
   refine dn (bcase (p_f (p_s.getD k8 d_Str)) (fun hb27 => ?_) (fun hb27 => ?_))
   ·refine CW.cond_t rfl hb27 (CW.seq (CW.region (sd rfl (yl_move rfl rfl (sd rfl (yl_assign rfl rfl (dn (CW.ret (br ?_)))))))))
    refine tr (tr ?_)
    have hB29 : B_g_slices_IndexFunc_string_0 p_s p_f k8 () = .ret (k8 : Int) := by simp only [B_g_slices_IndexFunc_string_0, hb27, cL]
    have hL28 : loopM (B_g_slices_IndexFunc_string_0 p_s p_f) (p_s.length - 0) 0 () = .ret (k8 : Int) := hI16.symm.trans (loopM.ret hlt22 hB29)
    refine br (tr (rr rfl (.cons rfl .nil) ?_))
    rw [show (g_slices_IndexFunc_string p_s p_f) = ((k8 : Int)) by simp only [g_slices_IndexFunc_string, hb27, hL28, cL]]
    exact ⟨rfl, (Ex.trans hf19 hE26)⟩
   ·refine CW.cond_f rfl hb27 (CW.skip (bn (tn (CW.region (sd rfl (yl_inc rfl rfl rfl (by omega) (sd rfl (yl_move rfl rfl (dn ?_)))))))))
    have hB32 : B_g_slices_IndexFunc_string_0 p_s p_f k8 () = .cont () := by simp only [B_g_slices_IndexFunc_string_0, hb27, cL]
    exact ⟨p_s.length - (k8 + 1), by omega, k8 + 1, rfl, hlt22, (by omega), (sR rfl), (Ex.trans hf19 hE26), (loopM.cont hlt22 hB32).symm.trans hI16⟩
  ·refine CW.seq (CW.region (sd rfl (yl_lss rfl rfl rfl (dn (CW.seq (CW.cond_f rfl (lt_f hlt22) (CW.exit (tx ?_))))))))
   refine tx ?_
   have hL34 : loopM (B_g_slices_IndexFunc_string_0 p_s p_f) (p_s.length - 0) 0 () = .done () := hI16.symm.trans (loopM.stop hlt22)
   refine bx (tn (CW.seq (CW.region (sd rfl (yl_assign rfl rfl (dn (CW.ret (rr rfl (.cons rfl .nil) ?_))))))))
   rw [show (g_slices_IndexFunc_string p_s p_f) = (-1) by simp only [g_slices_IndexFunc_string, hL34, cL]]
   exact ⟨rfl, hf19⟩
theorem c_g_slices_ContainsFunc_string {A1 : Option Addr} {c1 : Nat} {g3 : Nat} {cp4 : List Value} {w : World} (p_s : List Str) (p_f : Str → Bool) (h1 : RdS w (Iv 0 w.heap.size) (RF e_Str) 1 A1 p_s.length c1 p_s) (hen5 : Go.X.Enters Tryz.prog g3) (hfn6 : ∀ (w1 : World) (y0 : Str), Ex w w1 → y0 ∈ p_s → okS y0 → Cal Tryz.prog g3 (([.string (bs (y0))] : List Value) ++ cp4).toArray w1 fun v w2 => v = .bool (p_f y0) ∧ Ex w1 w2) (o2 : (okL okS) p_s) : Cal Tryz.prog 94 #[.slice A1 p_s.length c1, .func (.func g3) #[] cp4.toArray] w fun v w' => v = .bool ((g_slices_ContainsFunc_string p_s p_f)) ∧ Ex w w' := by
 refine Cal.of func94 rfl ntmps94 rfl (CW.seq (CW.region (sd rfl (yl_assign rfl rfl (dn (CW.seq (CW.region (sd rfl (yl_move rfl rfl ?_)))))))))
 refine sd rfl (yl_move rfl rfl (sd rfl (yl_call en104 rfl (oc rfl (oc rfl oz)) (Cal.mono (c_g_slices_IndexFunc_string p_s p_f (RdS.up h1 good_Str) hen5 (fun w1 y0 => fun hE => hfn6 w1 y0 (Ex.trans (Ex.refl w) hE)) o2) ?_))))
 rintro v9 w8 ⟨rfl, hE10⟩
 refine sd rfl (yl_geq rfl rfl rfl (sd rfl (yl_assign rfl rfl (dn (CW.ret (rr rfl (.cons rfl .nil) ?_))))))
 rw [show (g_slices_ContainsFunc_string p_s p_f) = (decide (0 ≤ (g_slices_IndexFunc_string p_s p_f))) by simp only [g_slices_ContainsFunc_string, cL]]
 exact ⟨rfl, (Ex.trans (Ex.refl w) hE10)⟩
theorem c_i_Table_isRow_c1 {w : World} (p_s : Str) (o1 : okS p_s) : Cal Tryz.prog 95 #[.string (bs (p_s))] w fun v w' => v = .bool ((i_Table_isRow_c1 p_s)) ∧ Ex w w' := by
 refine Cal.of func95 rfl ntmps95 rfl (CW.seq (CW.region (sd rfl (yl_assign rfl rfl (dn (CW.seq (CW.region (sd rfl (yl_move rfl rfl ?_)))))))))
 refine sd rfl (yl_call en31 rfl (oc rfl oz) (Cal.mono (c_i_isField p_s o1) ?_))
 rintro v4 w3 ⟨rfl, hE5⟩
 refine sd rfl (yl_not rfl rfl (sd rfl (yl_assign rfl rfl (dn (CW.ret (rr rfl (.cons rfl .nil) ?_))))))
 rw [show (i_Table_isRow_c1 p_s) = (!(i_isField p_s)) by simp only [i_Table_isRow_c1, cL]]
 exact ⟨rfl, (Ex.trans (Ex.refl w) hE5)⟩
theorem c_i_Table_isRow {A1 : Option Addr} {c1 : Nat} {A2 : Option Addr} {c2 : Nat} {A4 : Option Addr} {c4 : Nat} {w : World} (p_t : DTable) (p_r : DRow) (h1 : RdS w (Iv 0 w.heap.size) (RF e_Str) 1 A1 p_t.Cols.length c1 p_t.Cols) (h2 : RdS w (Iv 0 w.heap.size) (RF e_Idx) 3 A2 p_t.Idxs.length c2 p_t.Idxs) (h4 : RdS w (Iv 0 w.heap.size) (RF e_Str) 1 A4 p_r.Vals.length c4 p_r.Vals) (o3 : ok_Table p_t) (o5 : ok_Row p_r) : Cal Tryz.prog 80 #[.agg #[.string (bs (p_t.Name)), .slice A1 p_t.Cols.length c1, .slice A2 p_t.Idxs.length c2], .agg #[.slice A4 p_r.Vals.length c4]] w fun v w' => v = .bool ((i_Table_isRow p_t p_r)) ∧ Ex w w' := by
 refine Cal.of func80 rfl ntmps80 rfl (CW.seq (CW.region (sd rfl (yl_box rfl rfl rfl ?_))))
 intro b10 w11 hs12 hz13 hB14 hE15
 refine sd rfl (yl_box rfl rfl rfl ?_)
 intro b16 w17 hs18 hz19 hB20 hE21
 refine sd rfl (yl_assign rfl rfl (dn (CW.seq (CW.region (sd rfl (yl_fieldAddr fd61_0 rfl rfl (sd rfl (yl_load1 ty22 rfl rfl ((hB20.cell 0).trans rfl) (sd rfl (yl_len un22 rfl rfl (sd rfl (yl_fieldAddr fd34_1 rfl rfl ?_))))))))))))
 refine sd rfl (yl_load1 ty22 rfl rfl (((Box.ex hB14 hE21).cell 1).trans rfl) (sd rfl (yl_len un22 rfl rfl (sd rfl (yl_eql rfl rfl rfl (sd rfl (yl_move rfl rfl (bcD (q := (p_r.Vals.length : Int) = (p_t.Cols.length : Int)) (fun hb23 hb23p => ?_) (fun hb23 hb23p => ?_)))))))))
 ·refine sy rfl rfl hb23 (yl_fieldAddr fd61_0 rfl rfl (sy rfl rfl hb23 (yl_load1 ty22 rfl rfl ((hB20.cell 0).trans rfl) ?_)))
  have q25 := Ex.trans (Ex.trans (Ex.refl w) hE15) hE21
  refine sy rfl rfl hb23 (yl_call en94 rfl (oc rfl (oc rfl oz)) (Cal.mono (c_g_slices_ContainsFunc_string p_r.Vals (fun y0 => i_Table_isRow_c1 y0) (RdS.up (RdS.ex good_Str h4 q25) good_Str) en95 (fun _ y0 => fun hE hm0 ov0 => c_i_Table_isRow_c1 y0 ov0) o5) ?_))
  rintro v28 w27 ⟨rfl, hE29⟩
  refine sy rfl rfl hb23 (yl_not rfl rfl (sd rfl (yl_pick_t rfl rfl hb23 rfl (sd rfl (yl_assign rfl rfl (dn (CW.ret (rr rfl (.cons rfl .nil) ?_))))))))
  rw [show (i_Table_isRow p_t p_r) = (!(g_slices_ContainsFunc_string p_r.Vals (fun y0 => i_Table_isRow_c1 y0))) by simp only [i_Table_isRow, hb23, cL]]
  exact ⟨rfl, (Ex.trans q25 hE29)⟩
 ·refine sz rfl rfl hb23 (sz rfl rfl hb23 (sz rfl rfl hb23 (sz rfl rfl hb23 (sd rfl (yl_pick_f rfl rfl hb23 rfl (sd rfl (yl_assign rfl rfl (dn (CW.ret ?_)))))))))
  refine rr rfl (.cons rfl .nil) ?_
  rw [show (i_Table_isRow p_t p_r) = (false) by simp only [i_Table_isRow, hb23, cL]]
  exact ⟨rfl, (Ex.trans (Ex.trans (Ex.refl w) hE15) hE21)⟩
theorem c_i_Table_rowWrite {A1 : Option Addr} {c1 : Nat} {A2 : Option Addr} {c2 : Nat} {A4 : Option Addr} {c4 : Nat} {w : World} (p_t : DTable) (p_r : DRow) (h1 : RdS w (Iv 0 w.heap.size) (RF e_Str) 1 A1 p_t.Cols.length c1 p_t.Cols) (h2 : RdS w (Iv 0 w.heap.size) (RF e_Idx) 3 A2 p_t.Idxs.length c2 p_t.Idxs) (h4 : RdS w (Iv 0 w.heap.size) (RF e_Str) 1 A4 p_r.Vals.length c4 p_r.Vals) (o3 : ok_Table p_t) (o5 : ok_Row p_r) (pre0 : 0 < p_r.Vals.length) (pre1 : p_r.Vals.length ≤ 4) (pre2 : rowShort p_r) : Cal Tryz.prog 81 #[.agg #[.string (bs (p_t.Name)), .slice A1 p_t.Cols.length c1, .slice A2 p_t.Idxs.length c2], .agg #[.slice A4 p_r.Vals.length c4]] w fun v w' => v = .agg #[.string (bs ((i_Table_rowWrite p_t p_r).Key)), .string (bs ((i_Table_rowWrite p_t p_r).Val)), .bool ((i_Table_rowWrite p_t p_r).Gone)] ∧ Ex w w' := by
 have hol6 : p_t.Name.length ≤ 1073741824 := o3.1
 have hol7 := o3.2.1.1
 have hol8 := o3.2.2.1
 have hol9 := o5.1
 refine Cal.of func81 rfl ntmps81 rfl (CW.seq (CW.region (sd rfl (yl_box rfl rfl rfl ?_))))
 intro b10 w11 hs12 hz13 hB14 hE15
 refine sd rfl (yl_box rfl rfl rfl ?_)
 intro b16 w17 hs18 hz19 hB20 hE21
 refine sd rfl (yl_alloc ty57 (cs := [.string (bs (([] : Str))), .string (bs (([] : Str))), .bool (false)]) rfl rfl ?_)
 intro b22 w23 hs24 hz25 hB26 hE27
 refine dn (CW.seq ?_)
 have hol30 : p_t.Name.length ≤ 1073741824 := o3.1
 have q31 := Box.ex hB20 hE27
 have q34 := Ex.trans (Ex.trans (Ex.trans (Ex.refl w) hE15) hE21) hE27
 have q35 := RdS.ex good_Str h4 q34
 obtain ⟨eb36, eo36, _, eA36, _, ebl36, _, eR36, eC36⟩ := RdS.aD q35 d_Str (i := 0)
 obtain rfl := eR36
 have hol37 : p_t.Name.length ≤ 1073741824 := o3.1
 have hol38 : (p_r.Vals.getD 0 d_Str).length ≤ 1073741824 := (okL.getD o5 ok_d_Str _)
 obtain ⟨A39, c40, he43, h42⟩ := RdS.sl (RdS.drop q35 (k := 1) (by omega))
 have hrc44 := (q35).2.1
 refine CW.drawsI 12 (vgetI [DetI (.pointer (some ⟨b10, 0 + 0, none⟩)), DetI (.string (bs (p_t.Name))), DetI (.string (bs (p_t.Name ++ ([47] : Str)))), DetI (.pointer (some ⟨b16, 0 + 0, none⟩)), DetI (.slice A4 p_r.Vals.length c4), DetI (.pointer (some ⟨eb36, eo36 + 0 * 1, none⟩)), DetI (.string (bs ((p_r.Vals.getD 0 d_Str)))), DetI (.string (bs ((p_t.Name ++ ([47] : Str)) ++ (p_r.Vals.getD 0 d_Str)))), DetI (.pointer (some ⟨b16, 0 + 0, none⟩)), DetI (.slice A4 p_r.Vals.length c4), fun lo hi v wq => ∃ A39 c40, v = .slice A39 ((p_r.Vals.drop 1).length) c40 ∧ RdS wq (Iv 0 w.heap.size) (RF e_Str) 1 A39 (p_r.Vals.drop 1).length c40 (p_r.Vals.drop 1), fun lo hi v wq => v = .string (bs ((g_strings_Join (p_r.Vals.drop 1) ([44] : Str)))) ∧ okS (g_strings_Join (p_r.Vals.drop 1) ([44] : Str))]) Tryz.follows rfl rfl rfl rfl rfl rfl (vgetI_stable ⟨StableI.det _, StableI.det _, StableI.det _, StableI.det _, StableI.det _, StableI.det _, StableI.det _, StableI.det _, StableI.det _, StableI.det _, (fun _ _ _ _ _ ⟨A39, c40, hv, h45⟩ e => ⟨A39, c40, hv, RdS.ex good_Str h45 e⟩), (fun _ _ _ _ _ ⟨hv, ho47⟩ e => ⟨hv, ho47⟩), trivial⟩) ⟨?_, ?_, ?_, ?_, ?_, ?_, ?_, ?_, ?_, ?_, ?_, ?_, trivial⟩ ?_
 ·exact oI rfl fun h => yl_fieldAddr fd34_0 rfl (h.old 2 _ rfl rfl) kI
 ·exact oI rfl fun h => yl_load1 ty9 rfl (h.dt 0 5 rfl rfl rfl) (((Box.ex (Box.ex (Box.ex hB14 hE21) hE27) h.ex).cell 0).trans rfl) kI
 ·intro L59 w60 hi61
  have hE62 := hi61.ex
  have hE62z := Ex.size hE62
  have hol64 : p_t.Name.length ≤ 1073741824 := o3.1
  exact os rfl ((yl_sadd (a := p_t.Name) (b := ([47] : Str)) rfl (hi61.dt 1 6 rfl rfl rfl) rfl (by first | omega | (simp only [List.length_append, List.length_cons, List.length_nil, List.length_take, List.length_drop, toS_length]; omega)) kI))
 ·exact oI rfl fun h => yl_fieldAddr fd61_0 rfl (h.old 3 _ rfl rfl) kI
 ·exact oI rfl fun h => yl_load1 ty22 rfl (h.dt 3 8 rfl rfl rfl) (((Box.ex q31 h.ex).cell 0).trans rfl) kI
 ·intro L76 w77 hi78
  have hE79 := hi78.ex
  have hE79z := Ex.size hE79
  exact os rfl ((yl_ixN un22 ty9 rfl (hi78.dt 4 9 rfl rfl rfl) rfl eA36 kI))
 ·exact oI rfl fun h => yl_load1 ty9 rfl (h.dt 5 10 rfl rfl rfl) ((Cells.ex eC36 h.ex) 0 _ rfl) kI
 ·intro L87 w88 hi89
  have hE90 := hi89.ex
  have hE90z := Ex.size hE90
  have hol93 : p_t.Name.length ≤ 1073741824 := o3.1
  have hol94 : (p_r.Vals.getD 0 d_Str).length ≤ 1073741824 := (okL.getD o5 ok_d_Str _)
  exact os rfl ((yl_sadd (a := (p_t.Name ++ ([47] : Str))) (b := (p_r.Vals.getD 0 d_Str)) rfl (hi89.dt 2 7 rfl rfl rfl) (hi89.dt 6 11 rfl rfl rfl) (by first | omega | (simp only [List.length_append, List.length_cons, List.length_nil, List.length_take, List.length_drop, toS_length]; omega)) kI))
 ·exact oI rfl fun h => yl_fieldAddr fd61_0 rfl (h.old 3 _ rfl rfl) kI
 ·exact oI rfl fun h => yl_load1 ty22 rfl (h.dt 8 13 rfl rfl rfl) (((Box.ex q31 h.ex).cell 0).trans rfl) kI
 ·intro L106 w107 hi108
  have hE109 := hi108.ex
  have hE109z := Ex.size hE109
  have q112 := RdS.ex good_Str h4 (Ex.trans q34 hE109)
  obtain ⟨A113, c114, he117, h116⟩ := RdS.sl (RdS.drop q112 (k := 1) (by omega))
  have hrc118 := (q112).2.1
  exact os rfl ((yl_sliceR (kh := .i64) (l := 1) (h := p_r.Vals.length) un22 ty9 rfl (hi108.dt 9 14 rfl rfl rfl) (.inr ⟨_, rfl, rfl⟩) (.inl ⟨rfl, rfl⟩) (by omega) (by omega) he117 ⟨fun _ _ => ⟨A113, c114, rfl, h116⟩, rfl⟩))
 ·intro L119 w120 hi121
  obtain ⟨lo124, hh125, _, hx123, hr126, hr127, hr128, A39_129, c40_130, rfl, h131⟩ := hi121.dep 10 15 rfl rfl
  refine OpR.op' rfl (yl_call en96 rfl (oc hx123 (oc rfl oz)) (Cal.mono (c_g_strings_Join (p_r.Vals.drop 1) ([44] : Str) (RdS.up h131 good_Str) (okL.drop o5 _) (okS.lit rfl) (join_drop pre1 pre2)) ?_))
  rintro v134 w132 ⟨rfl, ho133, hE135⟩
  exact ⟨⟨rfl, ho133⟩, hE135⟩
 ·intro fl139 fh140 L136 w137 hp138
  have hE141 := hp138.ex
  have hE141z := Ex.size hE141
  have hx142 := hp138.old 4 _ rfl rfl
  obtain ⟨_, hx144, rfl, h145⟩ := hp138.new 11 16 rfl rfl
  refine sd rfl (yl_build (cs := [.string (bs ((p_t.Name ++ ([47] : Str)) ++ (p_r.Vals.getD 0 d_Str))), .string (bs ((g_strings_Join (p_r.Vals.drop 1) ([44] : Str)))), .bool (false)]) rfl (oc (hp138.nt 7 12 rfl rfl rfl) (oc hx144 oz)) (by kernel_rfl) (SeqR.u rfl rfl (yl_storeA (vs := [.string (bs ((p_t.Name ++ ([47] : Str)) ++ (p_r.Vals.getD 0 d_Str))), .string (bs ((g_strings_Join (p_r.Vals.drop 1) ([44] : Str)))), .bool (false)]) ty57 rfl hx142 rfl rfl rfl rfl (Box.ex hB26 hE141) rfl ?_)))
  intro w147 hB148 hO149
  have hO149z := hO149.size
  refine dn (CW.sub (Sub.cons (d := 4) (id hx142) (Sub.nil _)) (CW.ret (rr rfl (.cons ⟨_, rfl, run_loadN ty57 (cs := [.string (bs ((p_t.Name ++ ([47] : Str)) ++ (p_r.Vals.getD 0 d_Str))), .string (bs ((g_strings_Join (p_r.Vals.drop 1) ([44] : Str)))), .bool (false)]) rfl (hB148.cells (n := 3) rfl)⟩ .nil) ?_)))
  rw [show (i_Table_rowWrite p_t p_r) = ((⟨(p_t.Name ++ ([47] : Str)) ++ (p_r.Vals.getD 0 d_Str), (g_strings_Join (p_r.Vals.drop 1) ([44] : Str)), false⟩ : DWrite)) by simp only [i_Table_rowWrite, cL]]
  exact ⟨rfl, (Below.only (Ex.trans q34 hE141) hO149 (by omega))⟩
theorem c_i_Table_readRow {A1 : Option Addr} {c1 : Nat} {A2 : Option Addr} {c2 : Nat} {w : World} (p_t : DTable) (p_w : DWrite) (h1 : RdS w (Iv 0 w.heap.size) (RF e_Str) 1 A1 p_t.Cols.length c1 p_t.Cols) (h2 : RdS w (Iv 0 w.heap.size) (RF e_Idx) 3 A2 p_t.Idxs.length c2 p_t.Idxs) (o3 : ok_Table p_t) (o4 : ok_Write p_w) (pre0 : s_GoodTable p_t = true) : Cal Tryz.prog 63 #[.agg #[.string (bs (p_t.Name)), .slice A1 p_t.Cols.length c1, .slice A2 p_t.Idxs.length c2], .agg #[.string (bs (p_w.Key)), .string (bs (p_w.Val)), .bool (p_w.Gone)]] w fun v w' => ∃ A_1 c_1 lo_1 hi_1, v = .tuple #[.agg #[.slice A_1 (((i_Table_readRow p_t p_w).1.Vals).length) c_1], .bool ((i_Table_readRow p_t p_w).2)] ∧ OwnL w' lo_1 hi_1 9 1 (RF e_Str) A_1 (((i_Table_readRow p_t p_w).1.Vals).length) c_1 ((i_Table_readRow p_t p_w).1.Vals) ∧ ok_Row ((i_Table_readRow p_t p_w).1) ∧ (w.heap.size ≤ lo_1 ∧ lo_1 ≤ hi_1 ∧ hi_1 ≤ w'.heap.size) ∧ Ex w w' := by
 have hol5 : p_t.Name.length ≤ 1073741824 := o3.1
 have hol6 := o3.2.1.1
 have hol7 := o3.2.2.1
 have hol8 : p_w.Key.length ≤ 1073741824 := o4.1
 have hol9 : p_w.Val.length ≤ 1073741824 := o4.2
 have hgt := f_s_GoodTable pre0
 have hgn := gt_name pre0
 refine Cal.of func63 rfl ntmps63 rfl (CW.seq (CW.region (sd rfl (yl_box rfl rfl rfl ?_))))
 intro b10 w11 hs12 hz13 hB14 hE15
 refine sd rfl (yl_box rfl rfl rfl ?_)
 intro b16 w17 hs18 hz19 hB20 hE21
 refine sd rfl (yl_alloc ty61 (cs := [.slice none 0 0]) rfl rfl ?_)
 intro b22 w23 hs24 hz25 hB26 hE27
 refine sd rfl (yl_assign rfl rfl (dn (CW.seq (CW.region (sd rfl (yl_fieldAddr fd57_0 rfl rfl ?_))))))
 have q28 := Box.ex hB20 hE27
 refine sd rfl (yl_load1 ty9 rfl rfl ((q28.cell 0).trans rfl) (sd rfl (yl_fieldAddr fd34_0 rfl rfl ?_)))
 have q30 := Box.ex (Box.ex hB14 hE21) hE27
 refine sd rfl (yl_load1 ty9 rfl rfl ((q30.cell 0).trans rfl) ?_)
 have hol31 : p_t.Name.length ≤ 1073741824 := o3.1
 refine sd rfl (yl_sadd (a := p_t.Name) (b := ([47] : Str)) rfl rfl rfl (by first | omega | (simp only [List.length_append, List.length_cons, List.length_nil, List.length_take, List.length_drop, toS_length]; omega)) (sd rfl (yl_call en78 rfl (oc rfl (oc rfl oz)) (Cal.mono (c_g_strings_CutPrefix p_w.Key (p_t.Name ++ ([47] : Str)) o4.1 (okS_nm hgn)) ?_))))
 rintro v34 w32 ⟨rfl, ho33, hE35⟩
 have hE35z := Ex.size hE35
 refine sd rfl (yl_move rfl rfl (sd rfl (yl_extract rfl rfl rfl (sd rfl (yl_extract rfl rfl rfl (sd rfl (yl_assign rfl rfl (sd rfl (yl_assign rfl rfl (dn (CW.seq (CW.region ?_))))))))))))
 refine sd rfl (yl_move rfl rfl (sd rfl (yl_buildSlice (cs := [.string (bs ((g_strings_CutPrefix p_w.Key (p_t.Name ++ ([47] : Str))).1))]) un22 ty9 (by decide) rfl (oc rfl oz) (by kernel_rfl) ?_)))
 intro b36 w37 hs38 hz39 hB40 hE41
 have hO42 : OwnL w37 b36 (b36 + 1) 9 1 (RF e_Str) (some ⟨b36, 0, none⟩) 1 1 ([(g_strings_CutPrefix p_w.Key (p_t.Name ++ ([47] : Str))).1] : List Str) := OwnL.of_box (S := fun _ => False) hB40 (Nat.le_refl _) (Nat.lt_succ_self _) (EncL.cons (c := [.string (bs ((g_strings_CutPrefix p_w.Key (p_t.Name ++ ([47] : Str))).1))]) rfl rfl EncL.nil) (Nat.le_of_ble_eq_true rfl) (fun h => h) (fun _ h => False.elim h)
 refine sd rfl (yl_fieldAddr fd57_1 rfl rfl ?_)
 have q44 := Box.ex (Box.ex q28 hE35) hE41
 refine sd rfl (yl_load1 ty9 rfl rfl ((q44.cell 1).trans rfl) (sd rfl (yl_call en79 rfl (oc rfl (oc rfl oz)) (Cal.mono (c_g_strings_Split p_w.Val ([44] : Str) o4.2 (okS.lit rfl) rfl) ?_))))
 rintro v48 w45 ⟨A46, c46, lo46, hi46, rfl, h46, ho47, hrn50, hE49⟩
 have hE49z := Ex.size hE49
 have hrf51 := rf_Split p_w.Val ([44] : Str)
 obtain ⟨nw54, he55, hs56⟩ := RdS.src (OwnL.rd good_Str h46)
 have hol57 : (g_strings_Split p_w.Val ([44] : Str)).length ≤ 2147483648 := ho47.1
 refine sd rfl (yl_appendL (S := (fun _ => False)) (lo := b36) (hi := (b36 + 1)) (xs := ([(g_strings_CutPrefix p_w.Key (p_t.Name ++ ([47] : Str))).1] : List Str)) (ys := (g_strings_Split p_w.Val ([44] : Str))) good_Str un22 ty9 rfl (Nat.le_of_ble_eq_true rfl) rfl rfl rfl (OwnL.ex good_Str hO42 hE49) he55 hs56 rfl (by first | omega | (simp only [List.length_append, List.length_cons, List.length_nil, List.length_take, List.length_drop, List.length_replicate, List.length_set, toS_length]; omega)) (by first | omega | (simp only [List.length_append, List.length_cons, List.length_nil, List.length_take, List.length_drop, List.length_replicate, List.length_set, toS_length]; omega)) (by omega) (by omega) (fun _ h _ => False.elim h) (by omega) ?_)
 intro A58 c59 w60 row61 hO62 hG63 hrg64
 have hG63z := hG63.size
 refine sd rfl (yl_build (cs := [.slice A58 ((([(g_strings_CutPrefix p_w.Key (p_t.Name ++ ([47] : Str))).1] : List Str) ++ (g_strings_Split p_w.Val ([44] : Str))).length) c59]) rfl (oc rfl oz) (by kernel_rfl) (sd rfl (yl_alloc ty61 (cs := [.slice none 0 0]) rfl rfl ?_)))
 intro b65 w66 hs67 hz68 hB69 hE70
 refine SeqR.u rfl rfl (yl_storeA (vs := [.slice A58 ((([(g_strings_CutPrefix p_w.Key (p_t.Name ++ ([47] : Str))).1] : List Str) ++ (g_strings_Split p_w.Val ([44] : Str))).length) c59]) ty61 rfl rfl rfl rfl rfl rfl hB69 rfl ?_)
 intro w71 hB72 hO73
 have hO73z := hO73.size
 refine dn (CW.seq (CW.seq (bcase ((g_strings_CutPrefix p_w.Key (p_t.Name ++ ([47] : Str))).2) (fun hb74 => ?_) (fun hb74 => ?_))))
 ·have hol95 : (g_strings_Split p_w.Val ([44] : Str)).length ≤ 2147483648 := ho47.1
  refine bcase (i_Table_isRow p_t (⟨(([(g_strings_CutPrefix p_w.Key (p_t.Name ++ ([47] : Str))).1] : List Str) ++ (g_strings_Split p_w.Val ([44] : Str)))⟩ : DRow)) (fun hb97 => ?_) (fun hb97 => ?_)
  ·obtain ⟨hb97p0, hb97p1⟩ := f_i_isRow hb97
   have q103 := Box.only (Box.ex (Box.grown (Box.ex (Box.ex (Box.ex q30 hE35) hE41) hE49) hG63 (hW hrg64)) hE70) hO73 (by omega)
   have q112 := Below.only (Ex.trans (Below.grown (Ex.trans (Ex.trans (Ex.trans (Ex.trans (Ex.trans (Ex.trans (Ex.refl w) hE15) hE21) hE27) hE35) hE41) hE49) hG63 (by omega) (hW hrg64)) hE70) hO73 (by omega)
   have q117 := OwnL.only good_Str (OwnL.ex good_Str hO62 hE70) hO73 (by omega)
   have hol118 : (g_strings_Split p_w.Val ([44] : Str)).length ≤ 2147483648 := ho47.1
   have hol125 : (g_strings_Split p_w.Val ([44] : Str)).length ≤ 2147483648 := ho47.1
   refine drJ 15 [.bool ((g_strings_CutPrefix p_w.Key (p_t.Name ++ ([47] : Str))).2), .bool (!((g_strings_CutPrefix p_w.Key (p_t.Name ++ ([47] : Str))).2)), .bool (!((g_strings_CutPrefix p_w.Key (p_t.Name ++ ([47] : Str))).2)), .agg #[.string (bs (p_t.Name)), .slice A1 p_t.Cols.length c1, .slice A2 p_t.Idxs.length c2], .agg #[.slice A58 ((([(g_strings_CutPrefix p_w.Key (p_t.Name ++ ([47] : Str))).1] : List Str) ++ (g_strings_Split p_w.Val ([44] : Str))).length) c59], .bool ((i_Table_isRow p_t (⟨(([(g_strings_CutPrefix p_w.Key (p_t.Name ++ ([47] : Str))).1] : List Str) ++ (g_strings_Split p_w.Val ([44] : Str)))⟩ : DRow))), .bool (!(i_Table_isRow p_t (⟨(([(g_strings_CutPrefix p_w.Key (p_t.Name ++ ([47] : Str))).1] : List Str) ++ (g_strings_Split p_w.Val ([44] : Str)))⟩ : DRow))), .bool (!(i_Table_isRow p_t (⟨(([(g_strings_CutPrefix p_w.Key (p_t.Name ++ ([47] : Str))).1] : List Str) ++ (g_strings_Split p_w.Val ([44] : Str)))⟩ : DRow))), .bool (!(i_Table_isRow p_t (⟨(([(g_strings_CutPrefix p_w.Key (p_t.Name ++ ([47] : Str))).1] : List Str) ++ (g_strings_Split p_w.Val ([44] : Str)))⟩ : DRow))), .agg #[.string (bs (p_w.Key)), .string (bs (p_w.Val)), .bool (p_w.Gone)], .agg #[.string (bs (p_t.Name)), .slice A1 p_t.Cols.length c1, .slice A2 p_t.Idxs.length c2], .agg #[.slice A58 ((([(g_strings_CutPrefix p_w.Key (p_t.Name ++ ([47] : Str))).1] : List Str) ++ (g_strings_Split p_w.Val ([44] : Str))).length) c59], .agg #[.string (bs ((i_Table_rowWrite p_t (⟨(([(g_strings_CutPrefix p_w.Key (p_t.Name ++ ([47] : Str))).1] : List Str) ++ (g_strings_Split p_w.Val ([44] : Str)))⟩ : DRow)).Key)), .string (bs ((i_Table_rowWrite p_t (⟨(([(g_strings_CutPrefix p_w.Key (p_t.Name ++ ([47] : Str))).1] : List Str) ++ (g_strings_Split p_w.Val ([44] : Str)))⟩ : DRow)).Val)), .bool ((i_Table_rowWrite p_t (⟨(([(g_strings_CutPrefix p_w.Key (p_t.Name ++ ([47] : Str))).1] : List Str) ++ (g_strings_Split p_w.Val ([44] : Str)))⟩ : DRow)).Gone)], .bool (!((p_w.Key == ((i_Table_rowWrite p_t (⟨(([(g_strings_CutPrefix p_w.Key (p_t.Name ++ ([47] : Str))).1] : List Str) ++ (g_strings_Split p_w.Val ([44] : Str)))⟩ : DRow)).Key)) && ((p_w.Val == ((i_Table_rowWrite p_t (⟨(([(g_strings_CutPrefix p_w.Key (p_t.Name ++ ([47] : Str))).1] : List Str) ++ (g_strings_Split p_w.Val ([44] : Str)))⟩ : DRow)).Val)) && (p_w.Gone == ((i_Table_rowWrite p_t (⟨(([(g_strings_CutPrefix p_w.Key (p_t.Name ++ ([47] : Str))).1] : List Str) ++ (g_strings_Split p_w.Val ([44] : Str)))⟩ : DRow)).Gone))))), .bool (!((p_w.Key == ((i_Table_rowWrite p_t (⟨(([(g_strings_CutPrefix p_w.Key (p_t.Name ++ ([47] : Str))).1] : List Str) ++ (g_strings_Split p_w.Val ([44] : Str)))⟩ : DRow)).Key)) && ((p_w.Val == ((i_Table_rowWrite p_t (⟨(([(g_strings_CutPrefix p_w.Key (p_t.Name ++ ([47] : Str))).1] : List Str) ++ (g_strings_Split p_w.Val ([44] : Str)))⟩ : DRow)).Val)) && (p_w.Gone == ((i_Table_rowWrite p_t (⟨(([(g_strings_CutPrefix p_w.Key (p_t.Name ++ ([47] : Str))).1] : List Str) ++ (g_strings_Split p_w.Val ([44] : Str)))⟩ : DRow)).Gone)))))] Tryz.follows rfl ⟨oI rfl fun h => yl_move rfl (h.g 7 rfl) kI, oI rfl fun h => yl_not rfl (h.g 25 rfl) kI, oI rfl fun h => yl_move rfl (h.g 26 rfl) kI, oW rfl rfl rfl rfl (not_t hb74) fun h => yl_loadN ty34 rfl (h.g 2 rfl) ((Box.ex q103 h.ex).cells (n := 3) rfl) rfl kI, oW rfl rfl rfl rfl (not_t hb74) fun h => yl_loadN ty61 rfl (h.g 8 rfl) ((Box.ex hB72 h.ex).cells (n := 1) rfl) rfl kI, ?_, oW rfl rfl rfl rfl (not_t hb74) fun h => yl_not rfl (h.g 30 rfl) kI, oI rfl fun h => yl_pick_f rfl (h.g 27 rfl) (not_t hb74) (h.g 31 rfl) kI, oI rfl fun h => yl_move rfl (h.g 32 rfl) kI, ?_, oW rfl rfl rfl rfl (not_t hb97) fun h => yl_loadN ty34 rfl (h.g 2 rfl) ((Box.ex q103 h.ex).cells (n := 3) rfl) rfl kI, oW rfl rfl rfl rfl (not_t hb97) fun h => yl_loadN ty61 rfl (h.g 8 rfl) ((Box.ex hB72 h.ex).cells (n := 1) rfl) rfl kI, ?_, oW rfl rfl rfl rfl (not_t hb97) fun h => yl_aneq (xs := [.string (bs (p_w.Key)), .string (bs (p_w.Val)), .bool (p_w.Gone)]) (ys := [.string (bs ((i_Table_rowWrite p_t (⟨(([(g_strings_CutPrefix p_w.Key (p_t.Name ++ ([47] : Str))).1] : List Str) ++ (g_strings_Split p_w.Val ([44] : Str)))⟩ : DRow)).Key)), .string (bs ((i_Table_rowWrite p_t (⟨(([(g_strings_CutPrefix p_w.Key (p_t.Name ++ ([47] : Str))).1] : List Str) ++ (g_strings_Split p_w.Val ([44] : Str)))⟩ : DRow)).Val)), .bool ((i_Table_rowWrite p_t (⟨(([(g_strings_CutPrefix p_w.Key (p_t.Name ++ ([47] : Str))).1] : List Str) ++ (g_strings_Split p_w.Val ([44] : Str)))⟩ : DRow)).Gone)]) Tryz.ae57 rfl (h.g 34 rfl) (h.g 37 rfl) kI, oI rfl fun h => yl_pick_f rfl (h.g 33 rfl) (not_t hb97) (h.g 38 rfl) kI, trivial⟩ ?_
   ·intro L156 w157 hi158
    have hE159 := hi158.ex
    have hE159z := Ex.size hE159
    have q163 := Ex.trans q112 hE159
    have hol168 : (g_strings_Split p_w.Val ([44] : Str)).length ≤ 2147483648 := ho47.1
    exact OpR.want rfl rfl (hi158.g 27 rfl) (not_t hb74) (yl_call en80 rfl (oc (hi158.g 28 rfl) (oc (hi158.g 29 rfl) oz)) (Cal.mono (c_i_Table_isRow p_t (⟨(([(g_strings_CutPrefix p_w.Key (p_t.Name ++ ([47] : Str))).1] : List Str) ++ (g_strings_Split p_w.Val ([44] : Str)))⟩ : DRow) (RdS.up (RdS.ex good_Str h1 q163) good_Str) (RdS.up (RdS.ex good_Idx h2 q163) good_Idx) (RdS.up (OwnL.rd good_Str (OwnL.ex good_Str q117 hE159)) good_Str) o3 (okL.mk (xs := (([(g_strings_CutPrefix p_w.Key (p_t.Name ++ ([47] : Str))).1] : List Str) ++ (g_strings_Split p_w.Val ([44] : Str)))) (by first | omega | (simp only [List.length_append, List.length_cons, List.length_nil, List.length_take, List.length_drop, List.length_replicate, List.length_set, toS_length]; omega)) (okE.append ((okL.mk (Nat.le_of_ble_eq_true rfl) (okE.cons ho33 okE.nil))).2 (ho47).2))) fun _ _ h => h))
   ·intro L189 w190 hi191
    have hE192 := hi191.ex
    have hE192z := Ex.size hE192
    exact OpR.want rfl rfl (hi191.g 33 rfl) (not_t hb97) (Yl.sameI (yl_loadN ty57 rfl (hi191.g 3 rfl) ((Box.ex (Box.only (Box.ex (Box.grown (Box.ex q44 hE49) hG63 (hW hrg64)) hE70) hO73 (by omega)) hE192).cells (n := 3) rfl) rfl kI))
   ·intro L210 w211 hi212
    have hE213 := hi212.ex
    have hE213z := Ex.size hE213
    have q217 := Ex.trans q112 hE213
    have hol222 : (g_strings_Split p_w.Val ([44] : Str)).length ≤ 2147483648 := ho47.1
    exact OpR.want rfl rfl (hi212.g 33 rfl) (not_t hb97) (yl_call en81 rfl (oc (hi212.g 35 rfl) (oc (hi212.g 36 rfl) oz)) (Cal.mono (c_i_Table_rowWrite p_t (⟨(([(g_strings_CutPrefix p_w.Key (p_t.Name ++ ([47] : Str))).1] : List Str) ++ (g_strings_Split p_w.Val ([44] : Str)))⟩ : DRow) (RdS.up (RdS.ex good_Str h1 q217) good_Str) (RdS.up (RdS.ex good_Idx h2 q217) good_Idx) (RdS.up (OwnL.rd good_Str (OwnL.ex good_Str q117 hE213)) good_Str) o3 (okL.mk (xs := (([(g_strings_CutPrefix p_w.Key (p_t.Name ++ ([47] : Str))).1] : List Str) ++ (g_strings_Split p_w.Val ([44] : Str)))) (by first | omega | (simp only [List.length_append, List.length_cons, List.length_nil, List.length_take, List.length_drop, List.length_replicate, List.length_set, toS_length]; omega)) (okE.append ((okL.mk (Nat.le_of_ble_eq_true rfl) (okE.cons ho33 okE.nil))).2 (ho47).2)) (by first | omega | assumption | (simp only [wI] at *; omega) | (simp only [List.length_append, List.length_cons, List.length_nil]; omega)) (by first | omega | assumption | (simp only [wI] at *; omega) | (simp only [List.length_append, List.length_cons, List.length_nil]; omega)) (by first | omega | assumption | (simp only [wI] at *; omega) | (simp only [List.length_append, List.length_cons, List.length_nil]; omega))) fun _ _ h => h))
   ·intro fl242 fh243 L239 w240 hp241
    have hE244 := hp241.ex
    have hE244z := Ex.size hE244
    refine dn (CW.sub (hp241.ss [4, 8, 39] rfl) (bcase ((p_w.Key == ((i_Table_rowWrite p_t (⟨(([(g_strings_CutPrefix p_w.Key (p_t.Name ++ ([47] : Str))).1] : List Str) ++ (g_strings_Split p_w.Val ([44] : Str)))⟩ : DRow)).Key)) && ((p_w.Val == ((i_Table_rowWrite p_t (⟨(([(g_strings_CutPrefix p_w.Key (p_t.Name ++ ([47] : Str))).1] : List Str) ++ (g_strings_Split p_w.Val ([44] : Str)))⟩ : DRow)).Val)) && (p_w.Gone == ((i_Table_rowWrite p_t (⟨(([(g_strings_CutPrefix p_w.Key (p_t.Name ++ ([47] : Str))).1] : List Str) ++ (g_strings_Split p_w.Val ([44] : Str)))⟩ : DRow)).Gone)))) (fun hb248 => ?_) (fun hb248 => ?_)))
    ·refine CW.cond_f rfl (not_t hb248) (CW.skip (tn (CW.seq (CW.region (sd rfl (yl_loadN ty61 rfl rfl ((Box.ex hB72 hE244).cells (n := 1) rfl) rfl (SeqR.u rfl rfl (yl_storeA (vs := [.slice A58 ((([(g_strings_CutPrefix p_w.Key (p_t.Name ++ ([47] : Str))).1] : List Str) ++ (g_strings_Split p_w.Val ([44] : Str))).length) c59]) ty61 rfl rfl rfl rfl rfl rfl (Box.ex (Box.only (Box.ex (Box.grown (Box.ex (Box.ex (Box.ex hB26 hE35) hE41) hE49) hG63 (hW hrg64)) hE70) hO73 (by omega)) hE244) rfl ?_))))))))
     intro w257 hB258 hO259
     have hO259z := hO259.size
     refine sd rfl (yl_assign rfl rfl (dn (CW.ret (rr rfl (.cons ⟨_, rfl, run_loadN ty61 (cs := [.slice A58 ((([(g_strings_CutPrefix p_w.Key (p_t.Name ++ ([47] : Str))).1] : List Str) ++ (g_strings_Split p_w.Val ([44] : Str))).length) c59]) rfl (hB258.cells (n := 1) rfl)⟩ (.cons rfl .nil)) ?_))))
     have hol263 : (g_strings_Split p_w.Val ([44] : Str)).length ≤ 2147483648 := ho47.1
     rw [show (i_Table_readRow p_t p_w) = (((⟨(([(g_strings_CutPrefix p_w.Key (p_t.Name ++ ([47] : Str))).1] : List Str) ++ (g_strings_Split p_w.Val ([44] : Str)))⟩ : DRow), true)) by simp only [i_Table_readRow, hb74, hb97, hb248, cL]]
     exact ⟨A58, c59, b36, w60.heap.size, rfl, (OwnL.only good_Str (OwnL.ex good_Str q117 hE244) hO259 (by omega)), (okL.mk (xs := (([(g_strings_CutPrefix p_w.Key (p_t.Name ++ ([47] : Str))).1] : List Str) ++ (g_strings_Split p_w.Val ([44] : Str)))) (by first | omega | (simp only [List.length_append, List.length_cons, List.length_nil, List.length_take, List.length_drop, List.length_replicate, List.length_set, toS_length]; omega)) (okE.append ((okL.mk (Nat.le_of_ble_eq_true rfl) (okE.cons ho33 okE.nil))).2 (ho47).2)), (by omega), (Below.only (Ex.trans q112 hE244) hO259 (by omega))⟩
    ·refine CW.cond_t rfl (not_f hb248) (CW.seq (CW.region (sd rfl (yl_build (cs := [.slice none 0 0]) rfl opvs_nil (by kernel_rfl) (SeqR.u rfl rfl (yl_storeA (vs := [.slice none 0 0]) ty61 rfl rfl rfl rfl rfl rfl (Box.ex (Box.only (Box.ex (Box.grown (Box.ex (Box.ex (Box.ex hB26 hE35) hE41) hE49) hG63 (hW hrg64)) hE70) hO73 (by omega)) hE244) rfl ?_))))))
     intro w273 hB274 hO275
     have hO275z := hO275.size
     refine sd rfl (yl_assign rfl rfl (dn (CW.ret (tr (rr rfl (.cons ⟨_, rfl, run_loadN ty61 (cs := [.slice none 0 0]) rfl (hB274.cells (n := 1) rfl)⟩ (.cons rfl .nil)) ?_)))))
     rw [show (i_Table_readRow p_t p_w) = (((⟨[]⟩ : DRow), false)) by simp only [i_Table_readRow, hb74, hb97, hb248, cL]]
     exact ⟨none, 0, w273.heap.size, w273.heap.size, rfl, (OwnL.nil _ _ _ _ _ _), (okL.nil _), (by omega), (Below.only (Ex.trans q112 hE244) hO275 (by omega))⟩
  ·have q293 := Below.only (Ex.trans (Below.grown (Ex.trans (Ex.trans (Ex.trans (Ex.trans (Ex.trans (Ex.trans (Ex.refl w) hE15) hE21) hE27) hE35) hE41) hE49) hG63 (by omega) (hW hrg64)) hE70) hO73 (by omega)
   have hol299 : (g_strings_Split p_w.Val ([44] : Str)).length ≤ 2147483648 := ho47.1
   refine drJ 15 [.bool ((g_strings_CutPrefix p_w.Key (p_t.Name ++ ([47] : Str))).2), .bool (!((g_strings_CutPrefix p_w.Key (p_t.Name ++ ([47] : Str))).2)), .bool (!((g_strings_CutPrefix p_w.Key (p_t.Name ++ ([47] : Str))).2)), .agg #[.string (bs (p_t.Name)), .slice A1 p_t.Cols.length c1, .slice A2 p_t.Idxs.length c2], .agg #[.slice A58 ((([(g_strings_CutPrefix p_w.Key (p_t.Name ++ ([47] : Str))).1] : List Str) ++ (g_strings_Split p_w.Val ([44] : Str))).length) c59], .bool ((i_Table_isRow p_t (⟨(([(g_strings_CutPrefix p_w.Key (p_t.Name ++ ([47] : Str))).1] : List Str) ++ (g_strings_Split p_w.Val ([44] : Str)))⟩ : DRow))), .bool (!(i_Table_isRow p_t (⟨(([(g_strings_CutPrefix p_w.Key (p_t.Name ++ ([47] : Str))).1] : List Str) ++ (g_strings_Split p_w.Val ([44] : Str)))⟩ : DRow))), .bool (!(i_Table_isRow p_t (⟨(([(g_strings_CutPrefix p_w.Key (p_t.Name ++ ([47] : Str))).1] : List Str) ++ (g_strings_Split p_w.Val ([44] : Str)))⟩ : DRow))), .bool (!(i_Table_isRow p_t (⟨(([(g_strings_CutPrefix p_w.Key (p_t.Name ++ ([47] : Str))).1] : List Str) ++ (g_strings_Split p_w.Val ([44] : Str)))⟩ : DRow))), undef, undef, undef, undef, undef, .bool (true)] Tryz.follows rfl ⟨oI rfl fun h => yl_move rfl (h.g 7 rfl) kI, oI rfl fun h => yl_not rfl (h.g 25 rfl) kI, oI rfl fun h => yl_move rfl (h.g 26 rfl) kI, ?_, oW rfl rfl rfl rfl (not_t hb74) fun h => yl_loadN ty61 rfl (h.g 8 rfl) ((Box.ex hB72 h.ex).cells (n := 1) rfl) rfl kI, ?_, oW rfl rfl rfl rfl (not_t hb74) fun h => yl_not rfl (h.g 30 rfl) kI, oI rfl fun h => yl_pick_f rfl (h.g 27 rfl) (not_t hb74) (h.g 31 rfl) kI, oI rfl fun h => yl_move rfl (h.g 32 rfl) kI, oS rfl rfl rfl rfl rfl (not_f hb97), oS rfl rfl rfl rfl rfl (not_f hb97), oS rfl rfl rfl rfl rfl (not_f hb97), oS rfl rfl rfl rfl rfl (not_f hb97), oS rfl rfl rfl rfl rfl (not_f hb97), oI rfl fun h => yl_pick_t rfl (h.g 33 rfl) (not_f hb97) rfl kI, trivial⟩ ?_
   ·intro L316 w317 hi318
    have hE319 := hi318.ex
    have hE319z := Ex.size hE319
    exact OpR.want rfl rfl (hi318.g 27 rfl) (not_t hb74) (Yl.sameI (yl_loadN ty34 rfl (hi318.g 2 rfl) ((Box.ex (Box.only (Box.ex (Box.grown (Box.ex (Box.ex (Box.ex q30 hE35) hE41) hE49) hG63 (hW hrg64)) hE70) hO73 (by omega)) hE319).cells (n := 3) rfl) rfl kI))
   ·intro L330 w331 hi332
    have hE333 := hi332.ex
    have hE333z := Ex.size hE333
    have q337 := Ex.trans q293 hE333
    have hol342 : (g_strings_Split p_w.Val ([44] : Str)).length ≤ 2147483648 := ho47.1
    exact OpR.want rfl rfl (hi332.g 27 rfl) (not_t hb74) (yl_call en80 rfl (oc (hi332.g 28 rfl) (oc (hi332.g 29 rfl) oz)) (Cal.mono (c_i_Table_isRow p_t (⟨(([(g_strings_CutPrefix p_w.Key (p_t.Name ++ ([47] : Str))).1] : List Str) ++ (g_strings_Split p_w.Val ([44] : Str)))⟩ : DRow) (RdS.up (RdS.ex good_Str h1 q337) good_Str) (RdS.up (RdS.ex good_Idx h2 q337) good_Idx) (RdS.up (OwnL.rd good_Str (OwnL.ex good_Str (OwnL.only good_Str (OwnL.ex good_Str hO62 hE70) hO73 (by omega)) hE333)) good_Str) o3 (okL.mk (xs := (([(g_strings_CutPrefix p_w.Key (p_t.Name ++ ([47] : Str))).1] : List Str) ++ (g_strings_Split p_w.Val ([44] : Str)))) (by first | omega | (simp only [List.length_append, List.length_cons, List.length_nil, List.length_take, List.length_drop, List.length_replicate, List.length_set, toS_length]; omega)) (okE.append ((okL.mk (Nat.le_of_ble_eq_true rfl) (okE.cons ho33 okE.nil))).2 (ho47).2))) fun _ _ h => h))
   ·intro fl397 fh398 L394 w395 hp396
    have hE399 := hp396.ex
    have hE399z := Ex.size hE399
    refine dn (CW.sub (hp396.ss [4, 8, 39] rfl) (CW.cond_t rfl rfl (CW.seq (CW.region (sd rfl (yl_build (cs := [.slice none 0 0]) rfl opvs_nil (by kernel_rfl) (SeqR.u rfl rfl (yl_storeA (vs := [.slice none 0 0]) ty61 rfl rfl rfl rfl rfl rfl (Box.ex (Box.only (Box.ex (Box.grown (Box.ex (Box.ex (Box.ex hB26 hE35) hE41) hE49) hG63 (hW hrg64)) hE70) hO73 (by omega)) hE399) rfl ?_))))))))
    intro w410 hB411 hO412
    have hO412z := hO412.size
    refine sd rfl (yl_assign rfl rfl (dn (CW.ret (tr (rr rfl (.cons ⟨_, rfl, run_loadN ty61 (cs := [.slice none 0 0]) rfl (hB411.cells (n := 1) rfl)⟩ (.cons rfl .nil)) ?_)))))
    rw [show (i_Table_readRow p_t p_w) = (((⟨[]⟩ : DRow), false)) by simp only [i_Table_readRow, hb74, hb97, cL]]
    exact ⟨none, 0, w410.heap.size, w410.heap.size, rfl, (OwnL.nil _ _ _ _ _ _), (okL.nil _), (by omega), (Below.only (Ex.trans q293 hE399) hO412 (by omega))⟩
 ·refine drJ 15 [.bool ((g_strings_CutPrefix p_w.Key (p_t.Name ++ ([47] : Str))).2), .bool (!((g_strings_CutPrefix p_w.Key (p_t.Name ++ ([47] : Str))).2)), .bool (!((g_strings_CutPrefix p_w.Key (p_t.Name ++ ([47] : Str))).2)), undef, undef, undef, undef, .bool (true), .bool (true), undef, undef, undef, undef, undef, .bool (true)] Tryz.follows rfl ⟨oI rfl fun h => yl_move rfl (h.g 7 rfl) kI, oI rfl fun h => yl_not rfl (h.g 25 rfl) kI, oI rfl fun h => yl_move rfl (h.g 26 rfl) kI, oS rfl rfl rfl rfl rfl (not_f hb74), oS rfl rfl rfl rfl rfl (not_f hb74), oS rfl rfl rfl rfl rfl (not_f hb74), oS rfl rfl rfl rfl rfl (not_f hb74), oI rfl fun h => yl_pick_t rfl (h.g 27 rfl) (not_f hb74) rfl kI, oI rfl fun h => yl_move rfl (h.g 32 rfl) kI, oS rfl rfl rfl rfl rfl rfl, oS rfl rfl rfl rfl rfl rfl, oS rfl rfl rfl rfl rfl rfl, oS rfl rfl rfl rfl rfl rfl, oS rfl rfl rfl rfl rfl rfl, oI rfl fun h => yl_pick_t rfl (h.g 33 rfl) rfl rfl kI, trivial⟩ ?_
  ·intro fl496 fh497 L493 w494 hp495
   have hE498 := hp495.ex
   have hE498z := Ex.size hE498
   refine dn (CW.sub (hp495.ss [4, 8, 39] rfl) (CW.cond_t rfl rfl (CW.seq (CW.region (sd rfl (yl_build (cs := [.slice none 0 0]) rfl opvs_nil (by kernel_rfl) (SeqR.u rfl rfl (yl_storeA (vs := [.slice none 0 0]) ty61 rfl rfl rfl rfl rfl rfl (Box.ex (Box.only (Box.ex (Box.grown (Box.ex (Box.ex (Box.ex hB26 hE35) hE41) hE49) hG63 (hW hrg64)) hE70) hO73 (by omega)) hE498) rfl ?_))))))))
   intro w509 hB510 hO511
   have hO511z := hO511.size
   refine sd rfl (yl_assign rfl rfl (dn (CW.ret (tr (rr rfl (.cons ⟨_, rfl, run_loadN ty61 (cs := [.slice none 0 0]) rfl (hB510.cells (n := 1) rfl)⟩ (.cons rfl .nil)) ?_)))))
   rw [show (i_Table_readRow p_t p_w) = (((⟨[]⟩ : DRow), false)) by simp only [i_Table_readRow, hb74, cL]]
   exact ⟨none, 0, w509.heap.size, w509.heap.size, rfl, (OwnL.nil _ _ _ _ _ _), (okL.nil _), (by omega), (Below.only (Ex.trans (Below.only (Ex.trans (Below.grown (Ex.trans (Ex.trans (Ex.trans (Ex.trans (Ex.trans (Ex.trans (Ex.refl w) hE15) hE21) hE27) hE35) hE41) hE49) hG63 (by omega) (hW hrg64)) hE70) hO73 (by omega)) hE498) hO511 (by omega))⟩
theorem c_i_Table_rowsIn {A1 : Option Addr} {c1 : Nat} {A2 : Option Addr} {c2 : Nat} {A4 : Option Addr} {c4 : Nat} {w : World} (p_t : DTable) (p_store : List DWrite) (h1 : RdS w (Iv 0 w.heap.size) (RF e_Str) 1 A1 p_t.Cols.length c1 p_t.Cols) (h2 : RdS w (Iv 0 w.heap.size) (RF e_Idx) 3 A2 p_t.Idxs.length c2 p_t.Idxs) (h4 : RdS w (Iv 0 w.heap.size) (RF e_Write) 3 A4 p_store.length c4 p_store) (o3 : ok_Table p_t) (o5 : (okL ok_Write) p_store) (pre0 : s_GoodTable p_t = true) : Cal Tryz.prog 33 #[.agg #[.string (bs (p_t.Name)), .slice A1 p_t.Cols.length c1, .slice A2 p_t.Idxs.length c2], .slice A4 p_store.length c4] w fun v w' => ∃ A_1 c_1 lo_1 hi_1, v = .slice A_1 ((i_Table_rowsIn p_t p_store).length) c_1 ∧ OwnD w' lo_1 hi_1 61 1 RO_Row A_1 ((i_Table_rowsIn p_t p_store).length) c_1 (i_Table_rowsIn p_t p_store) ∧ (okL ok_Row) (i_Table_rowsIn p_t p_store) ∧ (w.heap.size ≤ lo_1 ∧ lo_1 ≤ hi_1 ∧ hi_1 ≤ w'.heap.size) ∧ Ex w w' := by
 have hol6 : p_t.Name.length ≤ 1073741824 := o3.1
 have hol7 := o3.2.1.1
 have hol8 := o3.2.2.1
 have hol9 := o5.1
 refine Cal.of func33 rfl ntmps33 rfl (CW.seq (CW.region (sd rfl (yl_box rfl rfl rfl ?_))))
 intro b10 w11 hs12 hz13 hB14 hE15
 refine sd rfl (yl_assign rfl rfl (dn (CW.seq (CW.region (sd rfl (yl_buildSlice (cs := []) un29 ty61 (by decide) rfl opvs_nil (by kernel_rfl) ?_))))))
 intro b16 w17 hs18 hz19 hB20 hE21
 have hO22 : OwnL w17 b16 (b16 + 1) 61 1 R_Row (some ⟨b16, 0, none⟩) 0 0 ([] : List DRow) := oB hB20
 refine sd rfl (yl_assign rfl rfl (dn (CW.seq (CW.seq (CW.region (sd rfl (yl_move rfl rfl (sd rfl (yl_len un36 rfl rfl (sd rfl (yl_move rfl rfl ?_)))))))))))
 refine dn (CW.block (CW.loop (fun m109 L110 w111 => ∃ (k23 : Nat) (x105 : List DRow) (A106 : Option Addr) (c107 : Nat) (u108 : Nat), m109 = p_store.length - k23 ∧ k23 ≤ p_store.length ∧ w17.heap.size ≤ w111.heap.size ∧ Sub [(2, .pointer (some ⟨b10, 0, none⟩)), (5, .slice A106 x105.length c107), (11, .slice A4 p_store.length c4), (12, .int .i64 ((p_store.length : Int))), (13, .int .i64 ((k23 : Int)))] L110 ∧ Box w111 b10 34 [.string (bs (p_t.Name)), .slice A1 p_t.Cols.length c1, .slice A2 p_t.Idxs.length c2] ∧ OwnD w111 b16 u108 61 1 RO_Row A106 x105.length c107 x105 ∧ Ex w w111 ∧ (b16 ≤ u108 ∧ u108 ≤ w111.heap.size) ∧ x105.length ≤ 0 + 1 * (k23 - 0) ∧ (∀ y ∈ x105, ok_Row y) ∧ loopM (B_i_Table_rowsIn_0 p_t p_store) (p_store.length - k23) k23 (x105) = loopM (B_i_Table_rowsIn_0 p_t p_store) (p_store.length - 0) 0 (([] : List DRow))) (p_store.length - 0) ?_ ?_))
 ·exact ⟨0, ([] : List DRow), (some ⟨b16, 0, none⟩), 0, (b16 + 1), rfl, (by omega), Nat.le_refl _, (sR rfl), (Box.ex hB14 hE21), (OwnD.empty w17 b16 (b16 + 1) 61 1 RO_Row (some ⟨b16, 0, none⟩)), (Ex.trans (Ex.trans (Ex.refl w) hE15) hE21), (by omega), (by first | (simp; done) | (first | omega | (simp only [List.length_append, List.length_cons, List.length_nil, List.length_set, toS_length]; omega))), okE.nil, rfl⟩
 ·rintro m115 L116 w117 ⟨k23, x105, A106, c107, u108, rfl, hk118, hsz120, hl121, hf122, hf123, hf124, hu125, hln126, hok127, hI119⟩
  refine CW.sub hl121 ?_
  have hf122z := Box.lt hf122
  have hf124z := Ex.size hf124
  have q129 := RdS.ex good_Write h4 hf124
  have hbg128 := RdS.big q129
  rcases Nat.lt_or_ge k23 p_store.length with hlt130 | hlt130
  ·refine CW.seq (CW.region (sd rfl (yl_lss rfl rfl rfl (dn (CW.seq (CW.cond_t rfl (lt_t hlt130) (CW.skip (tn ?_))))))))
   refine CW.seq (CW.block (CW.seq (CW.region ?_)))
   obtain ⟨_, _, _, eA131, _, ebl131, _, eR131, eC131⟩ := RdS.aD q129 d_Write (i := k23)
   obtain rfl := eR131
   refine sd rfl (yl_ixN un36 ty57 rfl rfl rfl eA131 (sd rfl (yl_loadN ty57 rfl rfl eC131 rfl (sd rfl (yl_alloc ty57 (cs := [.string (bs (([] : Str))), .string (bs (([] : Str))), .bool (false)]) rfl rfl ?_)))))
   intro b132 w133 hs134 hz135 hB136 hE137
   refine SeqR.u rfl rfl (yl_storeA (vs := [.string (bs ((p_store.getD k23 d_Write).Key)), .string (bs ((p_store.getD k23 d_Write).Val)), .bool ((p_store.getD k23 d_Write).Gone)]) ty57 rfl rfl rfl rfl rfl rfl hB136 rfl ?_)
   intro w138 hB139 hO140
   have hO140z := hO140.size
   refine dn (CW.seq (CW.region ?_))
   have q142 := Box.only (Box.ex hf122 hE137) hO140 (by omega)
   refine sd rfl (yl_loadN ty34 rfl rfl (q142.cells (n := 3) rfl) rfl (sd rfl (yl_loadN ty57 rfl rfl (hB139.cells (n := 3) rfl) rfl ?_)))
   have q144 := Below.only (Ex.trans hf124 hE137) hO140 (by omega)
   refine sd rfl (yl_call en63 rfl (oc rfl (oc rfl oz)) (Cal.mono (c_i_Table_readRow p_t (p_store.getD k23 d_Write) (RdS.up (RdS.ex good_Str h1 q144) good_Str) (RdS.up (RdS.ex good_Idx h2 q144) good_Idx) o3 (okL.getD o5 ok_d_Write _) (by first | omega | assumption | (simp only [wI] at *; omega))) ?_))
   rintro v150 w147 ⟨A148, c148, lo148, hi148, rfl, h148, ho149, hrn152, hE151⟩
   have hE151z := Ex.size hE151
   refine sd rfl (yl_move rfl rfl (sd rfl (yl_extract rfl rfl rfl (sd rfl (yl_extract rfl rfl rfl (sd rfl (yl_alloc ty61 (cs := [.slice none 0 0]) rfl rfl ?_)))))))
   intro b153 w154 hs155 hz156 hB157 hE158
   refine SeqR.u rfl rfl (yl_storeA (vs := [.slice A148 (((i_Table_readRow p_t (p_store.getD k23 d_Write)).1.Vals).length) c148]) ty61 rfl rfl rfl rfl rfl rfl hB157 rfl ?_)
   intro w159 hB160 hO161
   have hO161z := hO161.size
   refine sd rfl (yl_assign rfl rfl (dn (CW.seq (CW.region (sd rfl (yl_move rfl rfl (dn (bcase ((i_Table_readRow p_t (p_store.getD k23 d_Write)).2) (fun hb162 => ?_) (fun hb162 => ?_)))))))))
   ·refine CW.cond_t rfl hb162 (CW.region (sd rfl (yl_move rfl rfl (sd rfl (yl_loadN ty61 rfl rfl (hB160.cells (n := 1) rfl) rfl (sd rfl (yl_buildSlice (cs := [.slice A148 (((i_Table_readRow p_t (p_store.getD k23 d_Write)).1.Vals).length) c148]) un29 ty61 (by decide) rfl (oc rfl oz) (by kernel_rfl) ?_)))))))
    intro b163 w164 hs165 hz166 hB167 hE168
    have hO169 : OwnD w164 w138.heap.size (b163 + 1) 61 1 RO_Row (some ⟨b163, 0, none⟩) 1 1 ([(i_Table_readRow p_t (p_store.getD k23 d_Write)).1] : List DRow) := OwnD.of_box (b := b163) (xs := ([(i_Table_readRow p_t (p_store.getD k23 d_Write)).1] : List DRow)) (cells := [[.slice A148 (((i_Table_readRow p_t (p_store.getD k23 d_Write)).1.Vals).length) c148]]) (by rw [List.flatten_singleton]; exact hB167) (by omega) (Nat.lt_succ_self _) (.cons (l := w138.heap.size) (h := b163) (Nat.le_refl _) (by omega) rfl (fun k hk => by cases hk; exact .inr (Nat.le_refl _)) (mkO_Row (l := w138.heap.size) (h := b163) (OwnL.ex good_Str (OwnL.only good_Str (OwnL.ex good_Str h148 hE158) hO161 (by omega)) hE168) (by omega)) (.nil (Nat.le_succ _))) (Nat.le_of_ble_eq_true rfl)
    refine sd rfl (yl_appendD (xs := x105) (ys := ([(i_Table_readRow p_t (p_store.getD k23 d_Write)).1] : List DRow)) goodO_Row un29 ty61 rfl (Nat.le_of_ble_eq_true rfl) rfl rfl rfl (OwnD.ex goodO_Row (OwnD.only goodO_Row (OwnD.ex goodO_Row (OwnD.ex goodO_Row (OwnD.only goodO_Row (OwnD.ex goodO_Row hf123 hE137) hO140 (by omega)) hE151) hE158) hO161 (by omega)) hE168) hO169 (by first | omega | (simp only [List.length_append, List.length_cons, List.length_nil, List.length_take, List.length_drop, List.length_replicate, List.length_set, toS_length]; omega)) (by first | omega | (simp only [List.length_append, List.length_cons, List.length_nil, List.length_take, List.length_drop, List.length_replicate, List.length_set, toS_length]; omega)) (by omega) (by omega) (by omega) (by omega) ?_)
    intro A178 c179 w180 row181 hO182 hG183 hrg184
    have hG183z := hG183.size
    refine sd rfl (yl_assign rfl rfl (SeqR.done (bn (tn (CW.region (sd rfl (yl_inc rfl rfl rfl (by omega) (sd rfl (yl_move rfl rfl (dn ?_))))))))))
    have hB185 : B_i_Table_rowsIn_0 p_t p_store k23 (x105) = .cont ((x105 ++ ([(i_Table_readRow p_t (p_store.getD k23 d_Write)).1] : List DRow))) := by simp only [B_i_Table_rowsIn_0, hb162, cL]
    exact ⟨p_store.length - (k23 + 1), by omega, k23 + 1, (x105 ++ ([(i_Table_readRow p_t (p_store.getD k23 d_Write)).1] : List DRow)), A178, c179, w180.heap.size, rfl, hlt130, (by omega), (sR rfl), (Box.grown (Box.ex (Box.only (Box.ex (Box.ex q142 hE151) hE158) hO161 (by omega)) hE168) hG183 (hW hrg184)), hO182, (Below.grown (Ex.trans (Below.only (Ex.trans (Ex.trans q144 hE151) hE158) hO161 (by omega)) hE168) hG183 (by omega) (hW hrg184)), (by omega), (by first | omega | (simp only [List.length_append, List.length_cons, List.length_nil, List.length_set, toS_length]; omega)), (okE.append hok127 ((okL.mk (Nat.le_of_ble_eq_true rfl) (okE.cons (show ok_Row ((i_Table_readRow p_t (p_store.getD k23 d_Write)).1) from ho149) okE.nil))).2), (loopM.cont hlt130 hB185).symm.trans hI119⟩
   ·refine CW.cond_f rfl hb162 (CW.skip (bn (tn (CW.region (sd rfl (yl_inc rfl rfl rfl (by omega) (sd rfl (yl_move rfl rfl (dn ?_)))))))))
    have hB196 : B_i_Table_rowsIn_0 p_t p_store k23 (x105) = .cont (x105) := by simp only [B_i_Table_rowsIn_0, hb162, cL]
    exact ⟨p_store.length - (k23 + 1), by omega, k23 + 1, x105, A106, c107, u108, rfl, hlt130, (by omega), (sR rfl), (Box.only (Box.ex (Box.ex q142 hE151) hE158) hO161 (by omega)), (OwnD.only goodO_Row (OwnD.ex goodO_Row (OwnD.ex goodO_Row (OwnD.only goodO_Row (OwnD.ex goodO_Row hf123 hE137) hO140 (by omega)) hE151) hE158) hO161 (by omega)), (Below.only (Ex.trans (Ex.trans q144 hE151) hE158) hO161 (by omega)), (by omega), (by first | omega | (simp only [List.length_append, List.length_cons, List.length_nil, List.length_set, toS_length]; omega)), hok127, (loopM.cont hlt130 hB196).symm.trans hI119⟩
  ·refine CW.seq (CW.region (sd rfl (yl_lss rfl rfl rfl (dn (CW.seq (CW.cond_f rfl (lt_f hlt130) (CW.exit (tx ?_))))))))
   refine tx ?_
   have hL208 : loopM (B_i_Table_rowsIn_0 p_t p_store) (p_store.length - 0) 0 (([] : List DRow)) = .done (x105) := hI119.symm.trans (loopM.stop hlt130)
   refine bx (tn (CW.seq (CW.region (sd rfl (yl_move rfl rfl (sd rfl (yl_assign rfl rfl (dn (CW.ret ?_)))))))))
   refine rr rfl (.cons rfl .nil) ?_
   rw [show (i_Table_rowsIn p_t p_store) = (x105) by simp only [i_Table_rowsIn, hL208, cL]]
   exact ⟨A106, c107, b16, u108, rfl, hf123, (okL.mk (xs := x105) (by first | omega | (simp only [List.length_append, List.length_cons, List.length_nil, List.length_take, List.length_drop, List.length_replicate, List.length_set, toS_length]; omega)) hok127), (by omega), hf124⟩
theorem c_i_ScanRange_c1 {A1 : Option Addr} {c1 : Nat} {b3 : Nat} {b5 : Nat} {b8 : Nat} {w : World} (p_r : DRow) (p_cap0 : Int) (p_cap1 : Str) (p_cap2 : Str) (h1 : RdS w (Iv 0 w.heap.size) (RF e_Str) 1 A1 p_r.Vals.length c1 p_r.Vals) (h4 : Box w b3 3 [.int .i64 (p_cap0)]) (h6 : Box w b5 9 [.string (bs (p_cap1))]) (h9 : Box w b8 9 [.string (bs (p_cap2))]) (o2 : ok_Row p_r) (o7 : okS p_cap1) (o10 : okS p_cap2) (pre0 : (0 ≤ p_cap0 ∧ p_cap0 < (p_r.Vals.length : Int))) : Cal Tryz.prog 34 #[.agg #[.slice A1 p_r.Vals.length c1], .pointer (some ⟨b3, 0, none⟩), .pointer (some ⟨b5, 0, none⟩), .pointer (some ⟨b8, 0, none⟩)] w fun v w' => v = .bool ((i_ScanRange_c1 p_r p_cap0 p_cap1 p_cap2)) ∧ Ex w w' := by
 have hol11 := o2.1
 have hol12 : p_cap1.length ≤ 1073741824 := o7
 have hol13 : p_cap2.length ≤ 1073741824 := o10
 refine Cal.of func34 rfl ntmps34 rfl (CW.seq (CW.region (sd rfl (yl_box rfl rfl rfl ?_))))
 intro b14 w15 hs16 hz17 hB18 hE19
 refine sd rfl (yl_assign rfl rfl (dn (CW.seq ?_)))
 obtain ⟨_, _, _, _, _, ebl23, _, eR23, _⟩ := RdS.atD (RdS.ex good_Str h1 (Ex.trans (Ex.refl w) hE19)) d_Str (i := (p_cap0).toNat) (by first | omega | assumption | (simp only [wI] at *; omega))
 obtain rfl := eR23
 refine bcase (sLt (p_r.Vals.getD ((p_cap0).toNat) d_Str) p_cap1) (fun hb25 => ?_) (fun hb25 => ?_)
 ·have q27 := Ex.trans (Ex.refl w) hE19
  obtain ⟨eb29, eo29, _, eA29, _, ebl29, _, eR29, eC29⟩ := RdS.atD (RdS.ex good_Str h1 q27) d_Str (i := (p_cap0).toNat) (by first | omega | assumption | (simp only [wI] at *; omega))
  obtain rfl := eR29
  refine drJ 17 [.pointer (some ⟨b14, 0 + 0, none⟩), .slice A1 p_r.Vals.length c1, .int .i64 (p_cap0), .pointer (some ⟨eb29, eo29 + ((p_cap0).toNat) * 1, none⟩), .string (bs ((p_r.Vals.getD ((p_cap0).toNat) d_Str))), .string (bs (p_cap1)), .bool (sLt (p_r.Vals.getD ((p_cap0).toNat) d_Str) p_cap1), .bool (sLt (p_r.Vals.getD ((p_cap0).toNat) d_Str) p_cap1), undef, undef, undef, undef, undef, undef, undef, .bool (true), .bool (true)] Tryz.follows rfl ⟨oI rfl fun h => yl_fieldAddr fd61_0 rfl (h.g 4 rfl) kI, oI rfl fun h => yl_load1 ty22 rfl (h.g 6 rfl) (((Box.ex hB18 h.ex).cell 0).trans rfl) kI, oI rfl fun h => yl_load1 ty3 rfl (h.g 1 rfl) (((Box.ex (Box.ex h4 hE19) h.ex).cell 0).trans rfl) kI, ?_, oI rfl fun h => yl_load1 ty9 rfl (h.g 9 rfl) ((Cells.ex eC29 h.ex) 0 _ rfl) kI, oI rfl fun h => yl_load1 ty9 rfl (h.g 2 rfl) (((Box.ex (Box.ex h6 hE19) h.ex).cell 0).trans rfl) kI, oI rfl fun h => yl_slss (a := (p_r.Vals.getD ((p_cap0).toNat) d_Str)) (b := p_cap1) rfl (h.g 10 rfl) (h.g 11 rfl) kI, oI rfl fun h => yl_move rfl (h.g 12 rfl) kI, oS rfl rfl rfl rfl rfl hb25, oS rfl rfl rfl rfl rfl hb25, oS rfl rfl rfl rfl rfl hb25, oS rfl rfl rfl rfl rfl hb25, oS rfl rfl rfl rfl rfl hb25, oS rfl rfl rfl rfl rfl hb25, oS rfl rfl rfl rfl rfl hb25, oI rfl fun h => yl_pick_t rfl (h.g 13 rfl) hb25 rfl kI, oI rfl fun h => yl_assign rfl (h.g 21 rfl) kI, trivial⟩ ?_
  ·intro L48 w49 hi50
   have hE51 := hi50.ex
   have hE51z := Ex.size hE51
   exact os rfl ((yl_indexAddr un22 ty9 rfl (hi50.g 7 rfl) (hi50.g 8 rfl) eA29 (by first | omega | assumption | (simp only [wI] at *; omega)) (by first | omega | assumption | (simp only [wI] at *; omega)) kI))
  ·intro fl126 fh127 L123 w124 hp125
   have hE128 := hp125.ex
   have hE128z := Ex.size hE128
   refine dn (CW.sub (hp125.ss [5] rfl) (CW.ret (rr rfl (.cons rfl .nil) ?_)))
   rw [show (i_ScanRange_c1 p_r p_cap0 p_cap1 p_cap2) = (true) by simp only [i_ScanRange_c1, hb25, cL]]
   exact ⟨rfl, (Ex.trans q27 hE128)⟩
 ·have q132 := Box.ex h4 hE19
  have q133 := Ex.trans (Ex.refl w) hE19
  obtain ⟨eb135, eo135, _, eA135, _, ebl135, _, eR135, eC135⟩ := RdS.atD (RdS.ex good_Str h1 q133) d_Str (i := (p_cap0).toNat) (by first | omega | assumption | (simp only [wI] at *; omega))
  obtain rfl := eR135
  refine drJ 17 [.pointer (some ⟨b14, 0 + 0, none⟩), .slice A1 p_r.Vals.length c1, .int .i64 (p_cap0), .pointer (some ⟨eb135, eo135 + ((p_cap0).toNat) * 1, none⟩), .string (bs ((p_r.Vals.getD ((p_cap0).toNat) d_Str))), .string (bs (p_cap1)), .bool (sLt (p_r.Vals.getD ((p_cap0).toNat) d_Str) p_cap1), .bool (sLt (p_r.Vals.getD ((p_cap0).toNat) d_Str) p_cap1), .pointer (some ⟨b14, 0 + 0, none⟩), .slice A1 p_r.Vals.length c1, .int .i64 (p_cap0), .pointer (some ⟨eb135, eo135 + ((p_cap0).toNat) * 1, none⟩), .string (bs ((p_r.Vals.getD ((p_cap0).toNat) d_Str))), .string (bs (p_cap2)), .bool (!(sLe (p_r.Vals.getD ((p_cap0).toNat) d_Str) p_cap2)), .bool (!(sLe (p_r.Vals.getD ((p_cap0).toNat) d_Str) p_cap2)), .bool (!(sLe (p_r.Vals.getD ((p_cap0).toNat) d_Str) p_cap2))] Tryz.follows rfl ⟨oI rfl fun h => yl_fieldAddr fd61_0 rfl (h.g 4 rfl) kI, oI rfl fun h => yl_load1 ty22 rfl (h.g 6 rfl) (((Box.ex hB18 h.ex).cell 0).trans rfl) kI, oI rfl fun h => yl_load1 ty3 rfl (h.g 1 rfl) (((Box.ex q132 h.ex).cell 0).trans rfl) kI, ?_, oI rfl fun h => yl_load1 ty9 rfl (h.g 9 rfl) ((Cells.ex eC135 h.ex) 0 _ rfl) kI, oI rfl fun h => yl_load1 ty9 rfl (h.g 2 rfl) (((Box.ex (Box.ex h6 hE19) h.ex).cell 0).trans rfl) kI, oI rfl fun h => yl_slss (a := (p_r.Vals.getD ((p_cap0).toNat) d_Str)) (b := p_cap1) rfl (h.g 10 rfl) (h.g 11 rfl) kI, oI rfl fun h => yl_move rfl (h.g 12 rfl) kI, oW rfl rfl rfl rfl hb25 fun h => yl_fieldAddr fd61_0 rfl (h.g 4 rfl) kI, oW rfl rfl rfl rfl hb25 fun h => yl_load1 ty22 rfl (h.g 14 rfl) (((Box.ex hB18 h.ex).cell 0).trans rfl) kI, oW rfl rfl rfl rfl hb25 fun h => yl_load1 ty3 rfl (h.g 1 rfl) (((Box.ex q132 h.ex).cell 0).trans rfl) kI, ?_, oW rfl rfl rfl rfl hb25 fun h => yl_load1 ty9 rfl (h.g 17 rfl) ((Cells.ex eC135 h.ex) 0 _ rfl) kI, oW rfl rfl rfl rfl hb25 fun h => yl_load1 ty9 rfl (h.g 3 rfl) (((Box.ex (Box.ex h9 hE19) h.ex).cell 0).trans rfl) kI, oW rfl rfl rfl rfl hb25 fun h => yl_sgtr (a := (p_r.Vals.getD ((p_cap0).toNat) d_Str)) (b := p_cap2) rfl (h.g 18 rfl) (h.g 19 rfl) kI, oI rfl fun h => yl_pick_f rfl (h.g 13 rfl) hb25 (h.g 20 rfl) kI, oI rfl fun h => yl_assign rfl (h.g 21 rfl) kI, trivial⟩ ?_
  ·intro L155 w156 hi157
   have hE158 := hi157.ex
   have hE158z := Ex.size hE158
   exact os rfl ((yl_indexAddr un22 ty9 rfl (hi157.g 7 rfl) (hi157.g 8 rfl) eA135 (by first | omega | assumption | (simp only [wI] at *; omega)) (by first | omega | assumption | (simp only [wI] at *; omega)) kI))
  ·intro L204 w205 hi206
   have hE207 := hi206.ex
   have hE207z := Ex.size hE207
   exact OpR.want rfl rfl (hi206.g 13 rfl) hb25 (Yl.sameI (yl_indexAddr un22 ty9 rfl (hi206.g 15 rfl) (hi206.g 16 rfl) eA135 (by first | omega | assumption | (simp only [wI] at *; omega)) (by first | omega | assumption | (simp only [wI] at *; omega)) kI))
  ·intro fl246 fh247 L243 w244 hp245
   have hE248 := hp245.ex
   have hE248z := Ex.size hE248
   refine dn (CW.sub (hp245.ss [5] rfl) (CW.ret (rr rfl (.cons rfl .nil) ?_)))
   rw [show (i_ScanRange_c1 p_r p_cap0 p_cap1 p_cap2) = (!(sLe (p_r.Vals.getD ((p_cap0).toNat) d_Str) p_cap2)) by simp only [i_ScanRange_c1, hb25, cL]]
   exact ⟨rfl, (Ex.trans q133 hE248)⟩
theorem c_g_slices_insertionSortCmpFunc_Row {cl : Nat → Value} {A1 : Option Addr} {c1 : Nat} {lo1 hi1 : Nat} {g2 : Nat} {cp3 : List Value} {w : World} (p_data : List Nat) (p_a : Int) (p_b : Int) (p_cmp : Nat → Nat → Int) (hcl : ∀ i, (cl i).oneCell' = true) (h1 : OwnL w lo1 hi1 61 1 (RF (e_Opq cl)) A1 p_data.length c1 p_data) (hen4 : Go.X.Enters Tryz.prog g2) (hfn5 : ∀ (w1 : World) (y0 y1 : Nat), 0 < p_data.length → Mut [(lo1, hi1)] w w1 → Cal Tryz.prog g2 (([.agg #[cl y0], .agg #[cl y1]] : List Value) ++ cp3).toArray w1 fun v w2 => v = .int .i64 (p_cmp y0 y1) ∧ Ex w1 w2) (hrn6 : (0 ≤ lo1 ∧ lo1 ≤ hi1 ∧ hi1 ≤ w.heap.size)) (pre0 : (0 ≤ p_a ∧ p_a ≤ p_b ∧ p_b ≤ (p_data.length : Int) ∧ (p_data.length : Int) ≤ 1000)) : Cal Tryz.prog 82 #[.slice A1 p_data.length c1, .int .i64 (p_a), .int .i64 (p_b), .func (.func g2) #[] cp3.toArray] w fun v w' => v = .tuple #[] ∧ OwnL w' lo1 hi1 61 1 (RF (e_Opq cl)) A1 p_data.length c1 (g_slices_insertionSortCmpFunc_Row p_data p_a p_b p_cmp) ∧ Mut [(lo1, hi1)] w w' := by
 refine Cal.of func82 rfl ntmps82 rfl (CW.seq (CW.region (sd rfl (yl_move rfl rfl (sd rfl (yl_add rfl rfl rfl (sd rfl (yl_assign rfl rfl (dn (CW.block ?_))))))))))
 refine CW.loop (fun m46 L47 w48 => ∃ (x44 : Int) (x45 : List Nat), ((p_b - x44).toNat) < m46 ∧ w.heap.size ≤ w48.heap.size ∧ Sub [(0, .slice A1 p_data.length c1), (1, .int .i64 (p_a)), (2, .int .i64 (p_b)), (3, .func (.func g2) #[] cp3.toArray), (8, .int .i64 (x44))] L47 ∧ OwnL w48 lo1 hi1 61 1 (RF (e_Opq cl)) A1 p_data.length c1 x45 ∧ Mut [(lo1, hi1)] w w48 ∧ (p_a + 1 ≤ x44 ∧ (x44 ≤ p_b ∨ x44 = p_a + 1)) ∧ loopW (B_g_slices_insertionSortCmpFunc_Row_0 p_data p_a p_b p_cmp) m46 (x44, x45) = loopW (B_g_slices_insertionSortCmpFunc_Row_0 p_data p_a p_b p_cmp) (((p_b - IntKind.wrap .i64 (p_a + 1)).toNat) + 1) (IntKind.wrap .i64 (p_a + 1), p_data)) (((p_b - IntKind.wrap .i64 (p_a + 1)).toNat) + 1) ?_ ?_
 ·exact ⟨IntKind.wrap .i64 (p_a + 1), p_data, Nat.lt_succ_self _, Nat.le_refl _, (sR rfl), h1, (Mut.refl (l := [(lo1, hi1)]) w), (by first | omega | assumption | (simp only [wI] at *; omega)), rfl⟩
 ·rintro m49 L50 w51 ⟨x44, x45, hk52, hsz54, hl55, hf56, hf57, hv58, hI53⟩
  refine CW.sub hl55 ?_
  have hf57z := Mut.size hf57
  refine CW.seq (CW.seq (CW.region (sd rfl (yl_move rfl rfl (sd rfl (yl_move rfl rfl (sd rfl (yl_lss rfl rfl rfl (dn (bcD (q := x44 < p_b) (fun hb59 hb59p => ?_) (fun hb59 hb59p => ?_)))))))))))
  ·refine CW.cond_t rfl hb59 (CW.skip (tn (CW.seq (CW.block (CW.seq (CW.region (sd rfl (yl_move rfl rfl (sd rfl (yl_assign rfl rfl ?_))))))))))
   refine dn (CW.block (CW.loop (fun m79 L80 w81 => ∃ (x77 : Int) (x78 : List Nat), ((x77 - p_a).toNat) < m79 ∧ w51.heap.size ≤ w81.heap.size ∧ Sub [(0, .slice A1 p_data.length c1), (1, .int .i64 (p_a)), (2, .int .i64 (p_b)), (3, .func (.func g2) #[] cp3.toArray), (8, .int .i64 (x44)), (9, .int .i64 (x77))] L80 ∧ OwnL w81 lo1 hi1 61 1 (RF (e_Opq cl)) A1 p_data.length c1 x78 ∧ Mut [(lo1, hi1)] w w81 ∧ (p_a ≤ x77 ∧ x77 < p_b) ∧ loopW (B_g_slices_insertionSortCmpFunc_Row_1 p_data p_a p_b p_cmp x44 x45) m79 (x77, x78) = loopW (B_g_slices_insertionSortCmpFunc_Row_1 p_data p_a p_b p_cmp x44 x45) (((x44 - p_a).toNat) + 1) (x44, x45)) (((x44 - p_a).toNat) + 1) ?_ ?_))
   ·exact ⟨x44, x45, Nat.lt_succ_self _, Nat.le_refl _, (sR rfl), hf56, hf57, (by first | omega | assumption | (simp only [wI] at *; omega)), rfl⟩
   ·rintro m82 L83 w84 ⟨x77, x78, hk85, hsz87, hl88, hf89, hf90, hv91, hI86⟩
    refine CW.sub hl88 ?_
    have hf90z := Mut.size hf90
    refine CW.seq (CW.seq (bcD (q := p_a < x77) (fun hb92 hb92p => ?_) (fun hb92 hb92p => ?_)))
    ·obtain ⟨eb94, eo94, _, eA94, _, ebl94, _, eR94, eC94⟩ := RdS.atD (OwnL.rd (good_Opq hcl) hf89) d_Opq (i := (x77).toNat) (by first | omega | assumption | (simp only [wI] at *; omega))
     obtain rfl := eR94
     obtain ⟨eb96, eo96, _, eA96, _, ebl96, _, eR96, eC96⟩ := RdS.atD (OwnL.rd (good_Opq hcl) hf89) d_Opq (i := (IntKind.wrap .i64 (x77 - 1)).toNat) (by first | omega | assumption | (simp only [wI] at *; omega))
     obtain rfl := eR96
     refine drJ 14 [.int .i64 (x77), .int .i64 (p_a), .bool (decide (p_a < x77)), .bool (decide (p_a < x77)), .func (.func g2) #[] cp3.toArray, .slice A1 p_data.length c1, .int .i64 (x77), .pointer (some ⟨eb94, eo94 + ((x77).toNat) * 1, none⟩), .agg #[cl (x78.getD ((x77).toNat) d_Opq)], .slice A1 p_data.length c1, .int .i64 (x77), .int .i64 (IntKind.wrap .i64 (x77 - 1)), .pointer (some ⟨eb96, eo96 + ((IntKind.wrap .i64 (x77 - 1)).toNat) * 1, none⟩), .agg #[cl (x78.getD ((IntKind.wrap .i64 (x77 - 1)).toNat) d_Opq)]] Tryz.follows rfl ⟨oI rfl fun h => yl_move rfl (h.g 9 rfl) kI, oI rfl fun h => yl_move rfl (h.g 1 rfl) kI, oI rfl fun h => yl_gtr rfl (h.g 18 rfl) (h.g 19 rfl) kI, oI rfl fun h => yl_move rfl (h.g 20 rfl) kI, oW rfl rfl rfl rfl hb92 fun h => yl_move rfl (h.g 3 rfl) kI, oW rfl rfl rfl rfl hb92 fun h => yl_move rfl (h.g 0 rfl) kI, oW rfl rfl rfl rfl hb92 fun h => yl_move rfl (h.g 9 rfl) kI, ?_, oW rfl rfl rfl rfl hb92 fun h => yl_loadN ty61 rfl (h.g 25 rfl) (Cells.ex eC94 h.ex) rfl kI, oW rfl rfl rfl rfl hb92 fun h => yl_move rfl (h.g 0 rfl) kI, oW rfl rfl rfl rfl hb92 fun h => yl_move rfl (h.g 9 rfl) kI, oW rfl rfl rfl rfl hb92 fun h => yl_sub rfl (h.g 28 rfl) rfl kI, ?_, oW rfl rfl rfl rfl hb92 fun h => yl_loadN ty61 rfl (h.g 30 rfl) (Cells.ex eC96 h.ex) rfl kI, trivial⟩ ?_
     ·intro L136 w137 hi138
      have hE139 := hi138.ex
      have hE139z := Ex.size hE139
      exact OpR.want rfl rfl (hi138.g 21 rfl) hb92 (Yl.sameI (yl_indexAddr un29 ty61 rfl (hi138.g 23 rfl) (hi138.g 24 rfl) eA94 (by first | omega | assumption | (simp only [wI] at *; omega)) (by first | omega | assumption | (simp only [wI] at *; omega)) kI))
     ·intro L168 w169 hi170
      have hE171 := hi170.ex
      have hE171z := Ex.size hE171
      exact OpR.want rfl rfl (hi170.g 21 rfl) hb92 (Yl.sameI (yl_indexAddr un29 ty61 rfl (hi170.g 27 rfl) (hi170.g 29 rfl) eA96 (by first | omega | assumption | (simp only [wI] at *; omega)) (by first | omega | assumption | (simp only [wI] at *; omega)) kI))
     ·intro fl185 fh186 L182 w183 hp184
      have hE187 := hp184.ex
      have hE187z := Ex.size hE187
      have hx194 := hp184.nt 3 21 rfl rfl rfl
      have q201 := Mut.ex hf90 hE187
      refine sy rfl hx194 hb92 (yl_callv hen4 rfl (hp184.nt 4 22 rfl rfl rfl) (oc (hp184.nt 8 26 rfl rfl rfl) (oc (hp184.nt 13 31 rfl rfl rfl) oz)) (Cal.mono (hfn5 w183 (x78.getD ((x77).toNat) d_Opq) (x78.getD ((IntKind.wrap .i64 (x77 - 1)).toNat) d_Opq) (by omega) q201) ?_))
      rintro v199 w198 ⟨rfl, hE200⟩
      have hE200z := Ex.size hE200
      refine sy rfl hx194 hb92 (yl_lss rfl rfl rfl (sd rfl (yl_pick_t rfl hx194 hb92 rfl (dn (CW.sub (Sub.cons (d := 0) (hp184.old 0 _ rfl rfl) (Sub.cons (d := 1) (hp184.old 1 _ rfl rfl) (Sub.cons (d := 2) (hp184.old 2 _ rfl rfl) (Sub.cons (d := 3) (hp184.old 3 _ rfl rfl) (Sub.cons (d := 8) (hp184.old 8 _ rfl rfl) (Sub.cons (d := 9) (hp184.old 9 _ rfl rfl) (Sub.cons (d := 34) rfl (Sub.nil _)))))))) (bcD (q := (p_cmp (x78.getD ((x77).toNat) d_Opq) (x78.getD ((IntKind.wrap .i64 (x77 - 1)).toNat) d_Opq)) < 0) (fun hb202 hb202p => ?_) (fun hb202 hb202p => ?_)))))))
      ·refine CW.cond_t rfl hb202 (CW.skip (tn (CW.seq (CW.block ?_))))
       have q209 := OwnL.ex (good_Opq hcl) (OwnL.ex (good_Opq hcl) hf89 hE187) hE200
       have hrg207 := OwnL.rng q209 (i := (x77).toNat) (by first | omega | assumption | (simp only [wI] at *; omega)) eb94 (by rw [eA94]; rfl)
       have hbt210 : eb94 < w198.heap.size := by omega
       refine CW.drawsG 16 (fun G b => G.dn 15 = true ∧ b = eb94) (fun i _ b => i = 15 ∧ b = eb94) (vgetG [DetG (.slice A1 p_data.length c1), DetG (.int .i64 (x77)), DetG (.slice A1 p_data.length c1), DetG (.int .i64 (x77)), DetG (.int .i64 (IntKind.wrap .i64 (x77 - 1))), DetG (.slice A1 p_data.length c1), DetG (.int .i64 (x77)), DetG (.int .i64 (IntKind.wrap .i64 (x77 - 1))), DetG (.pointer (some ⟨eb96, eo96 + ((IntKind.wrap .i64 (x77 - 1)).toNat) * 1, none⟩)), DetG (.agg #[cl (x78.getD ((IntKind.wrap .i64 (x77 - 1)).toNat) d_Opq)]), DetG (.slice A1 p_data.length c1), DetG (.int .i64 (x77)), DetG (.pointer (some ⟨eb94, eo94 + ((x77).toNat) * 1, none⟩)), DetG (.agg #[cl (x78.getD ((x77).toNat) d_Opq)]), DetG (.pointer (some ⟨eb94, eo94 + ((x77).toNat) * 1, none⟩)), fun G v wq => OwnL wq lo1 hi1 61 1 (RF (e_Opq cl)) A1 p_data.length c1 (x78.set ((x77).toNat) (x78.getD ((IntKind.wrap .i64 (x77 - 1)).toNat) d_Opq))]) Tryz.follows rfl rfl rfl rfl rfl rfl (fun i G _ _ _ h => ⟨(by show (Nat.beq 15 i || G.dn 15) = true; rw [h.1, Bool.or_true]), h.2⟩) (fun i G w lo hi b K hn hh hp => by obtain ⟨rfl, q⟩ := hp; exact .inl ⟨rfl, q⟩) (vgetG_kept ⟨(KeptG.det _), (KeptG.det _), (KeptG.det _), (KeptG.det _), (KeptG.det _), (KeptG.det _), (KeptG.det _), (KeptG.det _), (KeptG.det _), (KeptG.det _), (KeptG.det _), (KeptG.det _), (KeptG.det _), (KeptG.det _), (KeptG.det _), (by rintro i G v w w' K hn hh hj h0 e; exact OwnL.chg (good_Opq hcl) h0 e (fun b hb hp => by obtain ⟨rfl, q⟩ := hp; rw [hj] at hn; cases hn)), trivial⟩) ⟨?_, ?_, ?_, ?_, ?_, ?_, ?_, ?_, ?_, ?_, ?_, ?_, ?_, ?_, ?_, ?_, trivial⟩ ?_
       ·intro L212 w213 G211 hgk214
        exact OpR.op' rfl (Yl.sameG (yl_move rfl (hgk214.old 0 _ rfl rfl) kI))
       ·intro L217 w218 G216 hgk219
        exact OpR.op' rfl (Yl.sameG (yl_move rfl (hgk219.old 9 _ rfl rfl) kI))
       ·intro L222 w223 G221 hgk224
        exact OpR.op' rfl (Yl.sameG (yl_move rfl (hgk224.old 0 _ rfl rfl) kI))
       ·intro L227 w228 G226 hgk229
        exact OpR.op' rfl (Yl.sameG (yl_move rfl (hgk229.old 9 _ rfl rfl) kI))
       ·intro L232 w233 G231 hgk234
        obtain ⟨_, hx235, rfl⟩ := hgk234.val 3 40 rfl rfl
        exact OpR.op' rfl (Yl.sameG (yl_sub rfl hx235 rfl kI))
       ·intro L237 w238 G236 hgk239
        exact OpR.op' rfl (Yl.sameG (yl_move rfl (hgk239.old 0 _ rfl rfl) kI))
       ·intro L242 w243 G241 hgk244
        exact OpR.op' rfl (Yl.sameG (yl_move rfl (hgk244.old 9 _ rfl rfl) kI))
       ·intro L247 w248 G246 hgk249
        obtain ⟨_, hx250, rfl⟩ := hgk249.val 6 43 rfl rfl
        exact OpR.op' rfl (Yl.sameG (yl_sub rfl hx250 rfl kI))
       ·intro L252 w253 G251 hgk254
        obtain ⟨_, hx255, rfl⟩ := hgk254.val 5 42 rfl rfl
        obtain ⟨_, hx256, rfl⟩ := hgk254.val 7 44 rfl rfl
        exact OpR.op' rfl (Yl.sameG (yl_indexAddr un29 ty61 rfl hx255 hx256 eA96 (by first | omega | assumption | (simp only [wI] at *; omega)) (by first | omega | assumption | (simp only [wI] at *; omega)) kI))
       ·intro L258 w259 G257 hgk260
        obtain ⟨_, hx261, rfl⟩ := hgk260.val 8 45 rfl rfl
        have hE262 := hgk260.st.ex.ex (fun b h => h.elim (fun h => hgk260.no rfl h) (fun h => h))
        have hE262z := Ex.size hE262
        exact OpR.op' rfl (Yl.sameG (yl_loadN ty61 rfl hx261 (Cells.ex (Cells.ex (Cells.ex eC96 hE187) hE200) hE262) rfl kI))
       ·intro L265 w266 G264 hgk267
        exact OpR.op' rfl (Yl.sameG (yl_move rfl (hgk267.old 0 _ rfl rfl) kI))
       ·intro L270 w271 G269 hgk272
        exact OpR.op' rfl (Yl.sameG (yl_move rfl (hgk272.old 9 _ rfl rfl) kI))
       ·intro L275 w276 G274 hgk277
        obtain ⟨_, hx278, rfl⟩ := hgk277.val 10 47 rfl rfl
        obtain ⟨_, hx279, rfl⟩ := hgk277.val 11 48 rfl rfl
        exact OpR.op' rfl (Yl.sameG (yl_indexAddr un29 ty61 rfl hx278 hx279 eA94 (by first | omega | assumption | (simp only [wI] at *; omega)) (by first | omega | assumption | (simp only [wI] at *; omega)) kI))
       ·intro L281 w282 G280 hgk283
        obtain ⟨_, hx284, rfl⟩ := hgk283.val 12 49 rfl rfl
        have hE285 := hgk283.st.ex.ex (fun b h => h.elim (fun h => hgk283.no rfl h) (fun h => h))
        have hE285z := Ex.size hE285
        exact OpR.op' rfl (Yl.sameG (yl_loadN ty61 rfl hx284 (Cells.ex (Cells.ex (Cells.ex eC94 hE187) hE200) hE285) rfl kI))
       ·intro L288 w289 G287 hgk290
        obtain ⟨_, hx291, rfl⟩ := hgk290.val 0 37 rfl rfl
        obtain ⟨_, hx292, rfl⟩ := hgk290.val 1 38 rfl rfl
        exact OpR.op' rfl (Yl.sameG (yl_indexAddr un29 ty61 rfl hx291 hx292 eA94 (by first | omega | assumption | (simp only [wI] at *; omega)) (by first | omega | assumption | (simp only [wI] at *; omega)) kI))
       ·intro L294 w295 G293 hgk296
        obtain ⟨_, hx297, rfl⟩ := hgk296.val 14 51 rfl rfl
        obtain ⟨_, hx298, rfl⟩ := hgk296.val 9 46 rfl rfl
        have hE299 := hgk296.st.ex.ex (fun b h => h.elim (fun h => hgk296.nw h) (fun h => h))
        have hE299z := Ex.size hE299
        refine OpR.op' rfl (yl_storeF (off := eo94) (i := (x77).toNat) (d := 0) (dx := d_Opq) (x' := (x78.getD ((IntKind.wrap .i64 (x77 - 1)).toNat) d_Opq)) (vs := [cl (x78.getD ((IntKind.wrap .i64 (x77 - 1)).toNat) d_Opq)]) ty61 rfl (OwnL.ex (good_Opq hcl) q209 hE299) eA94 hx297 hx298 rfl rfl (all_Opq hcl _) (by first | omega | assumption | (simp only [wI] at *; omega)) (Nat.le_of_ble_eq_true rfl) rfl rfl ?_)
        intro w300 hB302 hO301
        exact ⟨Chg.of_only hO301 ⟨rfl, rfl⟩, hB302⟩
       ·intro G304 L305 w306 hgp307
        have hC308 : Chg (fun b => b = eb94) w198 w306 := hgp307.st.ex.imp (fun b hb h => h.elim (fun h => h.2) (fun h => absurd h (by omega)))
        have hm309 : Mut [(lo1, hi1)] w198 w306 := Mut.of_chg1 hC308 hbt210 (by simp only [InR, or_false]; omega)
        have hm309z := Mut.size hm309
        obtain ⟨_, hF310⟩ := hgp307.fact 15 rfl
        obtain ⟨_, hx317, rfl⟩ := hgp307.val 2 39 rfl rfl
        obtain ⟨_, hx318, rfl⟩ := hgp307.val 4 41 rfl rfl
        obtain ⟨_, hx319, rfl⟩ := hgp307.val 13 50 rfl rfl
        obtain ⟨eb321, eo321, _, eA321, _, ebl321, _, eR321, _⟩ := RdS.atD (OwnL.rd (good_Opq hcl) hF310) d_Opq (i := (IntKind.wrap .i64 (x77 - 1)).toNat) (by first | omega | assumption | (simp only [wI] at *; omega))
        obtain rfl := eR321
        refine sd rfl (yl_indexAddr un29 ty61 rfl hx317 hx318 eA321 (by first | omega | assumption | (simp only [wI] at *; omega)) (by first | omega | assumption | (simp only [wI] at *; omega)) ?_)
        have hrg322 := OwnL.rng hF310 (i := (IntKind.wrap .i64 (x77 - 1)).toNat) (by first | omega | assumption | (simp only [wI] at *; omega)) eb321 (by rw [eA321]; rfl)
        refine SeqR.u rfl rfl (yl_storeF (off := eo321) (i := (IntKind.wrap .i64 (x77 - 1)).toNat) (d := 0) (dx := d_Opq) (x' := (x78.getD ((x77).toNat) d_Opq)) (vs := [cl (x78.getD ((x77).toNat) d_Opq)]) ty61 rfl hF310 eA321 rfl hx319 rfl rfl (all_Opq hcl _) (by first | omega | assumption | (simp only [wI] at *; omega)) (Nat.le_of_ble_eq_true rfl) rfl rfl ?_)
        intro w323 hB324 hO325
        have hO325z := hO325.size
        refine SeqR.done (bn (tn (CW.sub (Sub.cons (d := 0) (id (hgp307.old 0 _ rfl rfl)) (Sub.cons (d := 1) (id (hgp307.old 1 _ rfl rfl)) (Sub.cons (d := 2) (id (hgp307.old 2 _ rfl rfl)) (Sub.cons (d := 3) (id (hgp307.old 3 _ rfl rfl)) (Sub.cons (d := 8) (id (hgp307.old 8 _ rfl rfl)) (Sub.cons (d := 9) (id (hgp307.old 9 _ rfl rfl)) (Sub.nil _))))))) (CW.region (sd rfl (yl_move rfl rfl (sd rfl (yl_sub rfl rfl rfl (sd rfl (yl_assign rfl rfl (SeqR.done ?_)))))))))))
        refine tn ?_
        have hB326 : B_g_slices_insertionSortCmpFunc_Row_1 p_data p_a p_b p_cmp x44 x45 (x77, x78) = .cont (IntKind.wrap .i64 (x77 - 1), ((x78.set ((x77).toNat) (x78.getD ((IntKind.wrap .i64 (x77 - 1)).toNat) d_Opq)).set ((IntKind.wrap .i64 (x77 - 1)).toNat) (x78.getD ((x77).toNat) d_Opq))) := by simp only [B_g_slices_insertionSortCmpFunc_Row_1, hb59, hb92, hb202, cL]
        have hmu330 : ((IntKind.wrap .i64 (x77 - 1) - p_a).toNat) < ((x77 - p_a).toNat) := by first | omega | assumption | (simp only [wI] at *; omega)
        exact ⟨m82 - 1, by omega, IntKind.wrap .i64 (x77 - 1), ((x78.set ((x77).toNat) (x78.getD ((IntKind.wrap .i64 (x77 - 1)).toNat) d_Opq)).set ((IntKind.wrap .i64 (x77 - 1)).toNat) (x78.getD ((x77).toNat) d_Opq)), (by omega), (by omega), (sR rfl), hB324, (Mut.only (Mut.mut (Mut.ex q201 hE200) hm309 (fun k hk => by simp only [InR, or_false] at hk ⊢; omega)) hO325 (by simp only [InR, or_false]; omega)), (by first | omega | assumption | (simp only [wI] at *; omega)), (loopW.cont hk85 hB326).symm.trans hI86⟩
      ·refine CW.cond_f rfl hb202 (CW.exit (tx (tx ?_)))
       have hB332 : B_g_slices_insertionSortCmpFunc_Row_1 p_data p_a p_b p_cmp x44 x45 (x77, x78) = .brk (x77, x78) := by simp only [B_g_slices_insertionSortCmpFunc_Row_1, hb59, hb92, hb202, cL]
       have hL331 : loopW (B_g_slices_insertionSortCmpFunc_Row_1 p_data p_a p_b p_cmp x44 x45) (((x44 - p_a).toNat) + 1) (x44, x45) = .done (x77, x78) := hI86.symm.trans (loopW.brk hk85 hB332)
       refine bx (bn (tn (CW.region (sd rfl (yl_move rfl rfl (sd rfl (yl_add rfl rfl rfl (sd rfl (yl_assign rfl rfl (dn ?_))))))))))
       have hB333 : B_g_slices_insertionSortCmpFunc_Row_0 p_data p_a p_b p_cmp (x44, x45) = .cont (IntKind.wrap .i64 (x44 + 1), x78) := by simp only [B_g_slices_insertionSortCmpFunc_Row_0, hb59, hb92, hb202, hL331, cL]
       have hmu337 : ((p_b - IntKind.wrap .i64 (x44 + 1)).toNat) < ((p_b - x44).toNat) := by first | omega | assumption | (simp only [wI] at *; omega)
       exact ⟨m49 - 1, by omega, IntKind.wrap .i64 (x44 + 1), x78, (by omega), (by omega), (sR rfl), (OwnL.ex (good_Opq hcl) (OwnL.ex (good_Opq hcl) hf89 hE187) hE200), (Mut.ex q201 hE200), (by first | omega | assumption | (simp only [wI] at *; omega)), (loopW.cont hk52 hB333).symm.trans hI53⟩
    ·refine drJ 14 [.int .i64 (x77), .int .i64 (p_a), .bool (decide (p_a < x77)), .bool (decide (p_a < x77)), undef, undef, undef, undef, undef, undef, undef, undef, undef, undef] Tryz.follows rfl ⟨oI rfl fun h => yl_move rfl (h.g 9 rfl) kI, oI rfl fun h => yl_move rfl (h.g 1 rfl) kI, oI rfl fun h => yl_gtr rfl (h.g 18 rfl) (h.g 19 rfl) kI, oI rfl fun h => yl_move rfl (h.g 20 rfl) kI, oS rfl rfl rfl rfl rfl hb92, oS rfl rfl rfl rfl rfl hb92, oS rfl rfl rfl rfl rfl hb92, oS rfl rfl rfl rfl rfl hb92, oS rfl rfl rfl rfl rfl hb92, oS rfl rfl rfl rfl rfl hb92, oS rfl rfl rfl rfl rfl hb92, oS rfl rfl rfl rfl rfl hb92, oS rfl rfl rfl rfl rfl hb92, oS rfl rfl rfl rfl rfl hb92, trivial⟩ ?_
     ·intro fl412 fh413 L409 w410 hp411
      have hE414 := hp411.ex
      have hE414z := Ex.size hE414
      have hx421 := hp411.nt 3 21 rfl rfl rfl
      refine sz rfl hx421 hb92 (sz rfl hx421 hb92 (sd rfl (yl_pick_f rfl hx421 hb92 rfl (dn (CW.sub (Sub.cons (d := 0) (hp411.old 0 _ rfl rfl) (Sub.cons (d := 1) (hp411.old 1 _ rfl rfl) (Sub.cons (d := 2) (hp411.old 2 _ rfl rfl) (Sub.cons (d := 3) (hp411.old 3 _ rfl rfl) (Sub.cons (d := 8) (hp411.old 8 _ rfl rfl) (Sub.cons (d := 9) (hp411.old 9 _ rfl rfl) (Sub.cons (d := 34) rfl (Sub.nil _)))))))) (CW.cond_f rfl rfl (CW.exit (tx ?_))))))))
      refine tx ?_
      have hB426 : B_g_slices_insertionSortCmpFunc_Row_1 p_data p_a p_b p_cmp x44 x45 (x77, x78) = .brk (x77, x78) := by simp only [B_g_slices_insertionSortCmpFunc_Row_1, hb59, hb92, cL]
      have hL425 : loopW (B_g_slices_insertionSortCmpFunc_Row_1 p_data p_a p_b p_cmp x44 x45) (((x44 - p_a).toNat) + 1) (x44, x45) = .done (x77, x78) := hI86.symm.trans (loopW.brk hk85 hB426)
      refine bx (bn (tn (CW.region (sd rfl (yl_move rfl rfl (sd rfl (yl_add rfl rfl rfl (sd rfl (yl_assign rfl rfl (dn ?_))))))))))
      have hB427 : B_g_slices_insertionSortCmpFunc_Row_0 p_data p_a p_b p_cmp (x44, x45) = .cont (IntKind.wrap .i64 (x44 + 1), x78) := by simp only [B_g_slices_insertionSortCmpFunc_Row_0, hb59, hb92, hL425, cL]
      have hmu430 : ((p_b - IntKind.wrap .i64 (x44 + 1)).toNat) < ((p_b - x44).toNat) := by first | omega | assumption | (simp only [wI] at *; omega)
      exact ⟨m49 - 1, by omega, IntKind.wrap .i64 (x44 + 1), x78, (by omega), (by omega), (sR rfl), (OwnL.ex (good_Opq hcl) hf89 hE414), (Mut.ex hf90 hE414), (by first | omega | assumption | (simp only [wI] at *; omega)), (loopW.cont hk52 hB427).symm.trans hI53⟩
  ·refine CW.cond_f rfl hb59 (CW.exit (tx (tx ?_)))
   have hB432 : B_g_slices_insertionSortCmpFunc_Row_0 p_data p_a p_b p_cmp (x44, x45) = .brk (x44, x45) := by simp only [B_g_slices_insertionSortCmpFunc_Row_0, hb59, cL]
   have hL431 : loopW (B_g_slices_insertionSortCmpFunc_Row_0 p_data p_a p_b p_cmp) (((p_b - IntKind.wrap .i64 (p_a + 1)).toNat) + 1) (IntKind.wrap .i64 (p_a + 1), p_data) = .done (x44, x45) := hI53.symm.trans (loopW.brk hk52 hB432)
   refine bx (rn rfl .nil ?_)
   rw [show (g_slices_insertionSortCmpFunc_Row p_data p_a p_b p_cmp) = (x45) by simp only [g_slices_insertionSortCmpFunc_Row, hb59, hL431, cL]]
   exact ⟨rfl, hf56, hf57⟩
theorem c_g_slices_swapRangeCmpFunc_Row {cl : Nat → Value} {A1 : Option Addr} {c1 : Nat} {lo1 hi1 : Nat} {g2 : Nat} {cp3 : List Value} {w : World} (p_data : List Nat) (p_a : Int) (p_b : Int) (p_n : Int) (p_cmp : Nat → Nat → Int) (hcl : ∀ i, (cl i).oneCell' = true) (h1 : OwnL w lo1 hi1 61 1 (RF (e_Opq cl)) A1 p_data.length c1 p_data) (hen4 : Go.X.Enters Tryz.prog g2) (hfn5 : ∀ (w1 : World) (y0 y1 : Nat), 0 < p_data.length → Mut [(lo1, hi1)] w w1 → Cal Tryz.prog g2 (([.agg #[cl y0], .agg #[cl y1]] : List Value) ++ cp3).toArray w1 fun v w2 => v = .int .i64 (p_cmp y0 y1) ∧ Ex w1 w2) (hrn6 : (0 ≤ lo1 ∧ lo1 ≤ hi1 ∧ hi1 ≤ w.heap.size)) (pre0 : (0 ≤ p_a ∧ 0 ≤ p_b ∧ 0 ≤ p_n ∧ p_a + p_n ≤ (p_data.length : Int) ∧ p_b + p_n ≤ (p_data.length : Int) ∧ (p_data.length : Int) ≤ 1000)) : Cal Tryz.prog 108 #[.slice A1 p_data.length c1, .int .i64 (p_a), .int .i64 (p_b), .int .i64 (p_n), .func (.func g2) #[] cp3.toArray] w fun v w' => v = .tuple #[] ∧ OwnL w' lo1 hi1 61 1 (RF (e_Opq cl)) A1 p_data.length c1 (g_slices_swapRangeCmpFunc_Row p_data p_a p_b p_n p_cmp) ∧ Mut [(lo1, hi1)] w w' := by
 refine Cal.of func108 rfl ntmps108 rfl (CW.seq (CW.region (sd rfl (yl_assign rfl rfl (dn (CW.block (CW.loop (fun m22 L23 w24 => ∃ (x20 : Int) (x21 : List Nat), ((p_n - x20).toNat) < m22 ∧ w.heap.size ≤ w24.heap.size ∧ Sub [(0, .slice A1 p_data.length c1), (1, .int .i64 (p_a)), (2, .int .i64 (p_b)), (3, .int .i64 (p_n)), (10, .int .i64 (x20))] L23 ∧ OwnL w24 lo1 hi1 61 1 (RF (e_Opq cl)) A1 p_data.length c1 x21 ∧ Mut [(lo1, hi1)] w w24 ∧ (0 ≤ x20 ∧ x20 ≤ p_n) ∧ loopW (B_g_slices_swapRangeCmpFunc_Row_0 p_data p_a p_b p_n p_cmp) m22 (x20, x21) = loopW (B_g_slices_swapRangeCmpFunc_Row_0 p_data p_a p_b p_n p_cmp) (((p_n - 0).toNat) + 1) (0, p_data)) (((p_n - 0).toNat) + 1) ?_ ?_)))))))
 ·exact ⟨0, p_data, Nat.lt_succ_self _, Nat.le_refl _, (sR rfl), h1, (Mut.refl (l := [(lo1, hi1)]) w), (by first | omega | assumption | (simp only [wI] at *; omega)), rfl⟩
 ·rintro m25 L26 w27 ⟨x20, x21, hk28, hsz30, hl31, hf32, hf33, hv34, hI29⟩
  refine CW.sub hl31 ?_
  have hf33z := Mut.size hf33
  refine CW.seq (CW.seq (CW.region (sd rfl (yl_move rfl rfl (sd rfl (yl_move rfl rfl (sd rfl (yl_lss rfl rfl rfl (dn (bcD (q := x20 < p_n) (fun hb35 hb35p => ?_) (fun hb35 hb35p => ?_)))))))))))
  ·refine CW.cond_t rfl hb35 (CW.skip (tn (CW.seq (CW.block ?_))))
   obtain ⟨eb37, eo37, _, eA37, _, ebl37, _, eR37, eC37⟩ := RdS.atD (OwnL.rd (good_Opq hcl) hf32) d_Opq (i := (IntKind.wrap .i64 (p_b + x20)).toNat) (by first | omega | assumption | (simp only [wI] at *; omega))
   obtain rfl := eR37
   obtain ⟨eb39, eo39, _, eA39, _, ebl39, _, eR39, eC39⟩ := RdS.atD (OwnL.rd (good_Opq hcl) hf32) d_Opq (i := (IntKind.wrap .i64 (p_a + x20)).toNat) (by first | omega | assumption | (simp only [wI] at *; omega))
   obtain rfl := eR39
   have hrg40 := OwnL.rng hf32 (i := (IntKind.wrap .i64 (p_a + x20)).toNat) (by first | omega | assumption | (simp only [wI] at *; omega)) eb39 (by rw [eA39]; rfl)
   have hbt41 : eb39 < w27.heap.size := by omega
   refine CW.drawsG 22 (fun G b => G.dn 21 = true ∧ b = eb39) (fun i _ b => i = 21 ∧ b = eb39) (vgetG [DetG (.slice A1 p_data.length c1), DetG (.int .i64 (p_a)), DetG (.int .i64 (x20)), DetG (.int .i64 (IntKind.wrap .i64 (p_a + x20))), DetG (.slice A1 p_data.length c1), DetG (.int .i64 (p_b)), DetG (.int .i64 (x20)), DetG (.int .i64 (IntKind.wrap .i64 (p_b + x20))), DetG (.slice A1 p_data.length c1), DetG (.int .i64 (p_b)), DetG (.int .i64 (x20)), DetG (.int .i64 (IntKind.wrap .i64 (p_b + x20))), DetG (.pointer (some ⟨eb37, eo37 + ((IntKind.wrap .i64 (p_b + x20)).toNat) * 1, none⟩)), DetG (.agg #[cl (x21.getD ((IntKind.wrap .i64 (p_b + x20)).toNat) d_Opq)]), DetG (.slice A1 p_data.length c1), DetG (.int .i64 (p_a)), DetG (.int .i64 (x20)), DetG (.int .i64 (IntKind.wrap .i64 (p_a + x20))), DetG (.pointer (some ⟨eb39, eo39 + ((IntKind.wrap .i64 (p_a + x20)).toNat) * 1, none⟩)), DetG (.agg #[cl (x21.getD ((IntKind.wrap .i64 (p_a + x20)).toNat) d_Opq)]), DetG (.pointer (some ⟨eb39, eo39 + ((IntKind.wrap .i64 (p_a + x20)).toNat) * 1, none⟩)), fun G v wq => OwnL wq lo1 hi1 61 1 (RF (e_Opq cl)) A1 p_data.length c1 (x21.set ((IntKind.wrap .i64 (p_a + x20)).toNat) (x21.getD ((IntKind.wrap .i64 (p_b + x20)).toNat) d_Opq))]) Tryz.follows rfl rfl rfl rfl rfl rfl (fun i G _ _ _ h => ⟨(by show (Nat.beq 21 i || G.dn 21) = true; rw [h.1, Bool.or_true]), h.2⟩) (fun i G w lo hi b K hn hh hp => by obtain ⟨rfl, q⟩ := hp; exact .inl ⟨rfl, q⟩) (vgetG_kept ⟨(KeptG.det _), (KeptG.det _), (KeptG.det _), (KeptG.det _), (KeptG.det _), (KeptG.det _), (KeptG.det _), (KeptG.det _), (KeptG.det _), (KeptG.det _), (KeptG.det _), (KeptG.det _), (KeptG.det _), (KeptG.det _), (KeptG.det _), (KeptG.det _), (KeptG.det _), (KeptG.det _), (KeptG.det _), (KeptG.det _), (KeptG.det _), (by rintro i G v w w' K hn hh hj h0 e; exact OwnL.chg (good_Opq hcl) h0 e (fun b hb hp => by obtain ⟨rfl, q⟩ := hp; rw [hj] at hn; cases hn)), trivial⟩) ⟨?_, ?_, ?_, ?_, ?_, ?_, ?_, ?_, ?_, ?_, ?_, ?_, ?_, ?_, ?_, ?_, ?_, ?_, ?_, ?_, ?_, ?_, trivial⟩ ?_
   ·intro L43 w44 G42 hgk45
    exact OpR.op' rfl (Yl.sameG (yl_move rfl (hgk45.old 0 _ rfl rfl) kI))
   ·intro L48 w49 G47 hgk50
    exact OpR.op' rfl (Yl.sameG (yl_move rfl (hgk50.old 1 _ rfl rfl) kI))
   ·intro L53 w54 G52 hgk55
    exact OpR.op' rfl (Yl.sameG (yl_move rfl (hgk55.old 10 _ rfl rfl) kI))
   ·intro L58 w59 G57 hgk60
    obtain ⟨_, hx61, rfl⟩ := hgk60.val 1 17 rfl rfl
    obtain ⟨_, hx62, rfl⟩ := hgk60.val 2 18 rfl rfl
    exact OpR.op' rfl (Yl.sameG (yl_add rfl hx61 hx62 kI))
   ·intro L64 w65 G63 hgk66
    exact OpR.op' rfl (Yl.sameG (yl_move rfl (hgk66.old 0 _ rfl rfl) kI))
   ·intro L69 w70 G68 hgk71
    exact OpR.op' rfl (Yl.sameG (yl_move rfl (hgk71.old 2 _ rfl rfl) kI))
   ·intro L74 w75 G73 hgk76
    exact OpR.op' rfl (Yl.sameG (yl_move rfl (hgk76.old 10 _ rfl rfl) kI))
   ·intro L79 w80 G78 hgk81
    obtain ⟨_, hx82, rfl⟩ := hgk81.val 5 21 rfl rfl
    obtain ⟨_, hx83, rfl⟩ := hgk81.val 6 22 rfl rfl
    exact OpR.op' rfl (Yl.sameG (yl_add rfl hx82 hx83 kI))
   ·intro L85 w86 G84 hgk87
    exact OpR.op' rfl (Yl.sameG (yl_move rfl (hgk87.old 0 _ rfl rfl) kI))
   ·intro L90 w91 G89 hgk92
    exact OpR.op' rfl (Yl.sameG (yl_move rfl (hgk92.old 2 _ rfl rfl) kI))
   ·intro L95 w96 G94 hgk97
    exact OpR.op' rfl (Yl.sameG (yl_move rfl (hgk97.old 10 _ rfl rfl) kI))
   ·intro L100 w101 G99 hgk102
    obtain ⟨_, hx103, rfl⟩ := hgk102.val 9 25 rfl rfl
    obtain ⟨_, hx104, rfl⟩ := hgk102.val 10 26 rfl rfl
    exact OpR.op' rfl (Yl.sameG (yl_add rfl hx103 hx104 kI))
   ·intro L106 w107 G105 hgk108
    obtain ⟨_, hx109, rfl⟩ := hgk108.val 8 24 rfl rfl
    obtain ⟨_, hx110, rfl⟩ := hgk108.val 11 27 rfl rfl
    exact OpR.op' rfl (Yl.sameG (yl_indexAddr un29 ty61 rfl hx109 hx110 eA37 (by first | omega | assumption | (simp only [wI] at *; omega)) (by first | omega | assumption | (simp only [wI] at *; omega)) kI))
   ·intro L112 w113 G111 hgk114
    obtain ⟨_, hx115, rfl⟩ := hgk114.val 12 28 rfl rfl
    have hE116 := hgk114.st.ex.ex (fun b h => h.elim (fun h => hgk114.no rfl h) (fun h => h))
    have hE116z := Ex.size hE116
    exact OpR.op' rfl (Yl.sameG (yl_loadN ty61 rfl hx115 (Cells.ex eC37 hE116) rfl kI))
   ·intro L119 w120 G118 hgk121
    exact OpR.op' rfl (Yl.sameG (yl_move rfl (hgk121.old 0 _ rfl rfl) kI))
   ·intro L124 w125 G123 hgk126
    exact OpR.op' rfl (Yl.sameG (yl_move rfl (hgk126.old 1 _ rfl rfl) kI))
   ·intro L129 w130 G128 hgk131
    exact OpR.op' rfl (Yl.sameG (yl_move rfl (hgk131.old 10 _ rfl rfl) kI))
   ·intro L134 w135 G133 hgk136
    obtain ⟨_, hx137, rfl⟩ := hgk136.val 15 31 rfl rfl
    obtain ⟨_, hx138, rfl⟩ := hgk136.val 16 32 rfl rfl
    exact OpR.op' rfl (Yl.sameG (yl_add rfl hx137 hx138 kI))
   ·intro L140 w141 G139 hgk142
    obtain ⟨_, hx143, rfl⟩ := hgk142.val 14 30 rfl rfl
    obtain ⟨_, hx144, rfl⟩ := hgk142.val 17 33 rfl rfl
    exact OpR.op' rfl (Yl.sameG (yl_indexAddr un29 ty61 rfl hx143 hx144 eA39 (by first | omega | assumption | (simp only [wI] at *; omega)) (by first | omega | assumption | (simp only [wI] at *; omega)) kI))
   ·intro L146 w147 G145 hgk148
    obtain ⟨_, hx149, rfl⟩ := hgk148.val 18 34 rfl rfl
    have hE150 := hgk148.st.ex.ex (fun b h => h.elim (fun h => hgk148.no rfl h) (fun h => h))
    have hE150z := Ex.size hE150
    exact OpR.op' rfl (Yl.sameG (yl_loadN ty61 rfl hx149 (Cells.ex eC39 hE150) rfl kI))
   ·intro L153 w154 G152 hgk155
    obtain ⟨_, hx156, rfl⟩ := hgk155.val 0 16 rfl rfl
    obtain ⟨_, hx157, rfl⟩ := hgk155.val 3 19 rfl rfl
    exact OpR.op' rfl (Yl.sameG (yl_indexAddr un29 ty61 rfl hx156 hx157 eA39 (by first | omega | assumption | (simp only [wI] at *; omega)) (by first | omega | assumption | (simp only [wI] at *; omega)) kI))
   ·intro L159 w160 G158 hgk161
    obtain ⟨_, hx162, rfl⟩ := hgk161.val 20 36 rfl rfl
    obtain ⟨_, hx163, rfl⟩ := hgk161.val 13 29 rfl rfl
    have hE164 := hgk161.st.ex.ex (fun b h => h.elim (fun h => hgk161.nw h) (fun h => h))
    have hE164z := Ex.size hE164
    refine OpR.op' rfl (yl_storeF (off := eo39) (i := (IntKind.wrap .i64 (p_a + x20)).toNat) (d := 0) (dx := d_Opq) (x' := (x21.getD ((IntKind.wrap .i64 (p_b + x20)).toNat) d_Opq)) (vs := [cl (x21.getD ((IntKind.wrap .i64 (p_b + x20)).toNat) d_Opq)]) ty61 rfl (OwnL.ex (good_Opq hcl) hf32 hE164) eA39 hx162 hx163 rfl rfl (all_Opq hcl _) (by first | omega | assumption | (simp only [wI] at *; omega)) (Nat.le_of_ble_eq_true rfl) rfl rfl ?_)
    intro w165 hB167 hO166
    exact ⟨Chg.of_only hO166 ⟨rfl, rfl⟩, hB167⟩
   ·intro G169 L170 w171 hgp172
    have hC173 : Chg (fun b => b = eb39) w27 w171 := hgp172.st.ex.imp (fun b hb h => h.elim (fun h => h.2) (fun h => absurd h (by omega)))
    have hm174 : Mut [(lo1, hi1)] w27 w171 := Mut.of_chg1 hC173 hbt41 (by simp only [InR, or_false]; omega)
    have hm174z := Mut.size hm174
    obtain ⟨_, hF175⟩ := hgp172.fact 21 rfl
    obtain ⟨_, hx181, rfl⟩ := hgp172.val 4 20 rfl rfl
    obtain ⟨_, hx182, rfl⟩ := hgp172.val 7 23 rfl rfl
    obtain ⟨_, hx183, rfl⟩ := hgp172.val 19 35 rfl rfl
    obtain ⟨eb185, eo185, _, eA185, _, ebl185, _, eR185, _⟩ := RdS.atD (OwnL.rd (good_Opq hcl) hF175) d_Opq (i := (IntKind.wrap .i64 (p_b + x20)).toNat) (by first | omega | assumption | (simp only [wI] at *; omega))
    obtain rfl := eR185
    refine sd rfl (yl_indexAddr un29 ty61 rfl hx181 hx182 eA185 (by first | omega | assumption | (simp only [wI] at *; omega)) (by first | omega | assumption | (simp only [wI] at *; omega)) ?_)
    have hrg186 := OwnL.rng hF175 (i := (IntKind.wrap .i64 (p_b + x20)).toNat) (by first | omega | assumption | (simp only [wI] at *; omega)) eb185 (by rw [eA185]; rfl)
    refine SeqR.u rfl rfl (yl_storeF (off := eo185) (i := (IntKind.wrap .i64 (p_b + x20)).toNat) (d := 0) (dx := d_Opq) (x' := (x21.getD ((IntKind.wrap .i64 (p_a + x20)).toNat) d_Opq)) (vs := [cl (x21.getD ((IntKind.wrap .i64 (p_a + x20)).toNat) d_Opq)]) ty61 rfl hF175 eA185 rfl hx183 rfl rfl (all_Opq hcl _) (by first | omega | assumption | (simp only [wI] at *; omega)) (Nat.le_of_ble_eq_true rfl) rfl rfl ?_)
    intro w187 hB188 hO189
    have hO189z := hO189.size
    refine SeqR.done (bn (tn (CW.sub (Sub.cons (d := 0) (id (hgp172.old 0 _ rfl rfl)) (Sub.cons (d := 1) (id (hgp172.old 1 _ rfl rfl)) (Sub.cons (d := 2) (id (hgp172.old 2 _ rfl rfl)) (Sub.cons (d := 3) (id (hgp172.old 3 _ rfl rfl)) (Sub.cons (d := 10) (id (hgp172.old 10 _ rfl rfl)) (Sub.nil _)))))) (CW.region (sd rfl (yl_move rfl rfl (sd rfl (yl_add rfl rfl rfl (sd rfl (yl_assign rfl rfl (SeqR.done ?_)))))))))))
    refine tn ?_
    have hB190 : B_g_slices_swapRangeCmpFunc_Row_0 p_data p_a p_b p_n p_cmp (x20, x21) = .cont (IntKind.wrap .i64 (x20 + 1), ((x21.set ((IntKind.wrap .i64 (p_a + x20)).toNat) (x21.getD ((IntKind.wrap .i64 (p_b + x20)).toNat) d_Opq)).set ((IntKind.wrap .i64 (p_b + x20)).toNat) (x21.getD ((IntKind.wrap .i64 (p_a + x20)).toNat) d_Opq))) := by simp only [B_g_slices_swapRangeCmpFunc_Row_0, hb35, cL]
    have hmu193 : ((p_n - IntKind.wrap .i64 (x20 + 1)).toNat) < ((p_n - x20).toNat) := by first | omega | assumption | (simp only [wI] at *; omega)
    exact ⟨m25 - 1, by omega, IntKind.wrap .i64 (x20 + 1), ((x21.set ((IntKind.wrap .i64 (p_a + x20)).toNat) (x21.getD ((IntKind.wrap .i64 (p_b + x20)).toNat) d_Opq)).set ((IntKind.wrap .i64 (p_b + x20)).toNat) (x21.getD ((IntKind.wrap .i64 (p_a + x20)).toNat) d_Opq)), (by omega), (by omega), (sR rfl), hB188, (Mut.only (Mut.mut hf33 hm174 (fun k hk => by simp only [InR, or_false] at hk ⊢; omega)) hO189 (by simp only [InR, or_false]; omega)), (by first | omega | assumption | (simp only [wI] at *; omega)), (loopW.cont hk28 hB190).symm.trans hI29⟩
  ·refine CW.cond_f rfl hb35 (CW.exit (tx (tx ?_)))
   have hB195 : B_g_slices_swapRangeCmpFunc_Row_0 p_data p_a p_b p_n p_cmp (x20, x21) = .brk (x20, x21) := by simp only [B_g_slices_swapRangeCmpFunc_Row_0, hb35, cL]
   have hL194 : loopW (B_g_slices_swapRangeCmpFunc_Row_0 p_data p_a p_b p_n p_cmp) (((p_n - 0).toNat) + 1) (0, p_data) = .done (x20, x21) := hI29.symm.trans (loopW.brk hk28 hB195)
   refine bx (rn rfl .nil ?_)
   rw [show (g_slices_swapRangeCmpFunc_Row p_data p_a p_b p_n p_cmp) = (x21) by simp only [g_slices_swapRangeCmpFunc_Row, hb35, hL194, cL]]
   exact ⟨rfl, hf32, hf33⟩
theorem c_g_slices_rotateCmpFunc_Row {cl : Nat → Value} {A1 : Option Addr} {c1 : Nat} {lo1 hi1 : Nat} {g2 : Nat} {cp3 : List Value} {w : World} (p_data : List Nat) (p_a : Int) (p_m : Int) (p_b : Int) (p_cmp : Nat → Nat → Int) (hcl : ∀ i, (cl i).oneCell' = true) (h1 : OwnL w lo1 hi1 61 1 (RF (e_Opq cl)) A1 p_data.length c1 p_data) (hen4 : Go.X.Enters Tryz.prog g2) (hfn5 : ∀ (w1 : World) (y0 y1 : Nat), 0 < p_data.length → Mut [(lo1, hi1)] w w1 → Cal Tryz.prog g2 (([.agg #[cl y0], .agg #[cl y1]] : List Value) ++ cp3).toArray w1 fun v w2 => v = .int .i64 (p_cmp y0 y1) ∧ Ex w1 w2) (hrn6 : (0 ≤ lo1 ∧ lo1 ≤ hi1 ∧ hi1 ≤ w.heap.size)) (pre0 : (0 ≤ p_a ∧ p_a < p_m ∧ p_m < p_b ∧ p_b ≤ (p_data.length : Int) ∧ (p_data.length : Int) ≤ 1000)) : Cal Tryz.prog 97 #[.slice A1 p_data.length c1, .int .i64 (p_a), .int .i64 (p_m), .int .i64 (p_b), .func (.func g2) #[] cp3.toArray] w fun v w' => v = .tuple #[] ∧ OwnL w' lo1 hi1 61 1 (RF (e_Opq cl)) A1 p_data.length c1 (g_slices_rotateCmpFunc_Row p_data p_a p_m p_b p_cmp) ∧ Mut [(lo1, hi1)] w w' := by
 refine Cal.of func97 rfl ntmps97 rfl (CW.seq (CW.region (sd rfl (yl_move rfl rfl (sd rfl (yl_move rfl rfl (sd rfl (yl_sub rfl rfl rfl (sd rfl (yl_assign rfl rfl (dn ?_)))))))))))
 refine CW.seq (CW.region (sd rfl (yl_move rfl rfl (sd rfl (yl_move rfl rfl (sd rfl (yl_sub rfl rfl rfl (sd rfl (yl_assign rfl rfl (dn (CW.seq ?_)))))))))))
 refine CW.block (CW.loop (fun m25 L26 w27 => ∃ (x22 : Int) (x23 : Int) (x24 : List Nat), ((x22 + x23).toNat) < m25 ∧ w.heap.size ≤ w27.heap.size ∧ Sub [(0, .slice A1 p_data.length c1), (2, .int .i64 (p_m)), (4, .func (.func g2) #[] cp3.toArray), (10, .int .i64 (x22)), (11, .int .i64 (x23))] L26 ∧ OwnL w27 lo1 hi1 61 1 (RF (e_Opq cl)) A1 p_data.length c1 x24 ∧ Mut [(lo1, hi1)] w w27 ∧ (1 ≤ x22 ∧ x22 ≤ p_m - p_a ∧ 1 ≤ x23 ∧ x23 ≤ p_b - p_m) ∧ loopW (B_g_slices_rotateCmpFunc_Row_0 p_data p_a p_m p_b p_cmp) m25 (x22, x23, x24) = loopW (B_g_slices_rotateCmpFunc_Row_0 p_data p_a p_m p_b p_cmp) (((IntKind.wrap .i64 (p_m - p_a) + IntKind.wrap .i64 (p_b - p_m)).toNat) + 1) (IntKind.wrap .i64 (p_m - p_a), IntKind.wrap .i64 (p_b - p_m), p_data)) (((IntKind.wrap .i64 (p_m - p_a) + IntKind.wrap .i64 (p_b - p_m)).toNat) + 1) ?_ ?_)
 ·exact ⟨IntKind.wrap .i64 (p_m - p_a), IntKind.wrap .i64 (p_b - p_m), p_data, Nat.lt_succ_self _, Nat.le_refl _, (sR rfl), h1, (Mut.refl (l := [(lo1, hi1)]) w), (by first | omega | assumption | (simp only [wI] at *; omega)), rfl⟩
 ·rintro m28 L29 w30 ⟨x22, x23, x24, hk31, hsz33, hl34, hf35, hf36, hv37, hI32⟩
  refine CW.sub hl34 ?_
  have hf36z := Mut.size hf36
  refine CW.seq (CW.seq (CW.region (sd rfl (yl_move rfl rfl (sd rfl (yl_move rfl rfl (sd rfl (yl_neq rfl rfl rfl (dn (bcD (q := x22 = x23) (fun hb38 hb38p => ?_) (fun hb38 hb38p => ?_)))))))))))
  ·refine CW.cond_f rfl (not_t hb38) (CW.exit (tx (tx ?_)))
   have hB40 : B_g_slices_rotateCmpFunc_Row_0 p_data p_a p_m p_b p_cmp (x22, x23, x24) = .brk (x22, x23, x24) := by simp only [B_g_slices_rotateCmpFunc_Row_0, hb38, cL]
   have hL39 : loopW (B_g_slices_rotateCmpFunc_Row_0 p_data p_a p_m p_b p_cmp) (((IntKind.wrap .i64 (p_m - p_a) + IntKind.wrap .i64 (p_b - p_m)).toNat) + 1) (IntKind.wrap .i64 (p_m - p_a), IntKind.wrap .i64 (p_b - p_m), p_data) = .done (x22, x23, x24) := hI32.symm.trans (loopW.brk hk31 hB40)
   refine bx (tn (CW.region (sd rfl (yl_move rfl rfl (sd rfl (yl_move rfl rfl (sd rfl (yl_move rfl rfl (sd rfl (yl_sub rfl rfl rfl (sd rfl (yl_move rfl rfl (sd rfl (yl_move rfl rfl ?_))))))))))))))
   refine sd rfl (yl_move rfl rfl ?_)
   have hle41 := OwnL.len hf35
   have hle42 := OwnL.len hf35
   refine sd rfl (yl_call en108 rfl (oc rfl (oc rfl (oc rfl (oc rfl (oc rfl oz))))) (Cal.mono (Cal.args (by rw [← hle41] <;> rfl) (c_g_slices_swapRangeCmpFunc_Row x24 (IntKind.wrap .i64 (p_m - x22)) p_m x22 p_cmp hcl (OwnL.fix hf35) hen4 (fun w1 y0 y1 => fun hN hE => hfn5 w1 y0 y1 (by omega) (Mut.mut hf36 hE (fun k hk => by simp only [InR, or_false] at hk ⊢; omega))) (by omega) (by first | omega | assumption | (simp only [wI] at *; omega)))) ?_))
   rintro v44 w43 ⟨rfl, h46, hm45⟩
   have hm45z := Mut.size hm45
   have h46 := OwnL.ren hle41 h46
   refine SeqR.done (rn rfl .nil ?_)
   rw [show (g_slices_rotateCmpFunc_Row p_data p_a p_m p_b p_cmp) = ((g_slices_swapRangeCmpFunc_Row x24 (IntKind.wrap .i64 (p_m - x22)) p_m x22 p_cmp)) by simp only [g_slices_rotateCmpFunc_Row, hb38, hL39, cL]]
   exact ⟨rfl, h46, (Mut.mut hf36 hm45 (fun k hk => by simp only [InR, or_false] at hk ⊢; omega))⟩
  ·refine CW.cond_t rfl (not_f hb38) (CW.skip (tn (CW.block (CW.seq (CW.region (sd rfl (yl_move rfl rfl (sd rfl (yl_move rfl rfl (sd rfl (yl_gtr rfl rfl rfl ?_)))))))))))
   refine dn (bcD (q := x23 < x22) (fun hb49 hb49p => ?_) (fun hb49 hb49p => ?_))
   ·refine CW.cond_t rfl hb49 (CW.seq (CW.region (sd rfl (yl_move rfl rfl (sd rfl (yl_move rfl rfl (sd rfl (yl_move rfl rfl (sd rfl (yl_sub rfl rfl rfl (sd rfl (yl_move rfl rfl (sd rfl (yl_move rfl rfl ?_))))))))))))))
    refine sd rfl (yl_move rfl rfl ?_)
    have hle50 := OwnL.len hf35
    have hle51 := OwnL.len hf35
    refine sd rfl (yl_call en108 rfl (oc rfl (oc rfl (oc rfl (oc rfl (oc rfl oz))))) (Cal.mono (Cal.args (by rw [← hle50] <;> rfl) (c_g_slices_swapRangeCmpFunc_Row x24 (IntKind.wrap .i64 (p_m - x22)) p_m x23 p_cmp hcl (OwnL.fix hf35) hen4 (fun w1 y0 y1 => fun hN hE => hfn5 w1 y0 y1 (by omega) (Mut.mut hf36 hE (fun k hk => by simp only [InR, or_false] at hk ⊢; omega))) (by omega) (by first | omega | assumption | (simp only [wI] at *; omega)))) ?_))
    rintro v53 w52 ⟨rfl, h55, hm54⟩
    have hm54z := Mut.size hm54
    have h55 := OwnL.ren hle50 h55
    refine dn (CW.region (sd rfl (yl_move rfl rfl (sd rfl (yl_move rfl rfl (sd rfl (yl_sub rfl rfl rfl (sd rfl (yl_assign rfl rfl (SeqR.done (bn ?_)))))))))))
    refine tn ?_
    have hB56 : B_g_slices_rotateCmpFunc_Row_0 p_data p_a p_m p_b p_cmp (x22, x23, x24) = .cont (IntKind.wrap .i64 (x22 - x23), x23, (g_slices_swapRangeCmpFunc_Row x24 (IntKind.wrap .i64 (p_m - x22)) p_m x23 p_cmp)) := by simp only [B_g_slices_rotateCmpFunc_Row_0, hb38, hb49, cL]
    have hmu58 : ((IntKind.wrap .i64 (x22 - x23) + x23).toNat) < ((x22 + x23).toNat) := by first | omega | assumption | (simp only [wI] at *; omega)
    exact ⟨m28 - 1, by omega, IntKind.wrap .i64 (x22 - x23), x23, (g_slices_swapRangeCmpFunc_Row x24 (IntKind.wrap .i64 (p_m - x22)) p_m x23 p_cmp), (by omega), (by omega), (sR rfl), h55, (Mut.mut hf36 hm54 (fun k hk => by simp only [InR, or_false] at hk ⊢; omega)), (by first | omega | assumption | (simp only [wI] at *; omega)), (loopW.cont hk31 hB56).symm.trans hI32⟩
   ·refine CW.cond_f rfl hb49 (CW.seq (CW.region (sd rfl (yl_move rfl rfl (sd rfl (yl_move rfl rfl (sd rfl (yl_move rfl rfl (sd rfl (yl_sub rfl rfl rfl (sd rfl (yl_move rfl rfl (sd rfl (yl_move rfl rfl ?_))))))))))))))
    refine sd rfl (yl_add rfl rfl rfl (sd rfl (yl_move rfl rfl (sd rfl (yl_sub rfl rfl rfl (sd rfl (yl_move rfl rfl (sd rfl (yl_move rfl rfl ?_)))))))))
    have hle59 := OwnL.len hf35
    have hle60 := OwnL.len hf35
    refine sd rfl (yl_call en108 rfl (oc rfl (oc rfl (oc rfl (oc rfl (oc rfl oz))))) (Cal.mono (Cal.args (by rw [← hle59] <;> rfl) (c_g_slices_swapRangeCmpFunc_Row x24 (IntKind.wrap .i64 (p_m - x22)) (IntKind.wrap .i64 ((IntKind.wrap .i64 (p_m + x23)) - x22)) x22 p_cmp hcl (OwnL.fix hf35) hen4 (fun w1 y0 y1 => fun hN hE => hfn5 w1 y0 y1 (by omega) (Mut.mut hf36 hE (fun k hk => by simp only [InR, or_false] at hk ⊢; omega))) (by omega) (by first | omega | assumption | (simp only [wI] at *; omega)))) ?_))
    rintro v62 w61 ⟨rfl, h64, hm63⟩
    have hm63z := Mut.size hm63
    have h64 := OwnL.ren hle59 h64
    refine dn (CW.region (sd rfl (yl_move rfl rfl (sd rfl (yl_move rfl rfl (sd rfl (yl_sub rfl rfl rfl (sd rfl (yl_assign rfl rfl (SeqR.done (bn ?_)))))))))))
    refine tn ?_
    have hB65 : B_g_slices_rotateCmpFunc_Row_0 p_data p_a p_m p_b p_cmp (x22, x23, x24) = .cont (x22, IntKind.wrap .i64 (x23 - x22), (g_slices_swapRangeCmpFunc_Row x24 (IntKind.wrap .i64 (p_m - x22)) (IntKind.wrap .i64 ((IntKind.wrap .i64 (p_m + x23)) - x22)) x22 p_cmp)) := by simp only [B_g_slices_rotateCmpFunc_Row_0, hb38, hb49, cL]
    have hmu67 : ((x22 + IntKind.wrap .i64 (x23 - x22)).toNat) < ((x22 + x23).toNat) := by first | omega | assumption | (simp only [wI] at *; omega)
    exact ⟨m28 - 1, by omega, x22, IntKind.wrap .i64 (x23 - x22), (g_slices_swapRangeCmpFunc_Row x24 (IntKind.wrap .i64 (p_m - x22)) (IntKind.wrap .i64 ((IntKind.wrap .i64 (p_m + x23)) - x22)) x22 p_cmp), (by omega), (by omega), (sR rfl), h64, (Mut.mut hf36 hm63 (fun k hk => by simp only [InR, or_false] at hk ⊢; omega)), (by first | omega | assumption | (simp only [wI] at *; omega)), (loopW.cont hk31 hB65).symm.trans hI32⟩
end Go.Proofs.YtdhfokkkpcelpaaGreatDoor
