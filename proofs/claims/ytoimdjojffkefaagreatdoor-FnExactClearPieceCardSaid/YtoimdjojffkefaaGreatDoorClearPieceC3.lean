/- Clear Piece: what each call returns, part 3. -/
import Derived.Test.YtoimdjojffkefaaGreatDoorClearPieceC2
set_option maxRecDepth 100000
set_option maxHeartbeats 2000000
open Go.Proofs.Tryz Go.Proofs.YtoimdjojffkefaaGreatDoor.Tryz
set_option linter.unusedVariables false
set_option linter.unusedSimpArgs false
namespace Go.Proofs.YtoimdjojffkefaaGreatDoor
open Go.RowKit Go.X
theorem c_i_areRising {A1 : Option Addr} {c1 : Nat} {w : World} (p_keys : List Str) (h1 : RdS w (Iv 0 w.heap.size) (RF e_Str) 1 A1 p_keys.length c1 p_keys) (o2 : (okL okS) p_keys) : Cal Tryz.prog 127 #[.slice A1 p_keys.length c1] w fun v w' => v = .bool ((i_areRising p_keys)) ∧ Ex w w' := by
 have hol3 := o2.1
 refine Cal.of func127 rfl ntmps127 rfl (cR (sA rfl (dn (CW.seq (cR ?_)))))
 refine sM rfl (sd rfl (yL un22 rfl rfl (sM rfl (dn (CW.block (CW.loop (fun m5 L6 w7 => ∃ (k4 : Nat), m5 = p_keys.length - k4 ∧ k4 ≤ p_keys.length ∧ w.heap.size ≤ w7.heap.size ∧ Sub [(0, .slice A1 p_keys.length c1), (5, .slice A1 p_keys.length c1), (6, .int .i64 ((p_keys.length : Int))), (7, .int .i64 ((k4 : Int)))] L6 ∧ RdS w7 (Iv 0 w.heap.size) (RF e_Str) 1 A1 p_keys.length c1 p_keys ∧ Ex w w7 ∧ loopM (B_i_areRising_0 p_keys) (p_keys.length - k4) k4 () = loopM (B_i_areRising_0 p_keys) (p_keys.length - 0) 0 ()) (p_keys.length - 0) ?_ ?_))))))
 ·exact ⟨0, rfl, oM, Nat.le_refl _, (sR rfl), h1, (Ex.refl w), rfl⟩
 ·rintro m8 L9 w10 ⟨k4, rfl, hk11, hsz13, hl14, hf15, hf16, hI12⟩
  refine CW.sub hl14 ?_
  have hf16z := Ex.size hf16
  have hbg17 := RdS.big hf15
  rcases Nat.lt_or_ge k4 p_keys.length with hlt18 | hlt18
  ·refine cR (sd rfl (yl_lss rfl rfl rfl (dn (CW.seq (CW.cond_t rfl (lt_t hlt18) (CW.skip (tn ?_)))))))
   refine CW.seq (CW.block (cR (sM rfl ?_)))
   obtain ⟨_, _, _, eA19, _, ebl19, _, eR19, eC19⟩ := RdS.aD hf15 d_Str (i := k4)
   obtain rfl := eR19
   refine sd rfl (yl_ixN un22 ty9 rfl rfl rfl eA19 (sd rfl (yl_load1 ty9 rfl rfl (eC19 0 _ rfl) (sA rfl (sA rfl (dn (cR (sM rfl ?_))))))))
   refine sd rfl (yC en142 rfl (oc rfl oz) (Cal.mono (c_i_GoodKey (p_keys.getD k4 d_Str) (okL.getD o2 ok_d_Str _)) ?_))
   rintro v21 w20 ⟨rfl, hE22⟩
   have hE22z := Ex.size hE22
   refine sd rfl (yl_not rfl rfl (sM rfl (bcase (i_GoodKey (p_keys.getD k4 d_Str)) (fun hb23 => ?_) (fun hb23 => ?_))))
   ·refine sy rfl rfl (not_t hb23) (yM rfl rfl (sy rfl rfl (not_t hb23) (yl_gtr rfl rfl rfl (sy rfl rfl (not_t hb23) (yM rfl rfl (bcD (q := 0 < (k4 : Int)) (fun hb24 hb24p => ?_) (fun hb24 hb24p => ?_)))))))
    ·refine sy rfl rfl hb24 (yM rfl rfl (sy rfl rfl hb24 (yM rfl rfl (sy rfl rfl hb24 (yM rfl rfl (sy rfl rfl hb24 (yl_sub rfl rfl rfl ?_)))))))
     have q25 := RdS.ex gS hf15 hE22
     obtain ⟨_, _, _, eA26, _, ebl26, _, eR26, eC26⟩ := RdS.atD q25 d_Str (i := (IntKind.wrap .i64 ((k4 : Int) - 1)).toNat) Bo
     obtain rfl := eR26
     refine sy rfl rfl hb24 (yl_indexAddr un22 ty9 rfl rfl rfl eA26 Bo Bo (sy rfl rfl hb24 (yl_load1 ty9 rfl rfl (eC26 0 _ rfl) (sy rfl rfl hb24 (yl_sleq (a := (p_keys.getD k4 d_Str)) (b := (p_keys.getD ((IntKind.wrap .i64 ((k4 : Int) - 1)).toNat) d_Str)) rfl rfl rfl (sy rfl rfl (not_t hb23) (yl_pick_t rfl rfl hb24 rfl (sd rfl (yl_pick_f rfl rfl (not_t hb23) rfl (dn (bcase (sLe (p_keys.getD k4 d_Str) (p_keys.getD ((IntKind.wrap .i64 ((k4 : Int) - 1)).toNat) d_Str)) (fun hb27 => ?_) (fun hb27 => ?_))))))))))))
     ·refine CW.cond_t rfl hb27 (cR (sA rfl (dn (CW.ret (br (tr ?_))))))
      refine tr ?_
      have hB29 : B_i_areRising_0 p_keys k4 () = .ret false := by simp only [B_i_areRising_0, hb23, hb24, hb27, cL]
      have hL28 : loopM (B_i_areRising_0 p_keys) (p_keys.length - 0) 0 () = .ret false := hI12.symm.trans (loopM.ret hlt18 hB29)
      refine br (tr (rr rfl (.cons rfl .nil) ?_))
      rw [show (i_areRising p_keys) = (false) by simp only [i_areRising, hb23, hb24, hb27, hL28, cL]]
      exact ⟨rfl, (Ex.trans hf16 hE22)⟩
     ·refine CW.cond_f rfl hb27 (CW.skip (bn (tn (CW.region (sd rfl (yl_inc rfl rfl rfl oM (sM rfl (dn ?_))))))))
      have hB32 : B_i_areRising_0 p_keys k4 () = .cont () := by simp only [B_i_areRising_0, hb23, hb24, hb27, cL]
      exact ⟨p_keys.length - (k4 + 1), oM, k4 + 1, rfl, hlt18, oM, (sR rfl), q25, (Ex.trans hf16 hE22), (loopM.cont hlt18 hB32).symm.trans hI12⟩
    ·refine sz rfl rfl hb24 (sz rfl rfl hb24 (sz rfl rfl hb24 (sz rfl rfl hb24 (sz rfl rfl hb24 (sz rfl rfl hb24 (sz rfl rfl hb24 (sy rfl rfl (not_t hb23) (yl_pick_f rfl rfl hb24 rfl (sd rfl (yl_pick_f rfl rfl (not_t hb23) rfl ?_))))))))))
     refine dn (CW.cond_f rfl rfl (CW.skip (bn (tn (CW.region (sd rfl (yl_inc rfl rfl rfl oM (sM rfl ?_))))))))
     refine dn ?_
     have hB34 : B_i_areRising_0 p_keys k4 () = .cont () := by simp only [B_i_areRising_0, hb23, hb24, cL]
     exact ⟨p_keys.length - (k4 + 1), oM, k4 + 1, rfl, hlt18, oM, (sR rfl), (RdS.ex gS hf15 hE22), (Ex.trans hf16 hE22), (loopM.cont hlt18 hB34).symm.trans hI12⟩
   ·refine sz rfl rfl (not_f hb23) (sz rfl rfl (not_f hb23) (sz rfl rfl (not_f hb23) (sq rfl rfl (sq rfl rfl (sq rfl rfl (sq rfl rfl (sq rfl rfl (sq rfl rfl ?_))))))))
    refine sq rfl rfl (sz rfl rfl (not_f hb23) (sd rfl (yl_pick_t rfl rfl (not_f hb23) rfl (dn (CW.cond_t rfl rfl (cR (sA rfl ?_)))))))
    refine dn (CW.ret (br (tr (tr ?_))))
    have hB38 : B_i_areRising_0 p_keys k4 () = .ret false := by simp only [B_i_areRising_0, hb23, cL]
    have hL37 : loopM (B_i_areRising_0 p_keys) (p_keys.length - 0) 0 () = .ret false := hI12.symm.trans (loopM.ret hlt18 hB38)
    refine br (tr (rr rfl (.cons rfl .nil) ?_))
    rw [show (i_areRising p_keys) = (false) by simp only [i_areRising, hb23, hL37, cL]]
    exact ⟨rfl, (Ex.trans hf16 hE22)⟩
  ·refine cR (sd rfl (yl_lss rfl rfl rfl (dn (CW.seq (CW.cond_f rfl (lt_f hlt18) (CW.exit (tx ?_)))))))
   refine tx ?_
   have hL41 : loopM (B_i_areRising_0 p_keys) (p_keys.length - 0) 0 () = .done () := hI12.symm.trans (loopM.stop hlt18)
   refine bx (tn (cR (sA rfl (dn (CW.ret (rr rfl (.cons rfl .nil) ?_))))))
   rw [show (i_areRising p_keys) = (true) by simp only [i_areRising, hL41, cL]]
   exact ⟨rfl, hf16⟩
theorem c_i_writeKeys {A1 : Option Addr} {c1 : Nat} {w : World} (p_l : List DWrite) (h1 : RdS w (Iv 0 w.heap.size) (RF e_Write) 3 A1 p_l.length c1 p_l) (o2 : (okL ok_Write) p_l) : Cal Tryz.prog 128 #[.slice A1 p_l.length c1] w fun v w' => ∃ A_1 c_1 lo_1 hi_1, v = .slice A_1 ((i_writeKeys p_l).length) c_1 ∧ OwnL w' lo_1 hi_1 9 1 (RF e_Str) A_1 ((i_writeKeys p_l).length) c_1 (i_writeKeys p_l) ∧ (okL okS) (i_writeKeys p_l) ∧ (w.heap.size ≤ lo_1 ∧ lo_1 ≤ hi_1 ∧ hi_1 ≤ w'.heap.size) ∧ Ex w w' := by
 have hol3 := o2.1
 refine Cal.of func128 rfl ntmps128 rfl (cR (sA rfl (dn (cR (sd rfl (yl_buildSlice (cs := []) un22 ty9 (by decide) rfl opvs_nil (by kernel_rfl) ?_))))))
 intro b4 w5 hs6 hz7 hB8 hE9
 have hO10 : OwnL w5 b4 (b4 + 1) 9 1 (RF e_Str) (some ⟨b4, 0, none⟩) 0 0 ([] : List Str) := oB hB8
 refine sA rfl (dn (CW.seq (cR (sM rfl (sd rfl (yL un34 rfl rfl (sM rfl ?_)))))))
 refine dn (CW.block (CW.loop (fun m65 L66 w67 => ∃ (k11 : Nat) (x61 : List Str) (A62 : Option Addr) (c63 : Nat) (u64 : Nat), m65 = p_l.length - k11 ∧ k11 ≤ p_l.length ∧ w5.heap.size ≤ w67.heap.size ∧ Sub [(3, .slice A62 x61.length c63), (7, .slice A1 p_l.length c1), (8, .int .i64 ((p_l.length : Int))), (9, .int .i64 ((k11 : Int)))] L66 ∧ OwnL w67 b4 u64 9 1 (RF e_Str) A62 x61.length c63 x61 ∧ RdS w67 (Iv 0 w.heap.size) (RF e_Write) 3 A1 p_l.length c1 p_l ∧ Ex w w67 ∧ (b4 ≤ u64 ∧ u64 ≤ w67.heap.size) ∧ x61.length ≤ 0 + 1 * (k11 - 0) ∧ (∀ y ∈ x61, okS y) ∧ loopM (B_i_writeKeys_0 p_l) (p_l.length - k11) k11 (x61) = loopM (B_i_writeKeys_0 p_l) (p_l.length - 0) 0 (([] : List Str))) (p_l.length - 0) ?_ ?_))
 ·exact ⟨0, ([] : List Str), (some ⟨b4, 0, none⟩), 0, (b4 + 1), rfl, oM, Nat.le_refl _, (sR rfl), hO10, (RdS.ex gW h1 hE9), (Ex.trans (Ex.refl w) hE9), oM, (by first | (simp; done) | (first | omega | (simp only [lN, toS_length]; omega))), okE.nil, rfl⟩
 ·rintro m70 L71 w72 ⟨k11, x61, A62, c63, u64, rfl, hk73, hsz75, hl76, hf77, hf78, hf79, hu80, hln81, hok82, hI74⟩
  refine CW.sub hl76 ?_
  have hf79z := Ex.size hf79
  have hbg83 := RdS.big hf78
  rcases Nat.lt_or_ge k11 p_l.length with hlt84 | hlt84
  ·refine cR (sd rfl (yl_lss rfl rfl rfl (dn (CW.seq (CW.cond_t rfl (lt_t hlt84) (CW.skip (tn ?_)))))))
   refine CW.seq (CW.block (cR ?_))
   obtain ⟨_, _, _, eA85, _, ebl85, _, eR85, eC85⟩ := RdS.aD hf78 d_Write (i := k11)
   obtain rfl := eR85
   refine sd rfl (yl_ixN un34 ty80 rfl rfl rfl eA85 (sd rfl (yl_loadN ty80 rfl rfl eC85 rfl (sd rfl (yB ty80 (cs := [.string (bs (([] : Str))), .string (bs (([] : Str))), .bool (false)]) rfl rfl ?_)))))
   intro b86 w87 hs88 hz89 hB90 hE91
   refine SeqR.u rfl rfl (yl_storeA (vs := [.string (bs ((p_l.getD k11 d_Write).Key)), .string (bs ((p_l.getD k11 d_Write).Val)), .bool ((p_l.getD k11 d_Write).Gone)]) ty80 rfl rfl rfl rfl rfl rfl hB90 rfl ?_)
   intro w92 hB93 hO94
   have hO94z := hO94.size
   refine dn (CW.region (sM rfl (sd rfl (yl_fieldAddr fd80_0 rfl rfl (sd rfl (yl_load1 ty9 rfl rfl ((hB93.cell 0).trans rfl) (sd rfl (yl_buildSlice (cs := [.string (bs ((p_l.getD k11 d_Write).Key))]) un22 ty9 (by decide) rfl (oc rfl oz) (by kernel_rfl) ?_))))))))
   intro b95 w96 hs97 hz98 hB99 hE100
   have hO101 : OwnL w96 b95 (b95 + 1) 9 1 (RF e_Str) (some ⟨b95, 0, none⟩) 1 1 ([(p_l.getD k11 d_Write).Key] : List Str) := OwnL.of_box (S := fun _ => False) hB99 (Nat.le_refl _) (Nat.lt_succ_self _) (EncL.cons (c := [.string (bs ((p_l.getD k11 d_Write).Key))]) rfl rfl EncL.nil) (nb rfl) (fun h => h) (fun _ h => False.elim h)
   refine sd rfl (yl_appendL (S := (fun _ => False)) (lo := b4) (hi := u64) (xs := x61) (ys := ([(p_l.getD k11 d_Write).Key] : List Str)) gS un22 ty9 rfl (nb rfl) rfl rfl rfl (OwnL.ex gS (OwnL.only gS (OwnL.ex gS hf77 hE91) hO94 oM) hE100) (EncL.cons (c := [.string (bs ((p_l.getD k11 d_Write).Key))]) rfl rfl EncL.nil) (Or.inr ⟨_, _, rfl, rfl, hB99.cells (o := 0) (n := 1) rfl⟩) rfl Bl Bl oM oM (fun _ h _ => False.elim h) oM ?_)
   intro A105 c106 w107 row108 hO109 hG110 hrg111
   have hG110z := hG110.size
   refine sA rfl (SeqR.done (bn (tn (CW.region (sd rfl (yl_inc rfl rfl rfl oM (sM rfl (dn ?_))))))))
   have hB112 : B_i_writeKeys_0 p_l k11 (x61) = .cont ((x61 ++ ([(p_l.getD k11 d_Write).Key] : List Str))) := by simp only [B_i_writeKeys_0, cL]
   exact ⟨p_l.length - (k11 + 1), oM, k11 + 1, (x61 ++ ([(p_l.getD k11 d_Write).Key] : List Str)), A105, c106, w107.heap.size, rfl, hlt84, oM, (sR rfl), hO109, (RdS.grown gW (RdS.ex gW (RdS.only gW (RdS.ex gW hf78 hE91) hO94 iV) hE100) hG110 (hV hrg111)), (Below.grown (Ex.trans (Below.only (Ex.trans hf79 hE91) hO94 oM) hE100) hG110 oM (hW hrg111)), oM, Bl, (okE.append hok82 ((okL.mk (nb rfl) (okE.cons (okL.getD o2 ok_d_Write _).1 okE.nil))).2), (loopM.cont hlt84 hB112).symm.trans hI74⟩
  ·refine cR (sd rfl (yl_lss rfl rfl rfl (dn (CW.seq (CW.cond_f rfl (lt_f hlt84) (CW.exit (tx ?_)))))))
   refine tx ?_
   have hL121 : loopM (B_i_writeKeys_0 p_l) (p_l.length - 0) 0 (([] : List Str)) = .done (x61) := hI74.symm.trans (loopM.stop hlt84)
   refine bx (tn (cR (sM rfl (sA rfl (dn (CW.ret ?_))))))
   refine rr rfl (.cons rfl .nil) ?_
   rw [show (i_writeKeys p_l) = (x61) by simp only [i_writeKeys, hL121, cL]]
   exact ⟨A62, c63, b4, u64, rfl, hf77, (okL.mk (xs := x61) Bl hok82), oM, hf79⟩
theorem c_i_GoodVal {w : World} (p_s : Str) (o1 : okS p_s) : Cal Tryz.prog 176 #[.string (bs (p_s))] w fun v w' => v = .bool ((i_GoodVal p_s)) ∧ Ex w w' := by
 refine Cal.of func176 rfl ntmps176 rfl (cR (sA rfl (dn (cR (sM rfl ?_)))))
 refine sd rfl (yl_slen un9 (a := p_s) rfl rfl (sd rfl (yl_leq rfl rfl rfl (sM rfl (bcD (q := (p_s.length : Int) ≤ 24) (fun hb3 hb3p => ?_) (fun hb3 hb3p => ?_))))))
 ·refine sy rfl rfl hb3 (yM rfl rfl (sy rfl rfl hb3 (yC en184 rfl (oc rfl (oc rfl oz)) (Cal.mono (c_i_hasBytes p_s ([46, 45, 44, 95] : Str) o1 (okS.lit rfl)) ?_))))
  rintro v5 w4 ⟨rfl, hE6⟩
  refine sd rfl (yl_pick_t rfl rfl hb3 rfl (sA rfl (dn (CW.ret (rr rfl (.cons rfl .nil) ?_)))))
  rw [show (i_GoodVal p_s) = ((i_hasBytes p_s ([46, 45, 44, 95] : Str))) by simp only [i_GoodVal, hb3, cL]]
  exact ⟨rfl, (Ex.trans (Ex.refl w) hE6)⟩
 ·refine sz rfl rfl hb3 (sz rfl rfl hb3 (sd rfl (yl_pick_f rfl rfl hb3 rfl (sA rfl (dn (CW.ret (rr rfl (.cons rfl .nil) ?_)))))))
  rw [show (i_GoodVal p_s) = (false) by simp only [i_GoodVal, hb3, cL]]
  exact ⟨rfl, (Ex.refl w)⟩
theorem c_i_isStored {w : World} (p_val : Str) (p_gone : Bool) (o1 : okS p_val) : Cal Tryz.prog 130 #[.string (bs (p_val)), .bool (p_gone)] w fun v w' => v = .bool ((i_isStored p_val p_gone)) ∧ Ex w w' := by
 refine Cal.of func130 rfl ntmps130 rfl (cR (sA rfl (dn (cR (sM rfl ?_)))))
 refine sd rfl (yC en176 rfl (oc rfl oz) (Cal.mono (c_i_GoodVal p_val o1) ?_))
 rintro v4 w3 ⟨rfl, hE5⟩
 refine sM rfl (bcase (i_GoodVal p_val) (fun hb6 => ?_) (fun hb6 => ?_))
 ·refine sy rfl rfl hb6 (yM rfl rfl (sy rfl rfl hb6 (yM rfl rfl (bcase (p_gone) (fun hb7 => ?_) (fun hb7 => ?_)))))
  ·refine sy rfl rfl hb7 (yM rfl rfl (sy rfl rfl hb7 (yl_sneq (a := p_val) (b := ([] : Str)) rfl rfl rfl (sy rfl rfl hb6 (yl_pick_t rfl rfl hb7 rfl (sy rfl rfl hb6 (yl_not rfl rfl (sd rfl (yl_pick_t rfl rfl hb6 rfl (sA rfl (dn (CW.ret ?_))))))))))))
   refine rr rfl (.cons rfl .nil) ?_
   rw [show (i_isStored p_val p_gone) = (!(!(p_val == ([] : Str)))) by simp only [i_isStored, hb6, hb7, cL]]
   exact ⟨rfl, (Ex.trans (Ex.refl w) hE5)⟩
  ·refine sz rfl rfl hb7 (sz rfl rfl hb7 (sy rfl rfl hb6 (yl_pick_f rfl rfl hb7 rfl (sy rfl rfl hb6 (yl_not rfl rfl (sd rfl (yl_pick_t rfl rfl hb6 rfl (sA rfl (dn (CW.ret ?_))))))))))
   refine rr rfl (.cons rfl .nil) ?_
   rw [show (i_isStored p_val p_gone) = (!false) by simp only [i_isStored, hb6, hb7, cL]]
   exact ⟨rfl, (Ex.trans (Ex.refl w) hE5)⟩
 ·refine sz rfl rfl hb6 (sz rfl rfl hb6 (sq rfl rfl (sq rfl rfl (sz rfl rfl hb6 (sz rfl rfl hb6 (sd rfl (yl_pick_f rfl rfl hb6 rfl (sA rfl (SeqR.done ?_)))))))))
  refine tn (CW.ret (rr rfl (.cons rfl .nil) ?_))
  rw [show (i_isStored p_val p_gone) = (false) by simp only [i_isStored, hb6, cL]]
  exact ⟨rfl, (Ex.trans (Ex.refl w) hE5)⟩
theorem c_i_GoodWrites_c1 {w : World} (p_w : DWrite) (o1 : ok_Write p_w) : Cal Tryz.prog 129 #[.agg #[.string (bs (p_w.Key)), .string (bs (p_w.Val)), .bool (p_w.Gone)]] w fun v w' => v = .bool ((i_GoodWrites_c1 p_w)) ∧ Ex w w' := by
 refine Cal.of func129 rfl ntmps129 rfl (cR (sd rfl (yl_box rfl rfl rfl ?_)))
 intro b4 w5 hs6 hz7 hB8 hE9
 refine sA rfl (dn (cR (sd rfl (yl_fieldAddr fd80_1 rfl rfl (sd rfl (yl_load1 ty9 rfl rfl ((hB8.cell 1).trans rfl) (sd rfl (yl_fieldAddr fd80_2 rfl rfl (sd rfl (yl_load1 ty4 rfl rfl ((hB8.cell 2).trans rfl) ?_))))))))))
 refine sd rfl (yC en130 rfl (oc rfl (oc rfl oz)) (Cal.mono (c_i_isStored p_w.Val p_w.Gone o1.2) ?_))
 rintro v11 w10 ⟨rfl, hE12⟩
 refine sd rfl (yl_not rfl rfl (sA rfl (dn (CW.ret (rr rfl (.cons rfl .nil) ?_)))))
 rw [show (i_GoodWrites_c1 p_w) = (!(i_isStored p_w.Val p_w.Gone)) by simp only [i_GoodWrites_c1, cL]]
 exact ⟨rfl, (Ex.trans (Ex.trans (Ex.refl w) hE9) hE12)⟩
theorem c_i_GoodWrites {A1 : Option Addr} {c1 : Nat} {w : World} (p_l : List DWrite) (h1 : RdS w (Iv 0 w.heap.size) (RF e_Write) 3 A1 p_l.length c1 p_l) (o2 : (okL ok_Write) p_l) : Cal Tryz.prog 78 #[.slice A1 p_l.length c1] w fun v w' => v = .bool ((i_GoodWrites p_l)) ∧ Ex w w' := by
 refine Cal.of func78 rfl ntmps78 rfl (cR (sA rfl (dn (cR (sM rfl ?_)))))
 refine sd rfl (yL un34 rfl rfl (sd rfl (yl_leq rfl rfl rfl (sM rfl (bcD (q := (p_l.length : Int) ≤ 24) (fun hb4 hb4p => ?_) (fun hb4 hb4p => ?_))))))
 ·refine sy rfl rfl hb4 (yM rfl rfl (sy rfl rfl hb4 (yC en128 rfl (oc rfl oz) (Cal.mono (c_i_writeKeys p_l (RdS.up h1 gW) o2) ?_))))
  rintro v8 w5 ⟨A6, c6, lo6, hi6, rfl, h6, ho7, hrn10, hE9⟩
  refine sy rfl rfl hb4 (yC en127 rfl (oc rfl oz) (Cal.mono (c_i_areRising (i_writeKeys p_l) (RdS.up (OwnL.rd gS h6) gS) ho7) ?_))
  rintro v13 w12 ⟨rfl, hE14⟩
  refine sd rfl (yl_pick_t rfl rfl hb4 rfl (sM rfl (bcase (i_areRising (i_writeKeys p_l)) (fun hb15 => ?_) (fun hb15 => ?_))))
  ·refine sy rfl rfl hb15 (yM rfl rfl (sy rfl rfl hb15 (yC en79 rfl (oc rfl (oc rfl oz)) (Cal.mono (c_g_slices_ContainsFunc_Write p_l (fun y0 => i_GoodWrites_c1 y0) (RdS.up (RdS.ex gW (RdS.ex gW h1 hE9) hE14) gW) en129 (fun _ y0 => fun hE hm0 ov0 => c_i_GoodWrites_c1 y0 ov0) o2) ?_))))
   rintro v19 w18 ⟨rfl, hE20⟩
   refine sy rfl rfl hb15 (yl_not rfl rfl (sd rfl (yl_pick_t rfl rfl hb15 rfl (sA rfl (dn (CW.ret (rr rfl (.cons rfl .nil) ?_)))))))
   rw [show (i_GoodWrites p_l) = (!(g_slices_ContainsFunc_Write p_l (fun y0 => i_GoodWrites_c1 y0))) by simp only [i_GoodWrites, hb4, hb15, cL]]
   exact ⟨rfl, (Ex.trans (Ex.trans (Ex.trans (Ex.refl w) hE9) hE14) hE20)⟩
  ·refine sz rfl rfl hb15 (sz rfl rfl hb15 (sz rfl rfl hb15 (sd rfl (yl_pick_f rfl rfl hb15 rfl (sA rfl (dn (CW.ret (rr rfl (.cons rfl .nil) ?_))))))))
   rw [show (i_GoodWrites p_l) = (false) by simp only [i_GoodWrites, hb4, hb15, cL]]
   exact ⟨rfl, (Ex.trans (Ex.trans (Ex.refl w) hE9) hE14)⟩
 ·refine sz rfl rfl hb4 (sz rfl rfl hb4 (sz rfl rfl hb4 (sd rfl (yl_pick_f rfl rfl hb4 rfl (sM rfl (sz rfl rfl rfl (sz rfl rfl rfl (sz rfl rfl rfl (sd rfl (yl_pick_f rfl rfl rfl rfl ?_))))))))))
  refine sA rfl (dn (CW.ret (rr rfl (.cons rfl .nil) ?_)))
  rw [show (i_GoodWrites p_l) = (false) by simp only [i_GoodWrites, hb4, cL]]
  exact ⟨rfl, (Ex.refl w)⟩
theorem c_i_isRows_c1 {w : World} (p_w : DWrite) (o1 : ok_Write p_w) : Cal Tryz.prog 80 #[.agg #[.string (bs (p_w.Key)), .string (bs (p_w.Val)), .bool (p_w.Gone)]] w fun v w' => v = .bool ((i_isRows_c1 p_w)) ∧ Ex w w' := by
 refine Cal.of func80 rfl ntmps80 rfl (cR (sd rfl (yl_box rfl rfl rfl ?_)))
 intro b4 w5 hs6 hz7 hB8 hE9
 refine sA rfl (dn (cR (sd rfl (yl_fieldAddr fd80_2 rfl rfl (sd rfl (yl_load1 ty4 rfl rfl ((hB8.cell 2).trans rfl) (sA rfl (SeqR.done ?_))))))))
 refine tn (CW.ret (rr rfl (.cons rfl .nil) ?_))
 rw [show (i_isRows_c1 p_w) = (p_w.Gone) by simp only [i_isRows_c1, cL]]
 exact ⟨rfl, (Ex.trans (Ex.refl w) hE9)⟩
theorem c_i_isRows {A1 : Option Addr} {c1 : Nat} {w : World} (p_rows : List DWrite) (h1 : RdS w (Iv 0 w.heap.size) (RF e_Write) 3 A1 p_rows.length c1 p_rows) (o2 : (okL ok_Write) p_rows) : Cal Tryz.prog 47 #[.slice A1 p_rows.length c1] w fun v w' => v = .bool ((i_isRows p_rows)) ∧ Ex w w' := by
 refine Cal.of func47 rfl ntmps47 rfl (cR (sA rfl (dn (cR (sM rfl ?_)))))
 refine sd rfl (yC en78 rfl (oc rfl oz) (Cal.mono (c_i_GoodWrites p_rows (RdS.up h1 gW) o2) ?_))
 rintro v5 w4 ⟨rfl, hE6⟩
 refine sM rfl (bcase (i_GoodWrites p_rows) (fun hb7 => ?_) (fun hb7 => ?_))
 ·refine sy rfl rfl hb7 (yM rfl rfl (sy rfl rfl hb7 (yC en79 rfl (oc rfl (oc rfl oz)) (Cal.mono (c_g_slices_ContainsFunc_Write p_rows (fun y0 => i_isRows_c1 y0) (RdS.up (RdS.ex gW h1 hE6) gW) en80 (fun _ y0 => fun hE hm0 ov0 => c_i_isRows_c1 y0 ov0) o2) ?_))))
  rintro v10 w9 ⟨rfl, hE11⟩
  refine sy rfl rfl hb7 (yl_not rfl rfl (sd rfl (yl_pick_t rfl rfl hb7 rfl (sA rfl (dn (CW.ret (rr rfl (.cons rfl .nil) ?_)))))))
  rw [show (i_isRows p_rows) = (!(g_slices_ContainsFunc_Write p_rows (fun y0 => i_isRows_c1 y0))) by simp only [i_isRows, hb7, cL]]
  exact ⟨rfl, (Ex.trans (Ex.trans (Ex.refl w) hE6) hE11)⟩
 ·refine sz rfl rfl hb7 (sz rfl rfl hb7 (sz rfl rfl hb7 (sd rfl (yl_pick_f rfl rfl hb7 rfl (sA rfl (dn (CW.ret (rr rfl (.cons rfl .nil) ?_))))))))
  rw [show (i_isRows p_rows) = (false) by simp only [i_isRows, hb7, cL]]
  exact ⟨rfl, (Ex.trans (Ex.refl w) hE6)⟩
theorem c_i_areLetters {w : World} (p_s : Str) (p_most : Int) (o1 : okS p_s) : Cal Tryz.prog 113 #[.string (bs (p_s)), .int .i64 (p_most)] w fun v w' => v = .bool ((i_areLetters p_s p_most)) ∧ Ex w w' := by
 have hol2 : p_s.length ≤ 1073741824 := o1
 refine Cal.of func113 rfl ntmps113 rfl (cR (sA rfl (dn (CW.seq (cR ?_)))))
 refine sM rfl (sd rfl (yl_slen un9 (a := p_s) rfl rfl (sM rfl (dn (CW.block (CW.loop (fun m4 L5 w6 => ∃ (k3 : Nat), m4 = p_s.length - k3 ∧ k3 ≤ p_s.length ∧ w.heap.size ≤ w6.heap.size ∧ Sub [(0, .string (bs (p_s))), (1, .int .i64 (p_most)), (7, .int .i64 ((p_s.length : Int))), (8, .int .i64 ((k3 : Int)))] L5 ∧ Ex w w6 ∧ loopM (B_i_areLetters_0 p_s p_most) (p_s.length - k3) k3 () = loopM (B_i_areLetters_0 p_s p_most) (p_s.length - 0) 0 ()) (p_s.length - 0) ?_ ?_))))))
 ·exact ⟨0, rfl, oM, Nat.le_refl _, (sR rfl), (Ex.refl w), rfl⟩
 ·rintro m7 L8 w9 ⟨k3, rfl, hk10, hsz12, hl13, hf14, hI11⟩
  refine CW.sub hl13 ?_
  have hf14z := Ex.size hf14
  have hbg15 : p_s.length ≤ 1073741824 := o1
  rcases Nat.lt_or_ge k3 p_s.length with hlt16 | hlt16
  ·refine cR (sd rfl (yl_lss rfl rfl rfl (dn (CW.seq (CW.cond_t rfl (lt_t hlt16) (CW.skip (tn ?_)))))))
   refine CW.seq (CW.block (cR (sM rfl (sA rfl (dn (CW.seq ?_))))))
   refine CW.region (sM rfl (sM rfl (sd rfl (yl_sindexN un9 (a := p_s) rfl rfl rfl Bo (sd rfl (yl_lss rfl rfl rfl (sM rfl (bcD (q := ((p_s.getD k3 0).toNat : Int) < 97) (fun hb17 hb17p => ?_) (fun hb17 hb17p => ?_)))))))))
   ·refine sz rfl rfl hb17 (sz rfl rfl hb17 (sz rfl rfl hb17 (sz rfl rfl hb17 (sd rfl (yl_pick_t rfl rfl hb17 rfl (dn (CW.cond_t rfl rfl (CW.seq ?_))))))))
    refine CW.region (sA rfl (dn (CW.ret (br (tr (tr ?_))))))
    have hB19 : B_i_areLetters_0 p_s p_most k3 () = .ret false := by simp only [B_i_areLetters_0, hb17, cL]
    have hL18 : loopM (B_i_areLetters_0 p_s p_most) (p_s.length - 0) 0 () = .ret false := hI11.symm.trans (loopM.ret hlt16 hB19)
    refine br (tr (rr rfl (.cons rfl .nil) ?_))
    rw [show (i_areLetters p_s p_most) = (false) by simp only [i_areLetters, hb17, hL18, cL]]
    exact ⟨rfl, hf14⟩
   ·refine sy rfl rfl hb17 (yM rfl rfl (sy rfl rfl hb17 (yM rfl rfl (sy rfl rfl hb17 (yl_sindexN un9 (a := p_s) rfl rfl rfl Bo (sy rfl rfl hb17 (yl_gtr rfl rfl rfl (sd rfl (yl_pick_f rfl rfl hb17 rfl (dn (bcD (q := 122 < ((p_s.getD k3 0).toNat : Int)) (fun hb21 hb21p => ?_) (fun hb21 hb21p => ?_))))))))))))
    ·refine CW.cond_t rfl hb21 (cR (sA rfl (dn (CW.ret (br (tr ?_))))))
     refine tr ?_
     have hB23 : B_i_areLetters_0 p_s p_most k3 () = .ret false := by simp only [B_i_areLetters_0, hb17, hb21, cL]
     have hL22 : loopM (B_i_areLetters_0 p_s p_most) (p_s.length - 0) 0 () = .ret false := hI11.symm.trans (loopM.ret hlt16 hB23)
     refine br (tr (rr rfl (.cons rfl .nil) ?_))
     rw [show (i_areLetters p_s p_most) = (false) by simp only [i_areLetters, hb17, hb21, hL22, cL]]
     exact ⟨rfl, hf14⟩
    ·refine CW.cond_f rfl hb21 (CW.skip (bn (tn (CW.region (sd rfl (yl_inc rfl rfl rfl oM (sM rfl (dn ?_))))))))
     have hB25 : B_i_areLetters_0 p_s p_most k3 () = .cont () := by simp only [B_i_areLetters_0, hb17, hb21, cL]
     exact ⟨p_s.length - (k3 + 1), oM, k3 + 1, rfl, hlt16, oM, (sR rfl), hf14, (loopM.cont hlt16 hB25).symm.trans hI11⟩
  ·refine cR (sd rfl (yl_lss rfl rfl rfl (dn (CW.seq (CW.cond_f rfl (lt_f hlt16) (CW.exit (tx ?_)))))))
   refine tx ?_
   have hL26 : loopM (B_i_areLetters_0 p_s p_most) (p_s.length - 0) 0 () = .done () := hI11.symm.trans (loopM.stop hlt16)
   refine bx (tn (cR (sM rfl (sd rfl (yl_slen un9 (a := p_s) rfl rfl (sM rfl (sd rfl (yC en96 rfl (oc rfl (oc rfl (oc rfl oz))) (Cal.mono (c_i_within (p_s.length : Int) 1 p_most) ?_)))))))))
   rintro v28 w27 ⟨rfl, hE29⟩
   have hE29z := Ex.size hE29
   refine sA rfl (dn (CW.ret (rr rfl (.cons rfl .nil) ?_)))
   rw [show (i_areLetters p_s p_most) = ((i_within (p_s.length : Int) 1 p_most)) by simp only [i_areLetters, hL26, cL]]
   exact ⟨rfl, (Ex.trans hf14 hE29)⟩
theorem c_g_slices_Index_string {A1 : Option Addr} {c1 : Nat} {w : World} (p_s : List Str) (p_v : Str) (h1 : RdS w (Iv 0 w.heap.size) (RF e_Str) 1 A1 p_s.length c1 p_s) (o2 : (okL okS) p_s) (o3 : okS p_v) : Cal Tryz.prog 154 #[.slice A1 p_s.length c1, .string (bs (p_v))] w fun v w' => v = .int .i64 ((g_slices_Index_string p_s p_v)) ∧ Ex w w' := by
 have hol4 := o2.1
 have hol5 : p_v.length ≤ 1073741824 := o3
 refine Cal.of func154 rfl ntmps154 rfl (cR (sA rfl (dn (CW.seq (cR ?_)))))
 refine sM rfl (sd rfl (yL un22 rfl rfl (sM rfl (dn (CW.block (CW.loop (fun m7 L8 w9 => ∃ (k6 : Nat), m7 = p_s.length - k6 ∧ k6 ≤ p_s.length ∧ w.heap.size ≤ w9.heap.size ∧ Sub [(0, .slice A1 p_s.length c1), (1, .string (bs (p_v))), (7, .int .i64 ((p_s.length : Int))), (8, .int .i64 ((k6 : Int)))] L8 ∧ RdS w9 (Iv 0 w.heap.size) (RF e_Str) 1 A1 p_s.length c1 p_s ∧ Ex w w9 ∧ loopM (B_g_slices_Index_string_0 p_s p_v) (p_s.length - k6) k6 () = loopM (B_g_slices_Index_string_0 p_s p_v) (p_s.length - 0) 0 ()) (p_s.length - 0) ?_ ?_))))))
 ·exact ⟨0, rfl, oM, Nat.le_refl _, (sR rfl), h1, (Ex.refl w), rfl⟩
 ·rintro m10 L11 w12 ⟨k6, rfl, hk13, hsz15, hl16, hf17, hf18, hI14⟩
  refine CW.sub hl16 ?_
  have hf18z := Ex.size hf18
  have hbg19 := RdS.big hf17
  rcases Nat.lt_or_ge k6 p_s.length with hlt20 | hlt20
  ·refine cR (sd rfl (yl_lss rfl rfl rfl (dn (CW.seq (CW.cond_t rfl (lt_t hlt20) (CW.skip (tn ?_)))))))
   refine CW.seq (CW.block (cR (sM rfl (sA rfl (dn (CW.seq ?_))))))
   refine CW.region (sM rfl (sM rfl (sM rfl ?_)))
   obtain ⟨_, _, _, eA21, _, ebl21, _, eR21, eC21⟩ := RdS.aD hf17 d_Str (i := k6)
   obtain rfl := eR21
   refine sd rfl (yl_ixN un22 ty9 rfl rfl rfl eA21 (sd rfl (yl_load1 ty9 rfl rfl (eC21 0 _ rfl) (sd rfl (yl_seql (a := p_v) (b := (p_s.getD k6 d_Str)) rfl rfl rfl (dn (bcase (p_v == (p_s.getD k6 d_Str)) (fun hb22 => ?_) (fun hb22 => ?_))))))))
   ·refine CW.cond_t rfl hb22 (cR (sM rfl (sA rfl (dn (CW.ret (br ?_))))))
    refine tr (tr ?_)
    have hB24 : B_g_slices_Index_string_0 p_s p_v k6 () = .ret (k6 : Int) := by simp only [B_g_slices_Index_string_0, hb22, cL]
    have hL23 : loopM (B_g_slices_Index_string_0 p_s p_v) (p_s.length - 0) 0 () = .ret (k6 : Int) := hI14.symm.trans (loopM.ret hlt20 hB24)
    refine br (tr (rr rfl (.cons rfl .nil) ?_))
    rw [show (g_slices_Index_string p_s p_v) = ((k6 : Int)) by simp only [g_slices_Index_string, hb22, hL23, cL]]
    exact ⟨rfl, hf18⟩
   ·refine CW.cond_f rfl hb22 (CW.skip (bn (tn (CW.region (sd rfl (yl_inc rfl rfl rfl oM (sM rfl (dn ?_))))))))
    have hB26 : B_g_slices_Index_string_0 p_s p_v k6 () = .cont () := by simp only [B_g_slices_Index_string_0, hb22, cL]
    exact ⟨p_s.length - (k6 + 1), oM, k6 + 1, rfl, hlt20, oM, (sR rfl), hf17, hf18, (loopM.cont hlt20 hB26).symm.trans hI14⟩
  ·refine cR (sd rfl (yl_lss rfl rfl rfl (dn (CW.seq (CW.cond_f rfl (lt_f hlt20) (CW.exit (tx ?_)))))))
   refine tx ?_
   have hL27 : loopM (B_g_slices_Index_string_0 p_s p_v) (p_s.length - 0) 0 () = .done () := hI14.symm.trans (loopM.stop hlt20)
   refine bx (tn (cR (sA rfl (dn (CW.ret (rr rfl (.cons rfl .nil) ?_))))))
   rw [show (g_slices_Index_string p_s p_v) = (-1) by simp only [g_slices_Index_string, hL27, cL]]
   exact ⟨rfl, hf18⟩
theorem c_g_slices_Contains_string {A1 : Option Addr} {c1 : Nat} {w : World} (p_s : List Str) (p_v : Str) (h1 : RdS w (Iv 0 w.heap.size) (RF e_Str) 1 A1 p_s.length c1 p_s) (o2 : (okL okS) p_s) (o3 : okS p_v) : Cal Tryz.prog 114 #[.slice A1 p_s.length c1, .string (bs (p_v))] w fun v w' => v = .bool ((g_slices_Contains_string p_s p_v)) ∧ Ex w w' := by
 refine Cal.of func114 rfl ntmps114 rfl (cR (sA rfl (dn (cR (sM rfl ?_)))))
 refine sM rfl (sd rfl (yC en154 rfl (oc rfl (oc rfl oz)) (Cal.mono (c_g_slices_Index_string p_s p_v (RdS.up h1 gS) o2 o3) ?_)))
 rintro v7 w6 ⟨rfl, hE8⟩
 refine sd rfl (yl_geq rfl rfl rfl (sA rfl (dn (CW.ret (rr rfl (.cons rfl .nil) ?_)))))
 rw [show (g_slices_Contains_string p_s p_v) = (decide (0 ≤ (g_slices_Index_string p_s p_v))) by simp only [g_slices_Contains_string, cL]]
 exact ⟨rfl, (Ex.trans (Ex.refl w) hE8)⟩
theorem c_i_isStage {w : World} (p_stage : Int) : Cal Tryz.prog 115 #[.int .i64 (p_stage)] w fun v w' => v = .bool ((i_isStage p_stage)) ∧ Ex w w' := by
 refine Cal.of func115 rfl ntmps115 rfl (cR (sA rfl (dn (cR (sM rfl ?_)))))
 refine sd rfl (yC en96 rfl (oc rfl (oc rfl (oc rfl oz))) (Cal.mono (c_i_within p_stage 0 3) ?_))
 rintro v2 w1 ⟨rfl, hE3⟩
 refine sA rfl (dn (CW.ret (rr rfl (.cons rfl .nil) ?_)))
 rw [show (i_isStage p_stage) = ((i_within p_stage 0 3)) by simp only [i_isStage, cL]]
 exact ⟨rfl, (Ex.trans (Ex.refl w) hE3)⟩
theorem c_i_GoodTable {A1 : Option Addr} {c1 : Nat} {A2 : Option Addr} {c2 : Nat} {w : World} (p_0 : DTable) (h1 : RdS w (Iv 0 w.heap.size) (RF e_Str) 1 A1 p_0.Cols.length c1 p_0.Cols) (h2 : RdS w (Iv 0 w.heap.size) (RF e_Idx) 3 A2 p_0.Idxs.length c2 p_0.Idxs) (o3 : ok_Table p_0) : Cal Tryz.prog 67 #[.agg #[.string (bs (p_0.Name)), .slice A1 p_0.Cols.length c1, .slice A2 p_0.Idxs.length c2]] w fun v w' => v = .bool ((i_GoodTable p_0)) ∧ Ex w w' := by
 have hol4 : p_0.Name.length ≤ 1073741824 := o3.1
 have hol5 := o3.2.1.1
 have hol6 := o3.2.2.1
 refine Cal.of func67 rfl ntmps67 rfl (cR (sd rfl (yl_box rfl rfl rfl ?_)))
 intro b7 w8 hs9 hz10 hB11 hE12
 refine sA rfl (dn (CW.seq (cR (sd rfl (yl_fieldAddr fd39_0 rfl rfl (sd rfl (yl_load1 ty9 rfl rfl ((hB11.cell 0).trans rfl) (sd rfl (yC en113 rfl (oc rfl (oc rfl oz)) (Cal.mono (c_i_areLetters p_0.Name 1 o3.1) ?_))))))))))
 rintro v14 w13 ⟨rfl, hE15⟩
 have hE15z := Ex.size hE15
 refine sd rfl (yl_not rfl rfl (sM rfl (bcase (i_areLetters p_0.Name 1) (fun hb16 => ?_) (fun hb16 => ?_))))
 ·refine sy rfl rfl (not_t hb16) (yl_fieldAddr fd39_1 rfl rfl ?_)
  have q17 := Box.ex hB11 hE15
  refine sy rfl rfl (not_t hb16) (yl_load1 ty22 rfl rfl ((q17.cell 1).trans rfl) (sy rfl rfl (not_t hb16) (yL un22 rfl rfl (sy rfl rfl (not_t hb16) (yC en96 rfl (oc rfl (oc rfl (oc rfl oz))) (Cal.mono (c_i_within (p_0.Cols.length : Int) 2 4) ?_))))))
  rintro v19 w18 ⟨rfl, hE20⟩
  have hE20z := Ex.size hE20
  refine sy rfl rfl (not_t hb16) (yl_not rfl rfl (sd rfl (yl_pick_f rfl rfl (not_t hb16) rfl (sM rfl (bcase (i_within (p_0.Cols.length : Int) 2 4) (fun hb21 => ?_) (fun hb21 => ?_))))))
  ·have hb21p := f_within hb21
   refine sy rfl rfl (not_t hb21) (yl_fieldAddr fd39_2 rfl rfl ?_)
   have q22 := Box.ex q17 hE20
   refine sy rfl rfl (not_t hb21) (yl_load1 ty37 rfl rfl ((q22.cell 2).trans rfl) (sy rfl rfl (not_t hb21) (yL un37 rfl rfl (sy rfl rfl (not_t hb21) (yl_gtr rfl rfl rfl (sd rfl (yl_pick_f rfl rfl (not_t hb21) rfl (dn (bcD (q := 3 < (p_0.Idxs.length : Int)) (fun hb23 hb23p => ?_) (fun hb23 hb23p => ?_))))))))))
   ·refine CW.cond_t rfl hb23 (cR (sA rfl (dn (CW.ret (tr (rr rfl (.cons rfl .nil) ?_))))))
    rw [show (i_GoodTable p_0) = (false) by simp only [i_GoodTable, hb16, hb21, hb23, cL]]
    exact ⟨rfl, (Ex.trans (Ex.trans (Ex.trans (Ex.refl w) hE12) hE15) hE20)⟩
   ·refine CW.cond_f rfl hb23 (CW.skip (tn (CW.seq (cR (sd rfl (yl_fieldAddr fd39_1 rfl rfl (sd rfl (yl_load1 ty22 rfl rfl ((q22.cell 1).trans rfl) (sd rfl (yL un22 rfl rfl ?_))))))))))
    refine sM rfl (dn (CW.block (CW.loop (fun m29 L30 w31 => ∃ (k28 : Nat), m29 = p_0.Cols.length - k28 ∧ k28 ≤ p_0.Cols.length ∧ w18.heap.size ≤ w31.heap.size ∧ Sub [(1, .pointer (some ⟨b7, 0, none⟩)), (25, .slice A1 p_0.Cols.length c1), (26, .int .i64 ((p_0.Cols.length : Int))), (27, .int .i64 ((k28 : Int)))] L30 ∧ Box w31 b7 39 [.string (bs (p_0.Name)), .slice A1 p_0.Cols.length c1, .slice A2 p_0.Idxs.length c2] ∧ RdS w31 (Iv 0 w.heap.size) (RF e_Str) 1 A1 p_0.Cols.length c1 p_0.Cols ∧ RdS w31 (Iv 0 w.heap.size) (RF e_Idx) 3 A2 p_0.Idxs.length c2 p_0.Idxs ∧ Ex w w31 ∧ loopM (B_i_GoodTable_0 p_0) (p_0.Cols.length - k28) k28 () = loopM (B_i_GoodTable_0 p_0) (p_0.Cols.length - 0) 0 ()) (p_0.Cols.length - 0) ?_ ?_)))
    ·exact ⟨0, rfl, oM, Nat.le_refl _, (sR rfl), q22, (RdS.ex gS (RdS.ex gS (RdS.ex gS h1 hE12) hE15) hE20), (RdS.ex gI (RdS.ex gI (RdS.ex gI h2 hE12) hE15) hE20), (Ex.trans (Ex.trans (Ex.trans (Ex.refl w) hE12) hE15) hE20), rfl⟩
    ·rintro m41 L42 w43 ⟨k28, rfl, hk44, hsz46, hl47, hf48, hf49, hf50, hf51, hI45⟩
     refine CW.sub hl47 ?_
     have hf48z := Box.lt hf48
     have hf51z := Ex.size hf51
     have hbg52 := RdS.big hf49
     rcases Nat.lt_or_ge k28 p_0.Cols.length with hlt53 | hlt53
     ·refine cR (sd rfl (yl_lss rfl rfl rfl (dn (CW.seq (CW.cond_t rfl (lt_t hlt53) (CW.skip (tn ?_)))))))
      refine CW.seq (CW.block (cR (sM rfl ?_)))
      obtain ⟨_, _, _, eA54, _, ebl54, _, eR54, eC54⟩ := RdS.aD hf49 d_Str (i := k28)
      obtain rfl := eR54
      refine sd rfl (yl_ixN un22 ty9 rfl rfl rfl eA54 (sd rfl (yl_load1 ty9 rfl rfl (eC54 0 _ rfl) (sA rfl (sA rfl (dn (cR (sM rfl ?_))))))))
      refine sd rfl (yC en113 rfl (oc rfl (oc rfl oz)) (Cal.mono (c_i_areLetters (p_0.Cols.getD k28 d_Str) 3 (okL.getD o3.2.1 ok_d_Str _)) ?_))
      rintro v56 w55 ⟨rfl, hE57⟩
      have hE57z := Ex.size hE57
      refine sd rfl (yl_not rfl rfl (sM rfl (bcase (i_areLetters (p_0.Cols.getD k28 d_Str) 3) (fun hb58 => ?_) (fun hb58 => ?_))))
      ·refine sy rfl rfl (not_t hb58) (yl_fieldAddr fd39_1 rfl rfl ?_)
       have q59 := Box.ex hf48 hE57
       refine sy rfl rfl (not_t hb58) (yl_load1 ty22 rfl rfl ((q59.cell 1).trans rfl) (sy rfl rfl (not_t hb58) (yM rfl rfl ?_)))
       have q60 := RdS.ex gS hf49 hE57
       obtain ⟨A61, c62, he65, h64⟩ := RdS.sl (RdS.drop (RdS.take q60 (k := k28) oM) (k := 0) oM)
       have hrc66 := (q60).2.1
       refine sy rfl rfl (not_t hb58) (yl_sliceR (kl := .i64) (l := 0) (h := k28) un22 ty9 rfl rfl (.inl ⟨rfl, rfl⟩) (.inr ⟨_, rfl, rfl⟩) oM oM he65 (sy rfl rfl (not_t hb58) (yM rfl rfl (sy rfl rfl (not_t hb58) (yC en114 rfl (oc rfl (oc rfl oz)) (Cal.mono (c_g_slices_Contains_string (p_0.Cols.take k28) (p_0.Cols.getD k28 d_Str) (RdS.up h64 gS) (okL.take o3.2.1 _) (okL.getD o3.2.1 ok_d_Str _)) ?_))))))
       rintro v68 w67 ⟨rfl, hE69⟩
       have hE69z := Ex.size hE69
       refine sd rfl (yl_pick_f rfl rfl (not_t hb58) rfl (dn (bcase (g_slices_Contains_string (p_0.Cols.take k28) (p_0.Cols.getD k28 d_Str)) (fun hb70 => ?_) (fun hb70 => ?_))))
       ·refine CW.cond_t rfl hb70 (cR (sA rfl (dn (CW.ret (br (tr ?_))))))
        refine tr ?_
        have hB72 : B_i_GoodTable_0 p_0 k28 () = .ret false := by simp only [B_i_GoodTable_0, hb16, hb21, hb23, hb58, hb70, cL]
        have hL71 : loopM (B_i_GoodTable_0 p_0) (p_0.Cols.length - 0) 0 () = .ret false := hI45.symm.trans (loopM.ret hlt53 hB72)
        refine br (tr (rr rfl (.cons rfl .nil) ?_))
        rw [show (i_GoodTable p_0) = (false) by simp only [i_GoodTable, hb16, hb21, hb23, hb58, hb70, hL71, cL]]
        exact ⟨rfl, (Ex.trans (Ex.trans hf51 hE57) hE69)⟩
       ·refine CW.cond_f rfl hb70 (CW.skip (bn (tn (CW.region (sd rfl (yl_inc rfl rfl rfl oM (sM rfl (dn ?_))))))))
        have hB76 : B_i_GoodTable_0 p_0 k28 () = .cont () := by simp only [B_i_GoodTable_0, hb16, hb21, hb23, hb58, hb70, cL]
        exact ⟨p_0.Cols.length - (k28 + 1), oM, k28 + 1, rfl, hlt53, oM, (sR rfl), (Box.ex q59 hE69), (RdS.ex gS q60 hE69), (RdS.ex gI (RdS.ex gI hf50 hE57) hE69), (Ex.trans (Ex.trans hf51 hE57) hE69), (loopM.cont hlt53 hB76).symm.trans hI45⟩
      ·refine sz rfl rfl (not_f hb58) (sz rfl rfl (not_f hb58) (sz rfl rfl (not_f hb58) (sz rfl rfl (not_f hb58) (sz rfl rfl (not_f hb58) (sz rfl rfl (not_f hb58) (sd rfl (yl_pick_t rfl rfl (not_f hb58) rfl (dn ?_))))))))
       refine CW.cond_t rfl rfl (cR (sA rfl (dn (CW.ret (br (tr ?_))))))
       refine tr ?_
       have hB84 : B_i_GoodTable_0 p_0 k28 () = .ret false := by simp only [B_i_GoodTable_0, hb16, hb21, hb23, hb58, cL]
       have hL83 : loopM (B_i_GoodTable_0 p_0) (p_0.Cols.length - 0) 0 () = .ret false := hI45.symm.trans (loopM.ret hlt53 hB84)
       refine br (tr (rr rfl (.cons rfl .nil) ?_))
       rw [show (i_GoodTable p_0) = (false) by simp only [i_GoodTable, hb16, hb21, hb23, hb58, hL83, cL]]
       exact ⟨rfl, (Ex.trans hf51 hE57)⟩
     ·refine cR (sd rfl (yl_lss rfl rfl rfl (dn (CW.seq (CW.cond_f rfl (lt_f hlt53) (CW.exit (tx ?_)))))))
      refine tx ?_
      have hL87 : loopM (B_i_GoodTable_0 p_0) (p_0.Cols.length - 0) 0 () = .done () := hI45.symm.trans (loopM.stop hlt53)
      refine bx (tn (CW.seq (cR (sd rfl (yl_fieldAddr fd39_2 rfl rfl (sd rfl (yl_load1 ty37 rfl rfl ((hf48.cell 2).trans rfl) (sd rfl (yL un37 rfl rfl (sM rfl ?_))))))))))
      refine dn (CW.block (CW.loop (fun m126 L127 w128 => ∃ (k88 : Nat), m126 = p_0.Idxs.length - k88 ∧ k88 ≤ p_0.Idxs.length ∧ w43.heap.size ≤ w128.heap.size ∧ Sub [(1, .pointer (some ⟨b7, 0, none⟩)), (45, .slice A2 p_0.Idxs.length c2), (46, .int .i64 ((p_0.Idxs.length : Int))), (47, .int .i64 ((k88 : Int)))] L127 ∧ Box w128 b7 39 [.string (bs (p_0.Name)), .slice A1 p_0.Cols.length c1, .slice A2 p_0.Idxs.length c2] ∧ RdS w128 (Iv 0 w.heap.size) (RF e_Str) 1 A1 p_0.Cols.length c1 p_0.Cols ∧ RdS w128 (Iv 0 w.heap.size) (RF e_Idx) 3 A2 p_0.Idxs.length c2 p_0.Idxs ∧ Ex w w128 ∧ loopM (B_i_GoodTable_1 p_0) (p_0.Idxs.length - k88) k88 () = loopM (B_i_GoodTable_1 p_0) (p_0.Idxs.length - 0) 0 ()) (p_0.Idxs.length - 0) ?_ ?_))
      ·exact ⟨0, rfl, oM, Nat.le_refl _, (sR rfl), hf48, hf49, hf50, hf51, rfl⟩
      ·rintro m129 L130 w131 ⟨k88, rfl, hk132, hsz134, hl135, hf136, hf137, hf138, hf139, hI133⟩
       refine CW.sub hl135 ?_
       have hf136z := Box.lt hf136
       have hf139z := Ex.size hf139
       have hbg140 := RdS.big hf138
       rcases Nat.lt_or_ge k88 p_0.Idxs.length with hlt141 | hlt141
       ·refine cR (sd rfl (yl_lss rfl rfl rfl (dn (CW.seq (CW.cond_t rfl (lt_t hlt141) (CW.skip (tn ?_)))))))
        refine CW.seq (CW.block (cR (sM rfl ?_)))
        obtain ⟨_, _, _, eA142, _, ebl142, _, eR142, eC142⟩ := RdS.aD hf138 d_Idx (i := k88)
        obtain rfl := eR142
        refine sd rfl (yl_ixN un37 ty111 rfl rfl rfl eA142 (sd rfl (yl_loadN ty111 rfl rfl eC142 rfl (sd rfl (yB ty111 (cs := [.string (bs (([] : Str))), .int .i64 (0), .int .i64 (0)]) rfl rfl ?_)))))
        intro b143 w144 hs145 hz146 hB147 hE148
        refine sA rfl (SeqR.u rfl rfl (yl_storeA (vs := [.string (bs ((p_0.Idxs.getD k88 d_Idx).Name)), .int .i64 ((p_0.Idxs.getD k88 d_Idx).Col), .int .i64 ((p_0.Idxs.getD k88 d_Idx).Stage)]) ty111 rfl rfl rfl rfl rfl rfl hB147 rfl ?_))
        intro w149 hB150 hO151
        have hO151z := hO151.size
        refine dn (CW.seq (bcase (i_areLetters ((p_0.Idxs.getD k88 d_Idx).Name) 1) (fun hb153 => ?_) (fun hb153 => ?_)))
        ·refine bcase (i_within ((p_0.Idxs.getD k88 d_Idx).Col) 1 (IntKind.wrap .i64 ((p_0.Cols.length : Int) - 1))) (fun hb158 => ?_) (fun hb158 => ?_)
         ·have hb158p := f_within hb158
          refine bcase (i_isStage ((p_0.Idxs.getD k88 d_Idx).Stage)) (fun hb164 => ?_) (fun hb164 => ?_)
          ·have hb164p := f_i_isStage hb164
           refine bcD (q := 0 < (k88 : Int)) (fun hb170 hb170p => ?_) (fun hb170 hb170p => ?_)
           ·have q173 := Box.only (Box.ex hf136 hE148) hO151 oM
            have q177 := RdS.only gI (RdS.ex gI hf138 hE148) hO151 iV
            obtain ⟨eb178, eo178, _, eA178, _, ebl178, _, eR178, eC178⟩ := RdS.atD q177 d_Idx (i := (IntKind.wrap .i64 ((k88 : Int) - 1)).toNat) Bo
            obtain rfl := eR178
            refine drJ 36 [.pointer (some ⟨b143, 0 + 0, none⟩), .string (bs ((p_0.Idxs.getD k88 d_Idx).Name)), .bool ((i_areLetters ((p_0.Idxs.getD k88 d_Idx).Name) 1)), .bool (!(i_areLetters ((p_0.Idxs.getD k88 d_Idx).Name) 1)), .bool (!(i_areLetters ((p_0.Idxs.getD k88 d_Idx).Name) 1)), .pointer (some ⟨b143, 0 + 1, none⟩), .int .i64 ((p_0.Idxs.getD k88 d_Idx).Col), .pointer (some ⟨b7, 0 + 1, none⟩), .slice A1 p_0.Cols.length c1, .int .i64 ((p_0.Cols.length : Int)), .int .i64 (IntKind.wrap .i64 ((p_0.Cols.length : Int) - 1)), .bool ((i_within ((p_0.Idxs.getD k88 d_Idx).Col) 1 (IntKind.wrap .i64 ((p_0.Cols.length : Int) - 1)))), .bool (!(i_within ((p_0.Idxs.getD k88 d_Idx).Col) 1 (IntKind.wrap .i64 ((p_0.Cols.length : Int) - 1)))), .bool (!(i_within ((p_0.Idxs.getD k88 d_Idx).Col) 1 (IntKind.wrap .i64 ((p_0.Cols.length : Int) - 1)))), .bool (!(i_within ((p_0.Idxs.getD k88 d_Idx).Col) 1 (IntKind.wrap .i64 ((p_0.Cols.length : Int) - 1)))), .pointer (some ⟨b143, 0 + 2, none⟩), .int .i64 ((p_0.Idxs.getD k88 d_Idx).Stage), .bool ((i_isStage ((p_0.Idxs.getD k88 d_Idx).Stage))), .bool (!(i_isStage ((p_0.Idxs.getD k88 d_Idx).Stage))), .bool (!(i_isStage ((p_0.Idxs.getD k88 d_Idx).Stage))), .bool (!(i_isStage ((p_0.Idxs.getD k88 d_Idx).Stage))), .int .i64 ((k88 : Int)), .bool (decide (0 < (k88 : Int))), .bool (decide (0 < (k88 : Int))), .pointer (some ⟨b143, 0 + 0, none⟩), .string (bs ((p_0.Idxs.getD k88 d_Idx).Name)), .pointer (some ⟨b7, 0 + 2, none⟩), .slice A2 p_0.Idxs.length c2, .int .i64 ((k88 : Int)), .int .i64 (IntKind.wrap .i64 ((k88 : Int) - 1)), .pointer (some ⟨eb178, eo178 + ((IntKind.wrap .i64 ((k88 : Int) - 1)).toNat) * 3, none⟩), .pointer (some ⟨eb178, eo178 + ((IntKind.wrap .i64 ((k88 : Int) - 1)).toNat) * 3 + 0, none⟩), .string (bs ((p_0.Idxs.getD ((IntKind.wrap .i64 ((k88 : Int) - 1)).toNat) d_Idx).Name)), .bool (sLe ((p_0.Idxs.getD k88 d_Idx).Name) ((p_0.Idxs.getD ((IntKind.wrap .i64 ((k88 : Int) - 1)).toNat) d_Idx).Name)), .bool (sLe ((p_0.Idxs.getD k88 d_Idx).Name) ((p_0.Idxs.getD ((IntKind.wrap .i64 ((k88 : Int) - 1)).toNat) d_Idx).Name)), .bool (sLe ((p_0.Idxs.getD k88 d_Idx).Name) ((p_0.Idxs.getD ((IntKind.wrap .i64 ((k88 : Int) - 1)).toNat) d_Idx).Name))] Tryz.follows rfl ?_ ?_
            ·refine ⟨oI rfl fun h => yl_fieldAddr fd111_0 rfl (h.g 6 rfl) kI, oI rfl fun h => yl_load1 ty9 rfl (h.g 52 rfl) (((Box.ex hB150 h.ex).cell 0).trans rfl) kI, ?_, oI rfl fun h => yl_not rfl (h.g 54 rfl) kI, oI rfl fun h => yM rfl (h.g 55 rfl) kI, oW rfl rfl rfl rfl (not_t hb153) fun h => yl_fieldAddr fd111_1 rfl (h.g 6 rfl) kI, oW rfl rfl rfl rfl (not_t hb153) fun h => yl_load1 ty3 rfl (h.g 57 rfl) (((Box.ex hB150 h.ex).cell 1).trans rfl) kI, oW rfl rfl rfl rfl (not_t hb153) fun h => yl_fieldAddr fd39_1 rfl (h.g 1 rfl) kI, oW rfl rfl rfl rfl (not_t hb153) fun h => yl_load1 ty22 rfl (h.g 59 rfl) (((Box.ex q173 h.ex).cell 1).trans rfl) kI, oW rfl rfl rfl rfl (not_t hb153) fun h => yL un22 rfl (h.g 60 rfl) kI, oW rfl rfl rfl rfl (not_t hb153) fun h => yl_sub rfl (h.g 61 rfl) rfl kI, ?_, oW rfl rfl rfl rfl (not_t hb153) fun h => yl_not rfl (h.g 63 rfl) kI, oI rfl fun h => yl_pick_f rfl (h.g 56 rfl) (not_t hb153) (h.g 64 rfl) kI, oI rfl fun h => yM rfl (h.g 65 rfl) kI, oW rfl rfl rfl rfl (not_t hb158) fun h => yl_fieldAddr fd111_2 rfl (h.g 6 rfl) kI, oW rfl rfl rfl rfl (not_t hb158) fun h => yl_load1 ty3 rfl (h.g 67 rfl) (((Box.ex hB150 h.ex).cell 2).trans rfl) kI, ?_, oW rfl rfl rfl rfl (not_t hb158) fun h => yl_not rfl (h.g 69 rfl) kI, oI rfl fun h => yl_pick_f rfl (h.g 66 rfl) (not_t hb158) (h.g 70 rfl) kI, oI rfl fun h => yM rfl (h.g 71 rfl) kI, oW rfl rfl rfl rfl (not_t hb164) fun h => yM rfl (h.g 5 rfl) kI, oW rfl rfl rfl rfl (not_t hb164) fun h => yl_gtr rfl (h.g 73 rfl) rfl kI, oW rfl rfl rfl rfl (not_t hb164) fun h => yM rfl (h.g 74 rfl) kI, oW rfl rfl rfl rfl hb170 fun h => yl_fieldAddr fd111_0 rfl (h.g 6 rfl) kI, oW rfl rfl rfl rfl hb170 fun h => yl_load1 ty9 rfl (h.g 76 rfl) (((Box.ex hB150 h.ex).cell 0).trans rfl) kI, oW rfl rfl rfl rfl hb170 fun h => yl_fieldAddr fd39_2 rfl (h.g 1 rfl) kI, oW rfl rfl rfl rfl hb170 fun h => yl_load1 ty37 rfl (h.g 78 rfl) (((Box.ex q173 h.ex).cell 2).trans rfl) kI, oW rfl rfl rfl rfl hb170 fun h => yM rfl (h.g 5 rfl) kI, oW rfl rfl rfl rfl hb170 fun h => yl_sub rfl (h.g 80 rfl) rfl kI, ?_, oW rfl rfl rfl rfl hb170 fun h => yl_fieldAddr fd111_0 rfl (h.g 82 rfl) kI, oW rfl rfl rfl rfl hb170 fun h => yl_load1 ty9 rfl (h.g 83 rfl) ((Cells.ex eC178 h.ex) 0 _ rfl) kI, oW rfl rfl rfl rfl hb170 fun h => yl_sleq (a := ((p_0.Idxs.getD k88 d_Idx).Name)) (b := ((p_0.Idxs.getD ((IntKind.wrap .i64 ((k88 : Int) - 1)).toNat) d_Idx).Name)) rfl (h.g 77 rfl) (h.g 84 rfl) kI, oW rfl rfl rfl rfl (not_t hb164) fun h => yl_pick_t rfl (h.g 75 rfl) hb170 (h.g 85 rfl) kI, oI rfl fun h => yl_pick_f rfl (h.g 72 rfl) (not_t hb164) (h.g 86 rfl) kI, trivial⟩
             ·intro L190 w191 hi192
              exact OpR.op' rfl (yC en113 rfl (oc (hi192.g 53 rfl) (oc rfl oz)) (Cal.mono (c_i_areLetters ((p_0.Idxs.getD k88 d_Idx).Name) 1 (okL.getD o3.2.2 ok_d_Idx _)) fun _ _ h => h))
             ·intro L246 w247 hi248
              exact OpR.want rfl rfl (hi248.g 56 rfl) (not_t hb153) (yC en96 rfl (oc (hi248.g 58 rfl) (oc rfl (oc (hi248.g 62 rfl) oz))) (Cal.mono (c_i_within ((p_0.Idxs.getD k88 d_Idx).Col) 1 (IntKind.wrap .i64 ((p_0.Cols.length : Int) - 1))) fun _ _ h => h))
             ·intro L286 w287 hi288
              exact OpR.want rfl rfl (hi288.g 66 rfl) (not_t hb158) (yC en115 rfl (oc (hi288.g 68 rfl) oz) (Cal.mono (c_i_isStage ((p_0.Idxs.getD k88 d_Idx).Stage)) fun _ _ h => h))
             ·intro L368 w369 hi370
              have hE371 := hi370.ex
              have hE371z := Ex.size hE371
              exact OpR.want rfl rfl (hi370.g 75 rfl) hb170 (Yl.sameI (yl_indexAddr un37 ty111 rfl (hi370.g 79 rfl) (hi370.g 81 rfl) eA178 Bo Bo kI))
            ·intro fl411 fh412 L408 w409 hp410
             have hE413 := hp410.ex
             have hE413z := Ex.size hE413
             refine dn (CW.sub (hp410.ss [1, 45, 46, 47, 87] rfl) (bcase (sLe ((p_0.Idxs.getD k88 d_Idx).Name) ((p_0.Idxs.getD ((IntKind.wrap .i64 ((k88 : Int) - 1)).toNat) d_Idx).Name)) (fun hb419 => ?_) (fun hb419 => ?_)))
             ·refine CW.cond_t rfl hb419 (cR (sA rfl (dn (CW.ret (br (tr ?_))))))
              refine tr ?_
              have hB421 : B_i_GoodTable_1 p_0 k88 () = .ret false := by simp only [B_i_GoodTable_1, hb16, hb21, hb23, hb153, hb158, hb164, hb170, hb419, hL87, cL]
              have hL420 : loopM (B_i_GoodTable_1 p_0) (p_0.Idxs.length - 0) 0 () = .ret false := hI133.symm.trans (loopM.ret hlt141 hB421)
              refine br (tr (rr rfl (.cons rfl .nil) ?_))
              rw [show (i_GoodTable p_0) = (false) by simp only [i_GoodTable, hb16, hb21, hb23, hb153, hb158, hb164, hb170, hb419, hL87, hL420, cL]]
              exact ⟨rfl, (Ex.trans (Below.only (Ex.trans hf139 hE148) hO151 oM) hE413)⟩
             ·refine CW.cond_f rfl hb419 (CW.skip (bn (tn (CW.region (sd rfl (yl_inc rfl rfl rfl oM (sM rfl (dn ?_))))))))
              have hB426 : B_i_GoodTable_1 p_0 k88 () = .cont () := by simp only [B_i_GoodTable_1, hb16, hb21, hb23, hb153, hb158, hb164, hb170, hb419, hL87, cL]
              exact ⟨p_0.Idxs.length - (k88 + 1), oM, k88 + 1, rfl, hlt141, oM, (sR rfl), (Box.ex q173 hE413), (RdS.ex gS (RdS.only gS (RdS.ex gS hf137 hE148) hO151 iV) hE413), (RdS.ex gI q177 hE413), (Ex.trans (Below.only (Ex.trans hf139 hE148) hO151 oM) hE413), (loopM.cont hlt141 hB426).symm.trans hI133⟩
           ·have q437 := Box.only (Box.ex hf136 hE148) hO151 oM
            refine drJ 36 [.pointer (some ⟨b143, 0 + 0, none⟩), .string (bs ((p_0.Idxs.getD k88 d_Idx).Name)), .bool ((i_areLetters ((p_0.Idxs.getD k88 d_Idx).Name) 1)), .bool (!(i_areLetters ((p_0.Idxs.getD k88 d_Idx).Name) 1)), .bool (!(i_areLetters ((p_0.Idxs.getD k88 d_Idx).Name) 1)), .pointer (some ⟨b143, 0 + 1, none⟩), .int .i64 ((p_0.Idxs.getD k88 d_Idx).Col), .pointer (some ⟨b7, 0 + 1, none⟩), .slice A1 p_0.Cols.length c1, .int .i64 ((p_0.Cols.length : Int)), .int .i64 (IntKind.wrap .i64 ((p_0.Cols.length : Int) - 1)), .bool ((i_within ((p_0.Idxs.getD k88 d_Idx).Col) 1 (IntKind.wrap .i64 ((p_0.Cols.length : Int) - 1)))), .bool (!(i_within ((p_0.Idxs.getD k88 d_Idx).Col) 1 (IntKind.wrap .i64 ((p_0.Cols.length : Int) - 1)))), .bool (!(i_within ((p_0.Idxs.getD k88 d_Idx).Col) 1 (IntKind.wrap .i64 ((p_0.Cols.length : Int) - 1)))), .bool (!(i_within ((p_0.Idxs.getD k88 d_Idx).Col) 1 (IntKind.wrap .i64 ((p_0.Cols.length : Int) - 1)))), .pointer (some ⟨b143, 0 + 2, none⟩), .int .i64 ((p_0.Idxs.getD k88 d_Idx).Stage), .bool ((i_isStage ((p_0.Idxs.getD k88 d_Idx).Stage))), .bool (!(i_isStage ((p_0.Idxs.getD k88 d_Idx).Stage))), .bool (!(i_isStage ((p_0.Idxs.getD k88 d_Idx).Stage))), .bool (!(i_isStage ((p_0.Idxs.getD k88 d_Idx).Stage))), .int .i64 ((k88 : Int)), .bool (decide (0 < (k88 : Int))), .bool (decide (0 < (k88 : Int))), undef, undef, undef, undef, undef, undef, undef, undef, undef, undef, .bool (false), .bool (false)] Tryz.follows rfl ?_ ?_
            ·refine ⟨oI rfl fun h => yl_fieldAddr fd111_0 rfl (h.g 6 rfl) kI, oI rfl fun h => yl_load1 ty9 rfl (h.g 52 rfl) (((Box.ex hB150 h.ex).cell 0).trans rfl) kI, ?_, oI rfl fun h => yl_not rfl (h.g 54 rfl) kI, oI rfl fun h => yM rfl (h.g 55 rfl) kI, oW rfl rfl rfl rfl (not_t hb153) fun h => yl_fieldAddr fd111_1 rfl (h.g 6 rfl) kI, oW rfl rfl rfl rfl (not_t hb153) fun h => yl_load1 ty3 rfl (h.g 57 rfl) (((Box.ex hB150 h.ex).cell 1).trans rfl) kI, oW rfl rfl rfl rfl (not_t hb153) fun h => yl_fieldAddr fd39_1 rfl (h.g 1 rfl) kI, oW rfl rfl rfl rfl (not_t hb153) fun h => yl_load1 ty22 rfl (h.g 59 rfl) (((Box.ex q437 h.ex).cell 1).trans rfl) kI, oW rfl rfl rfl rfl (not_t hb153) fun h => yL un22 rfl (h.g 60 rfl) kI, oW rfl rfl rfl rfl (not_t hb153) fun h => yl_sub rfl (h.g 61 rfl) rfl kI, ?_, oW rfl rfl rfl rfl (not_t hb153) fun h => yl_not rfl (h.g 63 rfl) kI, oI rfl fun h => yl_pick_f rfl (h.g 56 rfl) (not_t hb153) (h.g 64 rfl) kI, oI rfl fun h => yM rfl (h.g 65 rfl) kI, oW rfl rfl rfl rfl (not_t hb158) fun h => yl_fieldAddr fd111_2 rfl (h.g 6 rfl) kI, oW rfl rfl rfl rfl (not_t hb158) fun h => yl_load1 ty3 rfl (h.g 67 rfl) (((Box.ex hB150 h.ex).cell 2).trans rfl) kI, ?_, oW rfl rfl rfl rfl (not_t hb158) fun h => yl_not rfl (h.g 69 rfl) kI, oI rfl fun h => yl_pick_f rfl (h.g 66 rfl) (not_t hb158) (h.g 70 rfl) kI, oI rfl fun h => yM rfl (h.g 71 rfl) kI, oW rfl rfl rfl rfl (not_t hb164) fun h => yM rfl (h.g 5 rfl) kI, oW rfl rfl rfl rfl (not_t hb164) fun h => yl_gtr rfl (h.g 73 rfl) rfl kI, oW rfl rfl rfl rfl (not_t hb164) fun h => yM rfl (h.g 74 rfl) kI, oS rfl rfl rfl rfl rfl hb170, oS rfl rfl rfl rfl rfl hb170, oS rfl rfl rfl rfl rfl hb170, oS rfl rfl rfl rfl rfl hb170, oS rfl rfl rfl rfl rfl hb170, oS rfl rfl rfl rfl rfl hb170, oS rfl rfl rfl rfl rfl hb170, oS rfl rfl rfl rfl rfl hb170, oS rfl rfl rfl rfl rfl hb170, oS rfl rfl rfl rfl rfl hb170, oW rfl rfl rfl rfl (not_t hb164) fun h => yl_pick_f rfl (h.g 75 rfl) hb170 rfl kI, oI rfl fun h => yl_pick_f rfl (h.g 72 rfl) (not_t hb164) (h.g 86 rfl) kI, trivial⟩
             ·intro L451 w452 hi453
              exact OpR.op' rfl (yC en113 rfl (oc (hi453.g 53 rfl) (oc rfl oz)) (Cal.mono (c_i_areLetters ((p_0.Idxs.getD k88 d_Idx).Name) 1 (okL.getD o3.2.2 ok_d_Idx _)) fun _ _ h => h))
             ·intro L507 w508 hi509
              exact OpR.want rfl rfl (hi509.g 56 rfl) (not_t hb153) (yC en96 rfl (oc (hi509.g 58 rfl) (oc rfl (oc (hi509.g 62 rfl) oz))) (Cal.mono (c_i_within ((p_0.Idxs.getD k88 d_Idx).Col) 1 (IntKind.wrap .i64 ((p_0.Cols.length : Int) - 1))) fun _ _ h => h))
             ·intro L547 w548 hi549
              exact OpR.want rfl rfl (hi549.g 66 rfl) (not_t hb158) (yC en115 rfl (oc (hi549.g 68 rfl) oz) (Cal.mono (c_i_isStage ((p_0.Idxs.getD k88 d_Idx).Stage)) fun _ _ h => h))
            ·intro fl657 fh658 L654 w655 hp656
             have hE659 := hp656.ex
             have hE659z := Ex.size hE659
             refine dn (CW.sub (hp656.ss [1, 45, 46, 47, 87] rfl) (CW.cond_f rfl rfl (CW.skip (bn (tn (CW.region (sd rfl (yl_inc rfl rfl rfl oM ?_))))))))
             refine sM rfl (dn ?_)
             have hB665 : B_i_GoodTable_1 p_0 k88 () = .cont () := by simp only [B_i_GoodTable_1, hb16, hb21, hb23, hb153, hb158, hb164, hb170, hL87, cL]
             exact ⟨p_0.Idxs.length - (k88 + 1), oM, k88 + 1, rfl, hlt141, oM, (sR rfl), (Box.ex q437 hE659), (RdS.ex gS (RdS.only gS (RdS.ex gS hf137 hE148) hO151 iV) hE659), (RdS.ex gI (RdS.only gI (RdS.ex gI hf138 hE148) hO151 iV) hE659), (Ex.trans (Below.only (Ex.trans hf139 hE148) hO151 oM) hE659), (loopM.cont hlt141 hB665).symm.trans hI133⟩
          ·refine drJ 36 [.pointer (some ⟨b143, 0 + 0, none⟩), .string (bs ((p_0.Idxs.getD k88 d_Idx).Name)), .bool ((i_areLetters ((p_0.Idxs.getD k88 d_Idx).Name) 1)), .bool (!(i_areLetters ((p_0.Idxs.getD k88 d_Idx).Name) 1)), .bool (!(i_areLetters ((p_0.Idxs.getD k88 d_Idx).Name) 1)), .pointer (some ⟨b143, 0 + 1, none⟩), .int .i64 ((p_0.Idxs.getD k88 d_Idx).Col), .pointer (some ⟨b7, 0 + 1, none⟩), .slice A1 p_0.Cols.length c1, .int .i64 ((p_0.Cols.length : Int)), .int .i64 (IntKind.wrap .i64 ((p_0.Cols.length : Int) - 1)), .bool ((i_within ((p_0.Idxs.getD k88 d_Idx).Col) 1 (IntKind.wrap .i64 ((p_0.Cols.length : Int) - 1)))), .bool (!(i_within ((p_0.Idxs.getD k88 d_Idx).Col) 1 (IntKind.wrap .i64 ((p_0.Cols.length : Int) - 1)))), .bool (!(i_within ((p_0.Idxs.getD k88 d_Idx).Col) 1 (IntKind.wrap .i64 ((p_0.Cols.length : Int) - 1)))), .bool (!(i_within ((p_0.Idxs.getD k88 d_Idx).Col) 1 (IntKind.wrap .i64 ((p_0.Cols.length : Int) - 1)))), .pointer (some ⟨b143, 0 + 2, none⟩), .int .i64 ((p_0.Idxs.getD k88 d_Idx).Stage), .bool ((i_isStage ((p_0.Idxs.getD k88 d_Idx).Stage))), .bool (!(i_isStage ((p_0.Idxs.getD k88 d_Idx).Stage))), .bool (!(i_isStage ((p_0.Idxs.getD k88 d_Idx).Stage))), .bool (!(i_isStage ((p_0.Idxs.getD k88 d_Idx).Stage))), undef, undef, undef, undef, undef, undef, undef, undef, undef, undef, undef, undef, undef, undef, .bool (true)] Tryz.follows rfl ?_ ?_
           ·refine ⟨oI rfl fun h => yl_fieldAddr fd111_0 rfl (h.g 6 rfl) kI, oI rfl fun h => yl_load1 ty9 rfl (h.g 52 rfl) (((Box.ex hB150 h.ex).cell 0).trans rfl) kI, ?_, oI rfl fun h => yl_not rfl (h.g 54 rfl) kI, oI rfl fun h => yM rfl (h.g 55 rfl) kI, oW rfl rfl rfl rfl (not_t hb153) fun h => yl_fieldAddr fd111_1 rfl (h.g 6 rfl) kI, oW rfl rfl rfl rfl (not_t hb153) fun h => yl_load1 ty3 rfl (h.g 57 rfl) (((Box.ex hB150 h.ex).cell 1).trans rfl) kI, oW rfl rfl rfl rfl (not_t hb153) fun h => yl_fieldAddr fd39_1 rfl (h.g 1 rfl) kI, ?_, oW rfl rfl rfl rfl (not_t hb153) fun h => yL un22 rfl (h.g 60 rfl) kI, oW rfl rfl rfl rfl (not_t hb153) fun h => yl_sub rfl (h.g 61 rfl) rfl kI, ?_, oW rfl rfl rfl rfl (not_t hb153) fun h => yl_not rfl (h.g 63 rfl) kI, oI rfl fun h => yl_pick_f rfl (h.g 56 rfl) (not_t hb153) (h.g 64 rfl) kI, oI rfl fun h => yM rfl (h.g 65 rfl) kI, oW rfl rfl rfl rfl (not_t hb158) fun h => yl_fieldAddr fd111_2 rfl (h.g 6 rfl) kI, oW rfl rfl rfl rfl (not_t hb158) fun h => yl_load1 ty3 rfl (h.g 67 rfl) (((Box.ex hB150 h.ex).cell 2).trans rfl) kI, ?_, oW rfl rfl rfl rfl (not_t hb158) fun h => yl_not rfl (h.g 69 rfl) kI, oI rfl fun h => yl_pick_f rfl (h.g 66 rfl) (not_t hb158) (h.g 70 rfl) kI, oI rfl fun h => yM rfl (h.g 71 rfl) kI, oS rfl rfl rfl rfl rfl (not_f hb164), oS rfl rfl rfl rfl rfl (not_f hb164), oS rfl rfl rfl rfl rfl (not_f hb164), oU rfl rfl rfl rfl rfl, oU rfl rfl rfl rfl rfl, oU rfl rfl rfl rfl rfl, oU rfl rfl rfl rfl rfl, oU rfl rfl rfl rfl rfl, oU rfl rfl rfl rfl rfl, oU rfl rfl rfl rfl rfl, oU rfl rfl rfl rfl rfl, oU rfl rfl rfl rfl rfl, oU rfl rfl rfl rfl rfl, oS rfl rfl rfl rfl rfl (not_f hb164), oI rfl fun h => yl_pick_t rfl (h.g 72 rfl) (not_f hb164) rfl kI, trivial⟩
            ·intro L692 w693 hi694
             exact OpR.op' rfl (yC en113 rfl (oc (hi694.g 53 rfl) (oc rfl oz)) (Cal.mono (c_i_areLetters ((p_0.Idxs.getD k88 d_Idx).Name) 1 (okL.getD o3.2.2 ok_d_Idx _)) fun _ _ h => h))
            ·intro L729 w730 hi731
             have hE732 := hi731.ex
             have hE732z := Ex.size hE732
             exact OpR.want rfl rfl (hi731.g 56 rfl) (not_t hb153) (Yl.sameI (yl_load1 ty22 rfl (hi731.g 59 rfl) (((Box.ex (Box.only (Box.ex hf136 hE148) hO151 oM) hE732).cell 1).trans rfl) kI))
            ·intro L748 w749 hi750
             exact OpR.want rfl rfl (hi750.g 56 rfl) (not_t hb153) (yC en96 rfl (oc (hi750.g 58 rfl) (oc rfl (oc (hi750.g 62 rfl) oz))) (Cal.mono (c_i_within ((p_0.Idxs.getD k88 d_Idx).Col) 1 (IntKind.wrap .i64 ((p_0.Cols.length : Int) - 1))) fun _ _ h => h))
            ·intro L788 w789 hi790
             exact OpR.want rfl rfl (hi790.g 66 rfl) (not_t hb158) (yC en115 rfl (oc (hi790.g 68 rfl) oz) (Cal.mono (c_i_isStage ((p_0.Idxs.getD k88 d_Idx).Stage)) fun _ _ h => h))
           ·intro fl893 fh894 L890 w891 hp892
            have hE895 := hp892.ex
            have hE895z := Ex.size hE895
            refine dn (CW.sub (hp892.ss [1, 45, 46, 47, 87] rfl) (CW.cond_t rfl rfl (cR (sA rfl (dn ?_)))))
            refine CW.ret (br (tr (tr ?_)))
            have hB902 : B_i_GoodTable_1 p_0 k88 () = .ret false := by simp only [B_i_GoodTable_1, hb16, hb21, hb23, hb153, hb158, hb164, hL87, cL]
            have hL901 : loopM (B_i_GoodTable_1 p_0) (p_0.Idxs.length - 0) 0 () = .ret false := hI133.symm.trans (loopM.ret hlt141 hB902)
            refine br (tr (rr rfl (.cons rfl .nil) ?_))
            rw [show (i_GoodTable p_0) = (false) by simp only [i_GoodTable, hb16, hb21, hb23, hb153, hb158, hb164, hL87, hL901, cL]]
            exact ⟨rfl, (Ex.trans (Below.only (Ex.trans hf139 hE148) hO151 oM) hE895)⟩
         ·refine drJ 36 [.pointer (some ⟨b143, 0 + 0, none⟩), .string (bs ((p_0.Idxs.getD k88 d_Idx).Name)), .bool ((i_areLetters ((p_0.Idxs.getD k88 d_Idx).Name) 1)), .bool (!(i_areLetters ((p_0.Idxs.getD k88 d_Idx).Name) 1)), .bool (!(i_areLetters ((p_0.Idxs.getD k88 d_Idx).Name) 1)), .pointer (some ⟨b143, 0 + 1, none⟩), .int .i64 ((p_0.Idxs.getD k88 d_Idx).Col), .pointer (some ⟨b7, 0 + 1, none⟩), .slice A1 p_0.Cols.length c1, .int .i64 ((p_0.Cols.length : Int)), .int .i64 (IntKind.wrap .i64 ((p_0.Cols.length : Int) - 1)), .bool ((i_within ((p_0.Idxs.getD k88 d_Idx).Col) 1 (IntKind.wrap .i64 ((p_0.Cols.length : Int) - 1)))), .bool (!(i_within ((p_0.Idxs.getD k88 d_Idx).Col) 1 (IntKind.wrap .i64 ((p_0.Cols.length : Int) - 1)))), .bool (!(i_within ((p_0.Idxs.getD k88 d_Idx).Col) 1 (IntKind.wrap .i64 ((p_0.Cols.length : Int) - 1)))), .bool (!(i_within ((p_0.Idxs.getD k88 d_Idx).Col) 1 (IntKind.wrap .i64 ((p_0.Cols.length : Int) - 1)))), undef, undef, undef, undef, .bool (true), .bool (true), undef, undef, undef, undef, undef, undef, undef, undef, undef, undef, undef, undef, undef, undef, .bool (true)] Tryz.follows rfl ?_ ?_
          ·refine ⟨oI rfl fun h => yl_fieldAddr fd111_0 rfl (h.g 6 rfl) kI, oI rfl fun h => yl_load1 ty9 rfl (h.g 52 rfl) (((Box.ex hB150 h.ex).cell 0).trans rfl) kI, ?_, oI rfl fun h => yl_not rfl (h.g 54 rfl) kI, oI rfl fun h => yM rfl (h.g 55 rfl) kI, oW rfl rfl rfl rfl (not_t hb153) fun h => yl_fieldAddr fd111_1 rfl (h.g 6 rfl) kI, oW rfl rfl rfl rfl (not_t hb153) fun h => yl_load1 ty3 rfl (h.g 57 rfl) (((Box.ex hB150 h.ex).cell 1).trans rfl) kI, oW rfl rfl rfl rfl (not_t hb153) fun h => yl_fieldAddr fd39_1 rfl (h.g 1 rfl) kI, ?_, oW rfl rfl rfl rfl (not_t hb153) fun h => yL un22 rfl (h.g 60 rfl) kI, oW rfl rfl rfl rfl (not_t hb153) fun h => yl_sub rfl (h.g 61 rfl) rfl kI, ?_, oW rfl rfl rfl rfl (not_t hb153) fun h => yl_not rfl (h.g 63 rfl) kI, oI rfl fun h => yl_pick_f rfl (h.g 56 rfl) (not_t hb153) (h.g 64 rfl) kI, oI rfl fun h => yM rfl (h.g 65 rfl) kI, oS rfl rfl rfl rfl rfl (not_f hb158), oS rfl rfl rfl rfl rfl (not_f hb158), oS rfl rfl rfl rfl rfl (not_f hb158), oS rfl rfl rfl rfl rfl (not_f hb158), oI rfl fun h => yl_pick_t rfl (h.g 66 rfl) (not_f hb158) rfl kI, oI rfl fun h => yM rfl (h.g 71 rfl) kI, oS rfl rfl rfl rfl rfl rfl, oS rfl rfl rfl rfl rfl rfl, oS rfl rfl rfl rfl rfl rfl, oU rfl rfl rfl rfl rfl, oU rfl rfl rfl rfl rfl, oU rfl rfl rfl rfl rfl, oU rfl rfl rfl rfl rfl, oU rfl rfl rfl rfl rfl, oU rfl rfl rfl rfl rfl, oU rfl rfl rfl rfl rfl, oU rfl rfl rfl rfl rfl, oU rfl rfl rfl rfl rfl, oU rfl rfl rfl rfl rfl, oS rfl rfl rfl rfl rfl rfl, oI rfl fun h => yl_pick_t rfl (h.g 72 rfl) rfl rfl kI, trivial⟩
           ·intro L922 w923 hi924
            exact OpR.op' rfl (yC en113 rfl (oc (hi924.g 53 rfl) (oc rfl oz)) (Cal.mono (c_i_areLetters ((p_0.Idxs.getD k88 d_Idx).Name) 1 (okL.getD o3.2.2 ok_d_Idx _)) fun _ _ h => h))
           ·intro L959 w960 hi961
            have hE962 := hi961.ex
            have hE962z := Ex.size hE962
            exact OpR.want rfl rfl (hi961.g 56 rfl) (not_t hb153) (Yl.sameI (yl_load1 ty22 rfl (hi961.g 59 rfl) (((Box.ex (Box.only (Box.ex hf136 hE148) hO151 oM) hE962).cell 1).trans rfl) kI))
           ·intro L978 w979 hi980
            exact OpR.want rfl rfl (hi980.g 56 rfl) (not_t hb153) (yC en96 rfl (oc (hi980.g 58 rfl) (oc rfl (oc (hi980.g 62 rfl) oz))) (Cal.mono (c_i_within ((p_0.Idxs.getD k88 d_Idx).Col) 1 (IntKind.wrap .i64 ((p_0.Cols.length : Int) - 1))) fun _ _ h => h))
          ·intro fl1115 fh1116 L1112 w1113 hp1114
           have hE1117 := hp1114.ex
           have hE1117z := Ex.size hE1117
           refine dn (CW.sub (hp1114.ss [1, 45, 46, 47, 87] rfl) (CW.cond_t rfl rfl (cR (sA rfl (dn ?_)))))
           refine CW.ret (br (tr (tr ?_)))
           have hB1124 : B_i_GoodTable_1 p_0 k88 () = .ret false := by simp only [B_i_GoodTable_1, hb16, hb21, hb23, hb153, hb158, hL87, cL]
           have hL1123 : loopM (B_i_GoodTable_1 p_0) (p_0.Idxs.length - 0) 0 () = .ret false := hI133.symm.trans (loopM.ret hlt141 hB1124)
           refine br (tr (rr rfl (.cons rfl .nil) ?_))
           rw [show (i_GoodTable p_0) = (false) by simp only [i_GoodTable, hb16, hb21, hb23, hb153, hb158, hL87, hL1123, cL]]
           exact ⟨rfl, (Ex.trans (Below.only (Ex.trans hf139 hE148) hO151 oM) hE1117)⟩
        ·refine drJ 36 [.pointer (some ⟨b143, 0 + 0, none⟩), .string (bs ((p_0.Idxs.getD k88 d_Idx).Name)), .bool ((i_areLetters ((p_0.Idxs.getD k88 d_Idx).Name) 1)), .bool (!(i_areLetters ((p_0.Idxs.getD k88 d_Idx).Name) 1)), .bool (!(i_areLetters ((p_0.Idxs.getD k88 d_Idx).Name) 1)), undef, undef, undef, undef, undef, undef, undef, undef, .bool (true), .bool (true), undef, undef, undef, undef, .bool (true), .bool (true), undef, undef, undef, undef, undef, undef, undef, undef, undef, undef, undef, undef, undef, undef, .bool (true)] Tryz.follows rfl ?_ ?_
         ·refine ⟨oI rfl fun h => yl_fieldAddr fd111_0 rfl (h.g 6 rfl) kI, oI rfl fun h => yl_load1 ty9 rfl (h.g 52 rfl) (((Box.ex hB150 h.ex).cell 0).trans rfl) kI, ?_, oI rfl fun h => yl_not rfl (h.g 54 rfl) kI, oI rfl fun h => yM rfl (h.g 55 rfl) kI, oS rfl rfl rfl rfl rfl (not_f hb153), oS rfl rfl rfl rfl rfl (not_f hb153), oS rfl rfl rfl rfl rfl (not_f hb153), oS rfl rfl rfl rfl rfl (not_f hb153), oS rfl rfl rfl rfl rfl (not_f hb153), oS rfl rfl rfl rfl rfl (not_f hb153), oS rfl rfl rfl rfl rfl (not_f hb153), oS rfl rfl rfl rfl rfl (not_f hb153), oI rfl fun h => yl_pick_t rfl (h.g 56 rfl) (not_f hb153) rfl kI, oI rfl fun h => yM rfl (h.g 65 rfl) kI, oS rfl rfl rfl rfl rfl rfl, oS rfl rfl rfl rfl rfl rfl, oS rfl rfl rfl rfl rfl rfl, oS rfl rfl rfl rfl rfl rfl, oI rfl fun h => yl_pick_t rfl (h.g 66 rfl) rfl rfl kI, oI rfl fun h => yM rfl (h.g 71 rfl) kI, oS rfl rfl rfl rfl rfl rfl, oS rfl rfl rfl rfl rfl rfl, oS rfl rfl rfl rfl rfl rfl, oU rfl rfl rfl rfl rfl, oU rfl rfl rfl rfl rfl, oU rfl rfl rfl rfl rfl, oU rfl rfl rfl rfl rfl, oU rfl rfl rfl rfl rfl, oU rfl rfl rfl rfl rfl, oU rfl rfl rfl rfl rfl, oU rfl rfl rfl rfl rfl, oU rfl rfl rfl rfl rfl, oU rfl rfl rfl rfl rfl, oS rfl rfl rfl rfl rfl rfl, oI rfl fun h => yl_pick_t rfl (h.g 72 rfl) rfl rfl kI, trivial⟩
          ·intro L1141 w1142 hi1143
           exact OpR.op' rfl (yC en113 rfl (oc (hi1143.g 53 rfl) (oc rfl oz)) (Cal.mono (c_i_areLetters ((p_0.Idxs.getD k88 d_Idx).Name) 1 (okL.getD o3.2.2 ok_d_Idx _)) fun _ _ h => h))
         ·intro fl1320 fh1321 L1317 w1318 hp1319
          have hE1322 := hp1319.ex
          have hE1322z := Ex.size hE1322
          refine dn (CW.sub (hp1319.ss [1, 45, 46, 47, 87] rfl) (CW.cond_t rfl rfl (cR (sA rfl (dn ?_)))))
          refine CW.ret (br (tr (tr ?_)))
          have hB1329 : B_i_GoodTable_1 p_0 k88 () = .ret false := by simp only [B_i_GoodTable_1, hb16, hb21, hb23, hb153, hL87, cL]
          have hL1328 : loopM (B_i_GoodTable_1 p_0) (p_0.Idxs.length - 0) 0 () = .ret false := hI133.symm.trans (loopM.ret hlt141 hB1329)
          refine br (tr (rr rfl (.cons rfl .nil) ?_))
          rw [show (i_GoodTable p_0) = (false) by simp only [i_GoodTable, hb16, hb21, hb23, hb153, hL87, hL1328, cL]]
          exact ⟨rfl, (Ex.trans (Below.only (Ex.trans hf139 hE148) hO151 oM) hE1322)⟩
       ·refine cR (sd rfl (yl_lss rfl rfl rfl (dn (CW.seq (CW.cond_f rfl (lt_f hlt141) (CW.exit (tx ?_)))))))
        refine tx ?_
        have hL1334 : loopM (B_i_GoodTable_1 p_0) (p_0.Idxs.length - 0) 0 () = .done () := hI133.symm.trans (loopM.stop hlt141)
        refine bx (tn (cR (sA rfl (dn (CW.ret (rr rfl (.cons rfl .nil) ?_))))))
        rw [show (i_GoodTable p_0) = (true) by simp only [i_GoodTable, hb16, hb21, hb23, hL87, hL1334, cL]]
        exact ⟨rfl, hf139⟩
  ·refine sz rfl rfl (not_f hb21) (sz rfl rfl (not_f hb21) (sz rfl rfl (not_f hb21) (sz rfl rfl (not_f hb21) (sd rfl (yl_pick_t rfl rfl (not_f hb21) rfl (dn (CW.cond_t rfl rfl (CW.seq ?_))))))))
   refine CW.region (sA rfl (dn (CW.ret (tr (rr rfl (.cons rfl .nil) ?_)))))
   rw [show (i_GoodTable p_0) = (false) by simp only [i_GoodTable, hb16, hb21, cL]]
   exact ⟨rfl, (Ex.trans (Ex.trans (Ex.trans (Ex.refl w) hE12) hE15) hE20)⟩
 ·refine sz rfl rfl (not_f hb16) (sz rfl rfl (not_f hb16) (sz rfl rfl (not_f hb16) (sz rfl rfl (not_f hb16) (sz rfl rfl (not_f hb16) (sd rfl (yl_pick_t rfl rfl (not_f hb16) rfl (sM rfl (sz rfl rfl rfl (sz rfl rfl rfl ?_)))))))))
  refine sz rfl rfl rfl (sz rfl rfl rfl (sd rfl (yl_pick_t rfl rfl rfl rfl (dn (CW.cond_t rfl rfl (cR (sA rfl ?_)))))))
  refine dn (CW.ret (tr (rr rfl (.cons rfl .nil) ?_)))
  rw [show (i_GoodTable p_0) = (false) by simp only [i_GoodTable, hb16, cL]]
  exact ⟨rfl, (Ex.trans (Ex.trans (Ex.refl w) hE12) hE15)⟩
theorem c_g_slices_IndexFunc_Idx {A1 : Option Addr} {c1 : Nat} {g3 : Nat} {cp4 : List Value} {w : World} (p_s : List DIdx) (p_f : DIdx → Bool) (h1 : RdS w (Iv 0 w.heap.size) (RF e_Idx) 3 A1 p_s.length c1 p_s) (hen5 : Go.X.Enters Tryz.prog g3) (hfn6 : ∀ (w1 : World) (y0 : DIdx), Ex w w1 → y0 ∈ p_s → ok_Idx y0 → Cal Tryz.prog g3 (([.agg #[.string (bs (y0.Name)), .int .i64 (y0.Col), .int .i64 (y0.Stage)]] : List Value) ++ cp4).toArray w1 fun v w2 => v = .bool (p_f y0) ∧ Ex w1 w2) (o2 : (okL ok_Idx) p_s) : Cal Tryz.prog 210 #[.slice A1 p_s.length c1, .func (.func g3) #[] cp4.toArray] w fun v w' => v = .int .i64 ((g_slices_IndexFunc_Idx p_s p_f)) ∧ Ex w w' := by
 have hol7 := o2.1
 refine Cal.of func210 rfl ntmps210 rfl (cR (sA rfl (dn (CW.seq (cR ?_)))))
 refine sM rfl (sd rfl (yL un37 rfl rfl (sM rfl (dn (CW.block (CW.loop (fun m9 L10 w11 => ∃ (k8 : Nat), m9 = p_s.length - k8 ∧ k8 ≤ p_s.length ∧ w.heap.size ≤ w11.heap.size ∧ Sub [(0, .slice A1 p_s.length c1), (1, .func (.func g3) #[] cp4.toArray), (7, .int .i64 ((p_s.length : Int))), (8, .int .i64 ((k8 : Int)))] L10 ∧ RdS w11 (Iv 0 w.heap.size) (RF e_Idx) 3 A1 p_s.length c1 p_s ∧ Ex w w11 ∧ loopM (B_g_slices_IndexFunc_Idx_0 p_s p_f) (p_s.length - k8) k8 () = loopM (B_g_slices_IndexFunc_Idx_0 p_s p_f) (p_s.length - 0) 0 ()) (p_s.length - 0) ?_ ?_))))))
 ·exact ⟨0, rfl, oM, Nat.le_refl _, (sR rfl), h1, (Ex.refl w), rfl⟩
 ·rintro m12 L13 w14 ⟨k8, rfl, hk15, hsz17, hl18, hf19, hf20, hI16⟩
  refine CW.sub hl18 ?_
  have hf20z := Ex.size hf20
  have hbg21 := RdS.big hf19
  rcases Nat.lt_or_ge k8 p_s.length with hlt22 | hlt22
  ·refine cR (sd rfl (yl_lss rfl rfl rfl (dn (CW.seq (CW.cond_t rfl (lt_t hlt22) (CW.skip (tn ?_)))))))
   refine CW.seq (CW.block (cR (sM rfl (sA rfl (dn (CW.seq ?_))))))
   refine CW.region (sM rfl (sM rfl (sM rfl ?_)))
   obtain ⟨_, _, _, eA23, _, ebl23, _, eR23, eC23⟩ := RdS.aD hf19 d_Idx (i := k8)
   obtain rfl := eR23
   refine sd rfl (yl_ixN un37 ty111 rfl rfl rfl eA23 (sd rfl (yl_loadN ty111 rfl rfl eC23 rfl (sd rfl (yl_callv hen5 rfl rfl (oc rfl oz) (Cal.mono (hfn6 w14 (p_s.getD k8 d_Idx) hf20 (getD_mem oM) (okL.getD o2 ok_d_Idx _)) ?_))))))
   rintro v25 w24 ⟨rfl, hE26⟩
   have hE26z := Ex.size hE26
   refine dn (bcase (p_f (p_s.getD k8 d_Idx)) (fun hb27 => ?_) (fun hb27 => ?_))
   ·refine CW.cond_t rfl hb27 (cR (sM rfl (sA rfl (dn (CW.ret (br ?_))))))
    refine tr (tr ?_)
    have hB29 : B_g_slices_IndexFunc_Idx_0 p_s p_f k8 () = .ret (k8 : Int) := by simp only [B_g_slices_IndexFunc_Idx_0, hb27, cL]
    have hL28 : loopM (B_g_slices_IndexFunc_Idx_0 p_s p_f) (p_s.length - 0) 0 () = .ret (k8 : Int) := hI16.symm.trans (loopM.ret hlt22 hB29)
    refine br (tr (rr rfl (.cons rfl .nil) ?_))
    rw [show (g_slices_IndexFunc_Idx p_s p_f) = ((k8 : Int)) by simp only [g_slices_IndexFunc_Idx, hb27, hL28, cL]]
    exact ⟨rfl, (Ex.trans hf20 hE26)⟩
   ·refine CW.cond_f rfl hb27 (CW.skip (bn (tn (CW.region (sd rfl (yl_inc rfl rfl rfl oM (sM rfl (dn ?_))))))))
    have hB32 : B_g_slices_IndexFunc_Idx_0 p_s p_f k8 () = .cont () := by simp only [B_g_slices_IndexFunc_Idx_0, hb27, cL]
    exact ⟨p_s.length - (k8 + 1), oM, k8 + 1, rfl, hlt22, oM, (sR rfl), (RdS.ex gI hf19 hE26), (Ex.trans hf20 hE26), (loopM.cont hlt22 hB32).symm.trans hI16⟩
  ·refine cR (sd rfl (yl_lss rfl rfl rfl (dn (CW.seq (CW.cond_f rfl (lt_f hlt22) (CW.exit (tx ?_)))))))
   refine tx ?_
   have hL35 : loopM (B_g_slices_IndexFunc_Idx_0 p_s p_f) (p_s.length - 0) 0 () = .done () := hI16.symm.trans (loopM.stop hlt22)
   refine bx (tn (cR (sA rfl (dn (CW.ret (rr rfl (.cons rfl .nil) ?_))))))
   rw [show (g_slices_IndexFunc_Idx p_s p_f) = (-1) by simp only [g_slices_IndexFunc_Idx, hL35, cL]]
   exact ⟨rfl, hf20⟩
theorem c_i_Table_findIdx_c1 {b2 : Nat} {w : World} (p_x : DIdx) (p_cap0 : Str) (h3 : Box w b2 9 [.string (bs (p_cap0))]) (o1 : ok_Idx p_x) (o4 : okS p_cap0) : Cal Tryz.prog 211 #[.agg #[.string (bs (p_x.Name)), .int .i64 (p_x.Col), .int .i64 (p_x.Stage)], .pointer (some ⟨b2, 0, none⟩)] w fun v w' => v = .bool ((i_Table_findIdx_c1 p_x p_cap0)) ∧ Ex w w' := by
 refine Cal.of func211 rfl ntmps211 rfl (cR (sd rfl (yl_box rfl rfl rfl ?_)))
 intro b7 w8 hs9 hz10 hB11 hE12
 refine sA rfl (dn (cR (sd rfl (yl_fieldAddr fd111_0 rfl rfl (sd rfl (yl_load1 ty9 rfl rfl ((hB11.cell 0).trans rfl) (sd rfl (yl_load1 ty9 rfl rfl (((Box.ex h3 hE12).cell 0).trans rfl) (sd rfl (yl_seql (a := p_x.Name) (b := p_cap0) rfl rfl rfl ?_))))))))))
 refine sA rfl (dn (CW.ret (rr rfl (.cons rfl .nil) ?_)))
 rw [show (i_Table_findIdx_c1 p_x p_cap0) = (p_x.Name == p_cap0) by simp only [i_Table_findIdx_c1, cL]]
 exact ⟨rfl, (Ex.trans (Ex.refl w) hE12)⟩
theorem c_i_Table_findIdx {A1 : Option Addr} {c1 : Nat} {A2 : Option Addr} {c2 : Nat} {w : World} (p_t : DTable) (pn : Str) (h1 : RdS w (Iv 0 w.heap.size) (RF e_Str) 1 A1 p_t.Cols.length c1 p_t.Cols) (h2 : RdS w (Iv 0 w.heap.size) (RF e_Idx) 3 A2 p_t.Idxs.length c2 p_t.Idxs) (o3 : ok_Table p_t) (o4 : okS pn) : Cal Tryz.prog 183 #[.agg #[.string (bs (p_t.Name)), .slice A1 p_t.Cols.length c1, .slice A2 p_t.Idxs.length c2], .string (bs (pn))] w fun v w' => v = .int .i64 ((i_Table_findIdx p_t pn)) ∧ Ex w w' := by
 refine Cal.of func183 rfl ntmps183 rfl (cR (sd rfl (yl_box rfl rfl rfl ?_)))
 intro b9 w10 hs11 hz12 hB13 hE14
 refine sd rfl (yl_box rfl rfl rfl ?_)
 intro b15 w16 hs17 hz18 hB19 hE20
 refine sA rfl (dn (cR (sd rfl (yl_fieldAddr fd39_2 rfl rfl (sd rfl (yl_load1 ty37 rfl rfl (((Box.ex hB13 hE20).cell 2).trans rfl) (sd rfl (yl_makeFunc rfl (oc rfl oz) (sd rfl (yC en210 rfl (oc rfl (oc rfl oz)) (Cal.mono (c_g_slices_IndexFunc_Idx p_t.Idxs (fun y0 => i_Table_findIdx_c1 y0 pn) (RdS.up (RdS.ex gI (RdS.ex gI h2 hE14) hE20) gI) en211 (fun _ y0 => fun hE hm0 ov0 => c_i_Table_findIdx_c1 y0 pn (Box.ex hB19 hE) ov0 o4) o3.2.2) ?_)))))))))))
 rintro v25 w24 ⟨rfl, hE26⟩
 refine sA rfl (dn (CW.ret (rr rfl (.cons rfl .nil) ?_)))
 rw [show (i_Table_findIdx p_t pn) = ((g_slices_IndexFunc_Idx p_t.Idxs (fun y0 => i_Table_findIdx_c1 y0 pn))) by simp only [i_Table_findIdx, cL]]
 exact ⟨rfl, (Ex.trans (Ex.trans (Ex.trans (Ex.refl w) hE14) hE20) hE26)⟩
theorem c_i_hasIdx {A1 : Option Addr} {c1 : Nat} {A2 : Option Addr} {c2 : Nat} {w : World} (p_t : DTable) (pn : Str) (h1 : RdS w (Iv 0 w.heap.size) (RF e_Str) 1 A1 p_t.Cols.length c1 p_t.Cols) (h2 : RdS w (Iv 0 w.heap.size) (RF e_Idx) 3 A2 p_t.Idxs.length c2 p_t.Idxs) (o3 : ok_Table p_t) (o4 : okS pn) : Cal Tryz.prog 141 #[.agg #[.string (bs (p_t.Name)), .slice A1 p_t.Cols.length c1, .slice A2 p_t.Idxs.length c2], .string (bs (pn))] w fun v w' => v = .bool ((i_hasIdx p_t pn)) ∧ Ex w w' := by
 refine Cal.of func141 rfl ntmps141 rfl (cR (sd rfl (yl_box rfl rfl rfl ?_)))
 intro b9 w10 hs11 hz12 hB13 hE14
 refine sA rfl (dn (cR (sd rfl (yl_loadN ty39 rfl rfl (hB13.cells (n := 3) rfl) rfl ?_))))
 have q15 := RdS.ex gS h1 hE14
 have q16 := RdS.ex gI h2 hE14
 refine sd rfl (yC en67 rfl (oc rfl oz) (Cal.mono (c_i_GoodTable p_t (RdS.up q15 gS) (RdS.up q16 gI) o3) ?_))
 rintro v18 w17 ⟨rfl, hE19⟩
 refine sM rfl (bcase (i_GoodTable p_t) (fun hb20 => ?_) (fun hb20 => ?_))
 ·have hb20p := f_i_GoodTable hb20
  refine sy rfl rfl hb20 (yl_loadN ty39 rfl rfl ((Box.ex hB13 hE19).cells (n := 3) rfl) rfl (sy rfl rfl hb20 (yM rfl rfl (sy rfl rfl hb20 (yC en183 rfl (oc rfl (oc rfl oz)) (Cal.mono (c_i_Table_findIdx p_t pn (RdS.up (RdS.ex gS q15 hE19) gS) (RdS.up (RdS.ex gI q16 hE19) gI) o3 o4) ?_))))))
  rintro v25 w24 ⟨rfl, hE26⟩
  have hrf27 := rf_i_findIdx p_t pn
  refine sy rfl rfl hb20 (yl_geq rfl rfl rfl (sd rfl (yl_pick_t rfl rfl hb20 rfl (sA rfl (dn (CW.ret (rr rfl (.cons rfl .nil) ?_)))))))
  rw [show (i_hasIdx p_t pn) = (decide (0 ≤ (i_Table_findIdx p_t pn))) by simp only [i_hasIdx, hb20, cL]]
  exact ⟨rfl, (Ex.trans (Ex.trans (Ex.trans (Ex.refl w) hE14) hE19) hE26)⟩
 ·refine sz rfl rfl hb20 (sz rfl rfl hb20 (sz rfl rfl hb20 (sz rfl rfl hb20 (sd rfl (yl_pick_f rfl rfl hb20 rfl (sA rfl (dn (CW.ret ?_))))))))
  refine rr rfl (.cons rfl .nil) ?_
  rw [show (i_hasIdx p_t pn) = (false) by simp only [i_hasIdx, hb20, cL]]
  exact ⟨rfl, (Ex.trans (Ex.trans (Ex.refl w) hE14) hE19)⟩
theorem c_i_isIdxStore {A1 : Option Addr} {c1 : Nat} {A2 : Option Addr} {c2 : Nat} {A5 : Option Addr} {c5 : Nat} {w : World} (p_t : DTable) (pn : Str) (ps : List DWrite) (h1 : RdS w (Iv 0 w.heap.size) (RF e_Str) 1 A1 p_t.Cols.length c1 p_t.Cols) (h2 : RdS w (Iv 0 w.heap.size) (RF e_Idx) 3 A2 p_t.Idxs.length c2 p_t.Idxs) (h5 : RdS w (Iv 0 w.heap.size) (RF e_Write) 3 A5 ps.length c5 ps) (o3 : ok_Table p_t) (o4 : okS pn) (o6 : (okL ok_Write) ps) : Cal Tryz.prog 94 #[.agg #[.string (bs (p_t.Name)), .slice A1 p_t.Cols.length c1, .slice A2 p_t.Idxs.length c2], .string (bs (pn)), .slice A5 ps.length c5] w fun v w' => v = .bool ((i_isIdxStore p_t pn ps)) ∧ Ex w w' := by
 refine Cal.of func94 rfl ntmps94 rfl (cR (sd rfl (yl_box rfl rfl rfl ?_)))
 intro b12 w13 hs14 hz15 hB16 hE17
 refine sA rfl (dn (cR (sd rfl (yl_loadN ty39 rfl rfl (hB16.cells (n := 3) rfl) rfl (sM rfl (sd rfl (yC en141 rfl (oc rfl (oc rfl oz)) (Cal.mono (c_i_hasIdx p_t pn (RdS.up (RdS.ex gS h1 hE17) gS) (RdS.up (RdS.ex gI h2 hE17) gI) o3 o4) ?_))))))))
 rintro v21 w20 ⟨rfl, hE22⟩
 refine sM rfl (bcase (i_hasIdx p_t pn) (fun hb23 => ?_) (fun hb23 => ?_))
 ·obtain ⟨hb23p0, hb23p1, hb23p2⟩ := f_i_hasIdx hb23
  refine sy rfl rfl hb23 (yM rfl rfl (sy rfl rfl hb23 (yC en47 rfl (oc rfl oz) (Cal.mono (c_i_isRows ps (RdS.up (RdS.ex gW (RdS.ex gW h5 hE17) hE22) gW) o6) ?_))))
  rintro v27 w26 ⟨rfl, hE28⟩
  refine sd rfl (yl_pick_t rfl rfl hb23 rfl (sA rfl (dn (CW.ret (rr rfl (.cons rfl .nil) ?_)))))
  rw [show (i_isIdxStore p_t pn ps) = ((i_isRows ps)) by simp only [i_isIdxStore, hb23, cL]]
  exact ⟨rfl, (Ex.trans (Ex.trans (Ex.trans (Ex.refl w) hE17) hE22) hE28)⟩
 ·refine sz rfl rfl hb23 (sz rfl rfl hb23 (sd rfl (yl_pick_f rfl rfl hb23 rfl (sA rfl (dn (CW.ret (rr rfl (.cons rfl .nil) ?_)))))))
  rw [show (i_isIdxStore p_t pn ps) = (false) by simp only [i_isIdxStore, hb23, cL]]
  exact ⟨rfl, (Ex.trans (Ex.trans (Ex.refl w) hE17) hE22)⟩
theorem c_i_GoodFill {w : World} (p_f : DFill) (o1 : ok_Fill p_f) : Cal Tryz.prog 95 #[.agg #[.string (bs (p_f.Last)), .bool (p_f.Over)]] w fun v w' => v = .bool ((i_GoodFill p_f)) ∧ Ex w w' := by
 refine Cal.of func95 rfl ntmps95 rfl (cR (sd rfl (yl_box rfl rfl rfl ?_)))
 intro b3 w4 hs5 hz6 hB7 hE8
 refine sA rfl (dn (cR (sd rfl (yl_fieldAddr fd56_0 rfl rfl (sd rfl (yl_load1 ty9 rfl rfl ((hB7.cell 0).trans rfl) (sd rfl (yl_seql (a := p_f.Last) (b := ([] : Str)) rfl rfl rfl (sM rfl ?_)))))))))
 refine bcase (p_f.Last == ([] : Str)) (fun hb9 => ?_) (fun hb9 => ?_)
 ·refine sz rfl rfl hb9 (sz rfl rfl hb9 (sz rfl rfl hb9 (sd rfl (yl_pick_t rfl rfl hb9 rfl (sA rfl (dn (CW.ret (rr rfl (.cons rfl .nil) ?_))))))))
  rw [show (i_GoodFill p_f) = (true) by simp only [i_GoodFill, hb9, cL]]
  exact ⟨rfl, (Ex.trans (Ex.refl w) hE8)⟩
 ·refine sy rfl rfl hb9 (yl_fieldAddr fd56_0 rfl rfl (sy rfl rfl hb9 (yl_load1 ty9 rfl rfl ((hB7.cell 0).trans rfl) (sy rfl rfl hb9 (yC en142 rfl (oc rfl oz) (Cal.mono (c_i_GoodKey p_f.Last o1) ?_))))))
  rintro v13 w12 ⟨rfl, hE14⟩
  refine sd rfl (yl_pick_f rfl rfl hb9 rfl (sA rfl (dn (CW.ret (rr rfl (.cons rfl .nil) ?_)))))
  rw [show (i_GoodFill p_f) = ((i_GoodKey p_f.Last)) by simp only [i_GoodFill, hb9, cL]]
  exact ⟨rfl, (Ex.trans (Ex.trans (Ex.refl w) hE8) hE14)⟩
theorem c_i_arePiece {A1 : Option Addr} {c1 : Nat} {A2 : Option Addr} {c2 : Nat} {A5 : Option Addr} {c5 : Nat} {w : World} (p_t : DTable) (pn : Str) (ps : List DWrite) (p_f : DFill) (p_many : Int) (h1 : RdS w (Iv 0 w.heap.size) (RF e_Str) 1 A1 p_t.Cols.length c1 p_t.Cols) (h2 : RdS w (Iv 0 w.heap.size) (RF e_Idx) 3 A2 p_t.Idxs.length c2 p_t.Idxs) (h5 : RdS w (Iv 0 w.heap.size) (RF e_Write) 3 A5 ps.length c5 ps) (o3 : ok_Table p_t) (o4 : okS pn) (o6 : (okL ok_Write) ps) (o7 : ok_Fill p_f) : Cal Tryz.prog 60 #[.agg #[.string (bs (p_t.Name)), .slice A1 p_t.Cols.length c1, .slice A2 p_t.Idxs.length c2], .string (bs (pn)), .slice A5 ps.length c5, .agg #[.string (bs (p_f.Last)), .bool (p_f.Over)], .int .i64 (p_many)] w fun v w' => v = .bool ((i_arePiece p_t pn ps p_f p_many)) ∧ Ex w w' := by
 refine Cal.of func60 rfl ntmps60 rfl (cR (sd rfl (yl_box rfl rfl rfl ?_)))
 intro b14 w15 hs16 hz17 hB18 hE19
 refine sd rfl (yl_box rfl rfl rfl ?_)
 intro b20 w21 hs22 hz23 hB24 hE25
 refine sA rfl (dn (cR (sd rfl (yl_loadN ty39 rfl rfl ((Box.ex hB18 hE25).cells (n := 3) rfl) rfl (sM rfl (sM rfl (sd rfl (yC en94 rfl (oc rfl (oc rfl (oc rfl oz))) (Cal.mono (c_i_isIdxStore p_t pn ps (RdS.up (RdS.ex gS (RdS.ex gS h1 hE19) hE25) gS) (RdS.up (RdS.ex gI (RdS.ex gI h2 hE19) hE25) gI) (RdS.up (RdS.ex gW (RdS.ex gW h5 hE19) hE25) gW) o3 o4 o6) ?_)))))))))
 rintro v34 w33 ⟨rfl, hE35⟩
 refine sM rfl (bcase (i_isIdxStore p_t pn ps) (fun hb36 => ?_) (fun hb36 => ?_))
 ·have hb36p := f_isIdxStore hb36
  refine sy rfl rfl hb36 (yl_loadN ty56 rfl rfl ((Box.ex hB24 hE35).cells (n := 2) rfl) rfl (sy rfl rfl hb36 (yC en95 rfl (oc rfl oz) (Cal.mono (c_i_GoodFill p_f o7) ?_))))
  rintro v39 w38 ⟨rfl, hE40⟩
  refine sd rfl (yl_pick_t rfl rfl hb36 rfl (sM rfl (bcase (i_GoodFill p_f) (fun hb41 => ?_) (fun hb41 => ?_))))
  ·refine sy rfl rfl hb41 (yM rfl rfl (sy rfl rfl hb41 (yC en96 rfl (oc rfl (oc rfl (oc rfl oz))) (Cal.mono (c_i_within p_many 1 24) ?_))))
   rintro v43 w42 ⟨rfl, hE44⟩
   refine sd rfl (yl_pick_t rfl rfl hb41 rfl (sA rfl (dn (CW.ret (rr rfl (.cons rfl .nil) ?_)))))
   rw [show (i_arePiece p_t pn ps p_f p_many) = ((i_within p_many 1 24)) by simp only [i_arePiece, hb36, hb41, cL]]
   exact ⟨rfl, (Ex.trans (Ex.trans (Ex.trans (Ex.trans (Ex.trans (Ex.refl w) hE19) hE25) hE35) hE40) hE44)⟩
  ·refine sz rfl rfl hb41 (sz rfl rfl hb41 (sd rfl (yl_pick_f rfl rfl hb41 rfl (sA rfl (dn (CW.ret (rr rfl (.cons rfl .nil) ?_)))))))
   rw [show (i_arePiece p_t pn ps p_f p_many) = (false) by simp only [i_arePiece, hb36, hb41, cL]]
   exact ⟨rfl, (Ex.trans (Ex.trans (Ex.trans (Ex.trans (Ex.refl w) hE19) hE25) hE35) hE40)⟩
 ·refine sz rfl rfl hb36 (sz rfl rfl hb36 (sd rfl (yl_pick_f rfl rfl hb36 rfl (sM rfl (sz rfl rfl rfl (sz rfl rfl rfl (sd rfl (yl_pick_f rfl rfl rfl rfl (sA rfl (SeqR.done ?_))))))))))
  refine tn (CW.ret (rr rfl (.cons rfl .nil) ?_))
  rw [show (i_arePiece p_t pn ps p_f p_many) = (false) by simp only [i_arePiece, hb36, cL]]
  exact ⟨rfl, (Ex.trans (Ex.trans (Ex.trans (Ex.refl w) hE19) hE25) hE35)⟩
theorem c_g_slices_BinarySearchFunc_string {A1 : Option Addr} {c1 : Nat} {g4 : Nat} {cp5 : List Value} {w : World} (p_x : List DWrite) (p_target : Str) (p_cmp : DWrite → Str → Int) (h1 : RdS w (Iv 0 w.heap.size) (RF e_Write) 3 A1 p_x.length c1 p_x) (hen6 : Go.X.Enters Tryz.prog g4) (hfn7 : ∀ (w1 : World) (y0 : DWrite) (y1 : Str), Ex w w1 → ok_Write y0 → okS y1 → Cal Tryz.prog g4 (([.agg #[.string (bs (y0.Key)), .string (bs (y0.Val)), .bool (y0.Gone)], .string (bs (y1))] : List Value) ++ cp5).toArray w1 fun v w2 => v = .int .i64 (p_cmp y0 y1) ∧ Ex w1 w2) (o2 : (okL ok_Write) p_x) (o3 : okS p_target) : Cal Tryz.prog 206 #[.slice A1 p_x.length c1, .string (bs (p_target)), .func (.func g4) #[] cp5.toArray] w fun v w' => v = .tuple #[.int .i64 ((g_slices_BinarySearchFunc_string p_x p_target p_cmp).1), .bool ((g_slices_BinarySearchFunc_string p_x p_target p_cmp).2)] ∧ Ex w w' := by
 have hol8 := o2.1
 have hol9 : p_target.length ≤ 1073741824 := o3
 refine Cal.of func206 rfl ntmps206 rfl (cR (sA rfl (sA rfl (dn (cR ?_)))))
 refine sM rfl (sd rfl (yL un34 rfl rfl (sA rfl (dn (cR (sM rfl (sA rfl ?_)))))))
 refine sA rfl (dn (CW.seq (CW.block (CW.loop (fun m13 L14 w15 => ∃ (x11 : Int) (x12 : Int), ((x12 - x11).toNat) < m13 ∧ w.heap.size ≤ w15.heap.size ∧ Sub [(0, .slice A1 p_x.length c1), (1, .string (bs (p_target))), (2, .func (.func g4) #[] cp5.toArray), (8, .int .i64 ((p_x.length : Int))), (9, .int .i64 (x11)), (10, .int .i64 (x12))] L14 ∧ RdS w15 (Iv 0 w.heap.size) (RF e_Write) 3 A1 p_x.length c1 p_x ∧ Ex w w15 ∧ (0 ≤ x11 ∧ x11 ≤ x12 ∧ x12 ≤ (p_x.length : Int)) ∧ loopW (B_g_slices_BinarySearchFunc_string_0 p_x p_target p_cmp) m13 (x11, x12) = loopW (B_g_slices_BinarySearchFunc_string_0 p_x p_target p_cmp) ((((p_x.length : Int) - 0).toNat) + 1) (0, (p_x.length : Int))) ((((p_x.length : Int) - 0).toNat) + 1) ?_ ?_))))
 ·exact ⟨0, (p_x.length : Int), Nat.lt_succ_self _, Nat.le_refl _, (sR rfl), h1, (Ex.refl w), Bo, rfl⟩
 ·rintro m16 L17 w18 ⟨x11, x12, hk19, hsz21, hl22, hf23, hf24, hv25, hI20⟩
  refine CW.sub hl22 ?_
  have hf24z := Ex.size hf24
  refine CW.seq (cR (sM rfl (sM rfl (sd rfl (yl_lss rfl rfl rfl (dn (bcD (q := x11 < x12) (fun hb26 hb26p => ?_) (fun hb26 hb26p => ?_))))))))
  ·have hb26m := bs_mid (i := x11) (j := x12) oM oM oM
   refine CW.cond_t rfl hb26 (CW.skip (tn (CW.block (cR (sM rfl (sM rfl (sd rfl (yl_add rfl rfl rfl ?_))))))))
   refine sd rfl (yl_conv un3 un229 rfl rfl (sd rfl (yl_shr (q := 2) rfl rfl rfl (by decide) (by decide) (by decide) (sd rfl (yl_conv un229 un3 rfl rfl (sA rfl (dn (cR (sM rfl ?_)))))))))
   refine sM rfl (sM rfl ?_)
   obtain ⟨_, _, _, eA27, _, ebl27, _, eR27, eC27⟩ := RdS.atD hf23 d_Write (i := (IntKind.wrap .i64 (Int.fdiv (IntKind.wrap .u64 (IntKind.wrap .i64 (x11 + x12))) 2)).toNat) Bo
   obtain rfl := eR27
   refine sd rfl (yl_indexAddr un34 ty80 rfl rfl rfl eA27 Bo Bo (sd rfl (yl_loadN ty80 rfl rfl eC27 rfl (sM rfl (sd rfl (yl_callv hen6 rfl rfl (oc rfl (oc rfl oz)) (Cal.mono (hfn7 w18 (p_x.getD ((IntKind.wrap .i64 (Int.fdiv (IntKind.wrap .u64 (IntKind.wrap .i64 (x11 + x12))) 2)).toNat) d_Write) p_target hf24 (okL.getD o2 ok_d_Write _) o3) ?_)))))))
   rintro v29 w28 ⟨rfl, hE30⟩
   have hE30z := Ex.size hE30
   refine sd rfl (yl_lss rfl rfl rfl (dn (bcD (q := (p_cmp (p_x.getD ((IntKind.wrap .i64 (Int.fdiv (IntKind.wrap .u64 (IntKind.wrap .i64 (x11 + x12))) 2)).toNat) d_Write) p_target) < 0) (fun hb31 hb31p => ?_) (fun hb31 hb31p => ?_))))
   ·refine CW.cond_t rfl hb31 (CW.region (sM rfl (sd rfl (yl_add rfl rfl rfl (sA rfl (SeqR.done (bn (tn ?_))))))))
    have hB32 : B_g_slices_BinarySearchFunc_string_0 p_x p_target p_cmp (x11, x12) = .cont (IntKind.wrap .i64 ((IntKind.wrap .i64 (Int.fdiv (IntKind.wrap .u64 (IntKind.wrap .i64 (x11 + x12))) 2)) + 1), x12) := by simp only [B_g_slices_BinarySearchFunc_string_0, hb26, hb31, cL]
    have hmu35 : ((x12 - IntKind.wrap .i64 ((IntKind.wrap .i64 (Int.fdiv (IntKind.wrap .u64 (IntKind.wrap .i64 (x11 + x12))) 2)) + 1)).toNat) < ((x12 - x11).toNat) := by first | omega | assumption | (simp only [wI] at *; omega)
    exact ⟨m16 - 1, oM, IntKind.wrap .i64 ((IntKind.wrap .i64 (Int.fdiv (IntKind.wrap .u64 (IntKind.wrap .i64 (x11 + x12))) 2)) + 1), x12, oM, oM, (sR rfl), (RdS.ex gW hf23 hE30), (Ex.trans hf24 hE30), Bo, (loopW.cont hk19 hB32).symm.trans hI20⟩
   ·refine CW.cond_f rfl hb31 (CW.region (sM rfl (sA rfl (SeqR.done (bn (tn ?_))))))
    have hB36 : B_g_slices_BinarySearchFunc_string_0 p_x p_target p_cmp (x11, x12) = .cont (x11, IntKind.wrap .i64 (Int.fdiv (IntKind.wrap .u64 (IntKind.wrap .i64 (x11 + x12))) 2)) := by simp only [B_g_slices_BinarySearchFunc_string_0, hb26, hb31, cL]
    have hmu39 : ((IntKind.wrap .i64 (Int.fdiv (IntKind.wrap .u64 (IntKind.wrap .i64 (x11 + x12))) 2) - x11).toNat) < ((x12 - x11).toNat) := by first | omega | assumption | (simp only [wI] at *; omega)
    exact ⟨m16 - 1, oM, x11, IntKind.wrap .i64 (Int.fdiv (IntKind.wrap .u64 (IntKind.wrap .i64 (x11 + x12))) 2), oM, oM, (sR rfl), (RdS.ex gW hf23 hE30), (Ex.trans hf24 hE30), Bo, (loopW.cont hk19 hB36).symm.trans hI20⟩
  ·refine CW.cond_f rfl hb26 (CW.exit (tx (tx ?_)))
   have hB41 : B_g_slices_BinarySearchFunc_string_0 p_x p_target p_cmp (x11, x12) = .brk (x11, x12) := by simp only [B_g_slices_BinarySearchFunc_string_0, hb26, cL]
   have hL40 : loopW (B_g_slices_BinarySearchFunc_string_0 p_x p_target p_cmp) ((((p_x.length : Int) - 0).toNat) + 1) (0, (p_x.length : Int)) = .done (x11, x12) := hI20.symm.trans (loopW.brk hk19 hB41)
   refine bx (tn (cR (sM rfl (sM rfl (sM rfl (sd rfl (yl_lss rfl rfl rfl (sM rfl ?_))))))))
   refine bcD (q := x11 < (p_x.length : Int)) (fun hb42 hb42p => ?_) (fun hb42 hb42p => ?_)
   ·refine sy rfl rfl hb42 (yM rfl rfl (sy rfl rfl hb42 (yM rfl rfl (sy rfl rfl hb42 (yM rfl rfl ?_)))))
    obtain ⟨_, _, _, eA43, _, ebl43, _, eR43, eC43⟩ := RdS.atD hf23 d_Write (i := (x11).toNat) Bo
    obtain rfl := eR43
    refine sy rfl rfl hb42 (yl_indexAddr un34 ty80 rfl rfl rfl eA43 Bo Bo (sy rfl rfl hb42 (yl_loadN ty80 rfl rfl eC43 rfl (sy rfl rfl hb42 (yM rfl rfl (sy rfl rfl hb42 (yl_callv hen6 rfl rfl (oc rfl (oc rfl oz)) (Cal.mono (hfn7 w18 (p_x.getD ((x11).toNat) d_Write) p_target hf24 (okL.getD o2 ok_d_Write _) o3) ?_))))))))
    rintro v45 w44 ⟨rfl, hE46⟩
    have hE46z := Ex.size hE46
    refine sy rfl rfl hb42 (yl_eql rfl rfl rfl (sd rfl (yl_pick_t rfl rfl hb42 rfl (sA rfl (sA rfl (dn (CW.ret (rr rfl (.cons rfl (.cons rfl .nil)) ?_))))))))
    rw [show (g_slices_BinarySearchFunc_string p_x p_target p_cmp) = ((x11, decide ((p_cmp (p_x.getD ((x11).toNat) d_Write) p_target) = 0))) by simp only [g_slices_BinarySearchFunc_string, hb26, hb42, hL40, cL]]
    exact ⟨rfl, (Ex.trans hf24 hE46)⟩
   ·refine sz rfl rfl hb42 (sz rfl rfl hb42 (sz rfl rfl hb42 (sz rfl rfl hb42 (sz rfl rfl hb42 (sz rfl rfl hb42 (sz rfl rfl hb42 (sz rfl rfl hb42 (sd rfl (yl_pick_f rfl rfl hb42 rfl ?_)))))))))
    refine sA rfl (sA rfl (dn (CW.ret (rr rfl (.cons rfl (.cons rfl .nil)) ?_))))
    rw [show (g_slices_BinarySearchFunc_string p_x p_target p_cmp) = ((x11, false)) by simp only [g_slices_BinarySearchFunc_string, hb26, hb42, hL40, cL]]
    exact ⟨rfl, hf24⟩
theorem c_g_cmp_isNaN_string {w : World} (p_x : Str) (o1 : okS p_x) : Cal Tryz.prog 196 #[.string (bs (p_x))] w fun v w' => v = .bool ((g_cmp_isNaN_string p_x)) ∧ Ex w w' := by
 refine Cal.of func196 rfl ntmps196 rfl (cR (sA rfl (dn (cR (sM rfl ?_)))))
 refine sM rfl (sd rfl (yl_sneq (a := p_x) (b := p_x) rfl rfl rfl (sA rfl (dn (CW.ret (rr rfl (.cons rfl .nil) ?_))))))
 rw [show (g_cmp_isNaN_string p_x) = (!(p_x == p_x)) by simp only [g_cmp_isNaN_string, cL]]
 exact ⟨rfl, (Ex.refl w)⟩
theorem c_g_cmp_Compare_string {w : World} (p_x : Str) (p_y : Str) (o1 : okS p_x) (o2 : okS p_y) : Cal Tryz.prog 163 #[.string (bs (p_x)), .string (bs (p_y))] w fun v w' => v = .int .i64 ((g_cmp_Compare_string p_x p_y)) ∧ Ex w w' := by
 refine Cal.of func163 rfl ntmps163 rfl (cR (sA rfl (dn (cR (sM rfl ?_)))))
 refine sd rfl (yC en196 rfl (oc rfl oz) (Cal.mono (c_g_cmp_isNaN_string p_x o1) ?_))
 rintro v6 w5 ⟨rfl, hE7⟩
 refine sA rfl (dn (cR (sM rfl (sd rfl (yC en196 rfl (oc rfl oz) (Cal.mono (c_g_cmp_isNaN_string p_y o2) ?_))))))
 rintro v9 w8 ⟨rfl, hE10⟩
 refine sA rfl (dn (CW.seq (cR (sM rfl (dn ?_)))))
 refine bcase (g_cmp_isNaN_string p_x) (fun hb11 => ?_) (fun hb11 => ?_)
 ·refine CW.cond_t rfl hb11 (CW.seq (cR (sM rfl (dn (bcase (g_cmp_isNaN_string p_y) (fun hb12 => ?_) (fun hb12 => ?_))))))
  ·refine CW.cond_t rfl hb12 (cR (sA rfl (dn (CW.ret (tr (tr ?_))))))
   refine rr rfl (.cons rfl .nil) ?_
   rw [show (g_cmp_Compare_string p_x p_y) = (0) by simp only [g_cmp_Compare_string, hb11, hb12, cL]]
   exact ⟨rfl, (Ex.trans (Ex.trans (Ex.refl w) hE7) hE10)⟩
  ·refine CW.cond_f rfl hb12 (CW.skip (tn (cR (sA rfl (dn (CW.ret ?_))))))
   refine tr (rr rfl (.cons rfl .nil) ?_)
   rw [show (g_cmp_Compare_string p_x p_y) = (-1) by simp only [g_cmp_Compare_string, hb11, hb12, cL]]
   exact ⟨rfl, (Ex.trans (Ex.trans (Ex.refl w) hE7) hE10)⟩
 ·refine CW.cond_f rfl hb11 (CW.skip (tn (CW.seq (cR (sM rfl (dn ?_))))))
  refine bcase (g_cmp_isNaN_string p_y) (fun hb19 => ?_) (fun hb19 => ?_)
  ·refine CW.cond_t rfl hb19 (cR (sA rfl (dn (CW.ret (tr (rr rfl (.cons rfl .nil) ?_))))))
   rw [show (g_cmp_Compare_string p_x p_y) = (1) by simp only [g_cmp_Compare_string, hb11, hb19, cL]]
   exact ⟨rfl, (Ex.trans (Ex.trans (Ex.refl w) hE7) hE10)⟩
  ·refine CW.cond_f rfl hb19 (CW.skip (tn (CW.seq (cR (sM rfl (sM rfl (sd rfl (yl_slss (a := p_x) (b := p_y) rfl rfl rfl ?_))))))))
   refine dn (bcase (sLt p_x p_y) (fun hb23 => ?_) (fun hb23 => ?_))
   ·refine CW.cond_t rfl hb23 (cR (sA rfl (dn (CW.ret (tr (rr rfl (.cons rfl .nil) ?_))))))
    rw [show (g_cmp_Compare_string p_x p_y) = (-1) by simp only [g_cmp_Compare_string, hb11, hb19, hb23, cL]]
    exact ⟨rfl, (Ex.trans (Ex.trans (Ex.refl w) hE7) hE10)⟩
   ·refine CW.cond_f rfl hb23 (CW.skip (tn (CW.seq (cR (sM rfl (sM rfl (sd rfl (yl_sgtr (a := p_x) (b := p_y) rfl rfl rfl ?_))))))))
    refine dn (bcase (sLe p_x p_y) (fun hb27 => ?_) (fun hb27 => ?_))
    ·refine CW.cond_f rfl (not_t hb27) (CW.skip (tn (cR (sA rfl (dn (CW.ret ?_))))))
     refine rr rfl (.cons rfl .nil) ?_
     rw [show (g_cmp_Compare_string p_x p_y) = (0) by simp only [g_cmp_Compare_string, hb11, hb19, hb23, hb27, cL]]
     exact ⟨rfl, (Ex.trans (Ex.trans (Ex.refl w) hE7) hE10)⟩
    ·refine CW.cond_t rfl (not_f hb27) (cR (sA rfl (dn (CW.ret (tr (rr rfl (.cons rfl .nil) ?_))))))
     rw [show (g_cmp_Compare_string p_x p_y) = (1) by simp only [g_cmp_Compare_string, hb11, hb19, hb23, hb27, cL]]
     exact ⟨rfl, (Ex.trans (Ex.trans (Ex.refl w) hE7) hE10)⟩
theorem c_i_findWrite_c1 {w : World} (p_w : DWrite) (p_key : Str) (o1 : ok_Write p_w) (o2 : okS p_key) : Cal Tryz.prog 207 #[.agg #[.string (bs (p_w.Key)), .string (bs (p_w.Val)), .bool (p_w.Gone)], .string (bs (p_key))] w fun v w' => v = .int .i64 ((i_findWrite_c1 p_w p_key)) ∧ Ex w w' := by
 refine Cal.of func207 rfl ntmps207 rfl (cR (sd rfl (yl_box rfl rfl rfl ?_)))
 intro b6 w7 hs8 hz9 hB10 hE11
 refine sA rfl (dn (cR (sd rfl (yl_fieldAddr fd80_0 rfl rfl (sd rfl (yl_load1 ty9 rfl rfl ((hB10.cell 0).trans rfl) (sM rfl (sd rfl (yC en163 rfl (oc rfl (oc rfl oz)) (Cal.mono (c_g_cmp_Compare_string p_w.Key p_key o1.1 o2) ?_))))))))))
 rintro v13 w12 ⟨rfl, hE14⟩
 refine sA rfl (dn (CW.ret (rr rfl (.cons rfl .nil) ?_)))
 rw [show (i_findWrite_c1 p_w p_key) = ((g_cmp_Compare_string p_w.Key p_key)) by simp only [i_findWrite_c1, cL]]
 exact ⟨rfl, (Ex.trans (Ex.trans (Ex.refl w) hE11) hE14)⟩
theorem c_i_findWrite {A1 : Option Addr} {c1 : Nat} {w : World} (p_l : List DWrite) (p_key : Str) (h1 : RdS w (Iv 0 w.heap.size) (RF e_Write) 3 A1 p_l.length c1 p_l) (o2 : (okL ok_Write) p_l) (o3 : okS p_key) : Cal Tryz.prog 181 #[.slice A1 p_l.length c1, .string (bs (p_key))] w fun v w' => v = .tuple #[.int .i64 ((i_findWrite p_l p_key).1), .bool ((i_findWrite p_l p_key).2)] ∧ Ex w w' := by
 refine Cal.of func181 rfl ntmps181 rfl (cR (sA rfl (sA rfl (dn (cR ?_)))))
 refine sM rfl (sM rfl (sd rfl (yC en206 rfl (oc rfl (oc rfl (oc rfl oz))) (Cal.mono (c_g_slices_BinarySearchFunc_string p_l p_key (fun y0 y1 => i_findWrite_c1 y0 y1) (RdS.up h1 gW) en207 (fun _ y0 => fun y1 => fun hE ov0 ov1 => c_i_findWrite_c1 y0 y1 ov0 ov1) o2 o3) ?_))))
 rintro v7 w6 ⟨rfl, hE8⟩
 refine sd rfl (yl_extract rfl rfl rfl (sd rfl (yl_extract rfl rfl rfl (sA rfl (sA rfl (dn (CW.ret (rr rfl (.cons rfl (.cons rfl .nil)) ?_))))))))
 rw [show (i_findWrite p_l p_key) = (((g_slices_BinarySearchFunc_string p_l p_key (fun y0 y1 => i_findWrite_c1 y0 y1)).1, (g_slices_BinarySearchFunc_string p_l p_key (fun y0 y1 => i_findWrite_c1 y0 y1)).2)) by simp only [i_findWrite, cL]]
 exact ⟨rfl, (Ex.trans (Ex.refl w) hE8)⟩
theorem len_Write (x : DWrite) : (e_Write x).length = 3 := rfl
theorem one_Write (x : DWrite) : ∀ v ∈ e_Write x, v.oneCell' = true := List.all_eq_true.1 rfl
theorem c_insWrite {A1 : Option Addr} {c1 : Nat} {lo1 hi1 : Nat} {b2 : Nat} {w : World} (p_s : List DWrite) (p_i : Nat) (p_x : DWrite) (h1 : OwnL w lo1 hi1 80 3 (RF e_Write) A1 p_s.length c1 p_s) (h2 : Box w b2 80 [.string (bs (p_x.Key)), .string (bs (p_x.Val)), .bool (p_x.Gone)]) (hrn3 : (0 ≤ lo1 ∧ lo1 ≤ hi1 ∧ hi1 ≤ w.heap.size)) (hap : b2 < lo1 ∨ hi1 ≤ b2) (pre0 : p_i ≤ p_s.length) (pre1 : p_s.length ≤ 1000000) : Cal Tryz.prog 182 #[.slice A1 p_s.length c1, .int .i64 ((p_i : Int)), .slice (some ⟨b2, 0, none⟩) 1 1] w fun v w' => ∃ A_1 c_1 lo_1 hi_1, v = .slice A_1 ((insWrite p_s p_i p_x).length) c_1 ∧ OwnL w' lo_1 hi_1 80 3 (RF e_Write) A_1 ((insWrite p_s p_i p_x).length) c_1 (insWrite p_s p_i p_x) ∧ ((lo_1 = lo1 ∧ hi_1 = hi1) ∨ (w.heap.size ≤ lo_1 ∧ lo_1 ≤ hi_1 ∧ hi_1 ≤ w'.heap.size)) ∧ Mut [(lo1, hi1)] w w' := by
  have hbg0 := RdS.big (OwnL.rd gW h1)
  have hbx : b2 < w.heap.size := Box.lt h2
  refine Cal.of (vs := [.slice A1 p_s.length c1, .int .i64 ((p_i : Int)), .slice (some ⟨b2, 0, none⟩) 1 1]) func182 rfl ntmps182 rfl ?_
  refine CW.seq ?_
  refine CW.region ?_
  refine SeqR.d1 rfl rfl rfl (yA rfl rfl ?_)
  refine SeqR.done ?_
  refine tn ?_
  refine CW.seq ?_
  refine CW.region ?_
  refine SeqR.d1 rfl rfl rfl (yM rfl rfl ?_)
  refine SeqR.d1 rfl rfl rfl (yM rfl rfl ?_)
  refine SeqR.d1 rfl rfl rfl (yl_slice (kh := .i64) (l := p_i) (h := p_s.length) un34 ty80 rfl rfl (Or.inr ⟨_, rfl, rfl⟩) (Or.inl ⟨rfl, rfl⟩) oM (by have := (OwnL.rd gW h1).2.1; omega) ?_)
  refine SeqR.done ?_
  refine tn ?_
  refine CW.seq ?_
  refine CW.region ?_
  refine SeqR.d1 rfl rfl rfl (yM rfl rfl ?_)
  refine SeqR.d1 rfl rfl rfl (yL un34 rfl rfl ?_)
  refine SeqR.d1 rfl rfl rfl (yA rfl rfl ?_)
  refine SeqR.done ?_
  refine tn ?_
  refine CW.seq ?_
  refine CW.seq ?_
  refine CW.region ?_
  refine SeqR.d1 rfl rfl rfl (yM rfl rfl ?_)
  refine SeqR.d1 rfl rfl rfl (yl_eql rfl rfl rfl ?_)
  refine SeqR.done ?_
  refine tn ?_
  refine CW.cond_f rfl rfl ?_
  refine CW.skip ?_
  refine tn ?_
  refine CW.seq ?_
  refine CW.region ?_
  refine SeqR.d1 rfl rfl rfl (yM rfl rfl ?_)
  refine SeqR.d1 rfl rfl rfl (yL un34 rfl rfl ?_)
  refine SeqR.d1 rfl rfl rfl (yA rfl rfl ?_)
  refine SeqR.done ?_
  refine tn ?_
  refine CW.seq ?_
  refine CW.seq ?_
  refine CW.region ?_
  refine SeqR.d1 rfl rfl rfl (yM rfl rfl ?_)
  refine SeqR.d1 rfl rfl rfl (yM rfl rfl ?_)
  refine SeqR.d1 rfl rfl rfl (yl_eql rfl rfl rfl ?_)
  refine SeqR.done ?_
  refine tn ?_
  refine bcase (decide ((p_i : Int) = (p_s.length : Int))) (fun hb1 => ?_) (fun hb1 => ?_)
  · have hb1p := dec_t hb1
    refine CW.cond_t rfl hb1 ?_
    refine CW.seq ?_
    refine CW.region ?_
    refine SeqR.d1 rfl rfl rfl (yM rfl rfl ?_)
    refine SeqR.d1 rfl rfl rfl (yM rfl rfl ?_)
    refine SeqR.d1 rfl rfl rfl (yl_appendP (S := fun _ => False) (lo := lo1) (hi := hi1) (xs := p_s) (ys := ([p_x] : List DWrite)) un34 ty80 rfl (nb rfl) (fun _ => rfl) rfl rfl rfl h1 (EncL.cons (c := [.string (bs (p_x.Key)), .string (bs (p_x.Val)), .bool (p_x.Gone)]) rfl rfl EncL.nil) (Or.inr ⟨_, _, rfl, rfl, h2.cells (o := 0) (n := 3) rfl⟩) rfl Bl Bl oM oM oM ?_)
    intro A2 c3 w4 row5 lp6 hp7 hO8 hG9 hrg10 hdj11
    have hG9z := hG9.size
    refine SeqR.d1 rfl rfl rfl (yA rfl rfl ?_)
    refine SeqR.done ?_
    refine tn ?_
    refine CW.ret ?_
    refine tr ?_
    refine rr rfl (.cons rfl .nil) ?_
    have hM12 : (insWrite p_s p_i p_x) = (p_s ++ ([p_x] : List DWrite)) := by unfold insWrite; exact (ins_end _ _ oM).symm
    rw [hM12]
    have q13 := Mut.grown (Mut.refl (l := [(lo1, hi1)]) w) hG9 (fun k hk => by have := hrg10 k hk; simp only [InR, or_false]; omega)
    exact ⟨A2, c3, lp6, hp7, rfl, hO8, oM, q13⟩
  · have hb1p := dec_f hb1
    refine CW.cond_f rfl hb1 ?_
    refine CW.skip ?_
    refine tn ?_
    refine CW.seq ?_
    refine CW.seq ?_
    refine CW.region ?_
    refine SeqR.d1 rfl rfl rfl (yM rfl rfl ?_)
    refine SeqR.d1 rfl rfl rfl (yM rfl rfl ?_)
    refine SeqR.d1 rfl rfl rfl (yl_inc rfl rfl rfl oM ?_)
    refine SeqR.d1 rfl rfl rfl (yM rfl rfl ?_)
    refine SeqR.d1 rfl rfl rfl (yl_cap un34 rfl rfl ?_)
    refine SeqR.d1 rfl rfl rfl (yl_gtr rfl rfl rfl ?_)
    refine SeqR.done ?_
    refine tn ?_
    refine bcase (decide ((c1 : Int) < ((p_s.length + 1 : Nat) : Int))) (fun hb14 => ?_) (fun hb14 => ?_)
    · have hb14p := dec_t hb14
      refine CW.cond_t rfl hb14 ?_
      refine CW.seq ?_
      refine CW.region ?_
      refine SeqR.d1 rfl rfl rfl (yM rfl rfl ?_)
      refine SeqR.d1 rfl rfl rfl (yM rfl rfl ?_)
      obtain ⟨g15, r15, hA15, hg15, hl15, hh15, hB15, hr15, hnc15, hcm15, hn15, hb15⟩ := OwnL.flatBox (enc := e_Write) h1 oM
      refine SeqR.d1 rfl rfl rfl (yl_sliceR (kl := .i64) (A' := (some ⟨g15, 0, none⟩)) (m := p_i) (c' := c1) (l := 0) (h := p_i) un34 ty80 rfl rfl (Or.inl ⟨rfl, rfl⟩) (Or.inr ⟨_, rfl, rfl⟩) oM oM ⟨by rw [hA15]; exact sl_zero _ _ _ _, rfl, rfl⟩ ?_)
      refine SeqR.d1 rfl rfl rfl (yM rfl rfl ?_)
      refine SeqR.d1 rfl rfl rfl (yM rfl rfl ?_)
      refine SeqR.d1 rfl rfl rfl (yl_inc rfl rfl rfl oM ?_)
      refine SeqR.d1 rfl rfl rfl (yM rfl rfl ?_)
      refine SeqR.d1 rfl rfl rfl (yl_subN (a := (p_s.length + 1)) (b := p_i) rfl rfl rfl oM oM ?_)
      refine SeqR.d1 rfl rfl rfl (yl_appendZ (nq := p_s.length + 1) (olds := ((p_s.take p_i).flatMap e_Write)) un34 un3 ty80 rfl (by decide) rfl rfl rfl rfl (Or.inr ⟨_, _, rfl, by rw [flat_length len_Write, List.length_take, Nat.min_eq_left pre0], Box.flatTake len_Write hB15 pre0⟩) oM oM oM oM oM ?_)
      intro c16 zs17 w18 hcl19 hcm20 hzl21 hB22 hE23 hsz24
      refine SeqR.d1 rfl rfl rfl (yA rfl rfl ?_)
      refine SeqR.done ?_
      refine tn ?_
      refine CW.seq ?_
      refine CW.region ?_
      refine SeqR.d1 rfl rfl rfl (yM rfl rfl ?_)
      refine SeqR.d1 rfl rfl rfl (yM rfl rfl ?_)
      refine SeqR.d1 rfl rfl rfl (yl_sliceR (kh := .i64) (A' := (some ⟨w.heap.size, p_i * 3, none⟩)) (m := ((p_s.length + 1) - p_i)) (c' := (c16 - p_i)) (l := p_i) (h := (p_s.length + 1)) un34 ty80 rfl rfl (Or.inr ⟨_, rfl, rfl⟩) (Or.inl ⟨rfl, rfl⟩) oM oM ⟨sl_at oM, rfl, rfl⟩ ?_)
      refine SeqR.d1 rfl rfl rfl (yM rfl rfl ?_)
      have q25 := Box.ex h2 hE23
      refine SeqR.d1 rfl rfl rfl (yl_copyB (m := 1) (cs := (e_Write p_x)) (cur := (((p_s.take p_i).flatMap e_Write) ++ zs17)) un34 ty80 rfl rfl rfl hB22 (q25.cells (o := 0) (n := 3) rfl) (rfl) (by show min _ _ = _; omega) (by simp only [List.length_append, flat_length len_Write, List.length_take, List.length_drop, hzl21, show (e_Write p_x).length = 3 from rfl]; omega) (one_Write p_x) ?_)
      intro w26 hB27 hO28
      have hO28z := hO28.size
      refine SeqR.done ?_
      refine tn ?_
      refine CW.seq ?_
      refine CW.drawsI 8 (vgetI [DetI (.slice (some ⟨w.heap.size, 0, none⟩) (p_s.length + 1) c16), DetI (.int .i64 ((p_i : Int))), DetI (.int .i64 (1)), DetI (.int .i64 (((p_i + 1 : Nat) : Int))), DetI (.slice (some ⟨w.heap.size, (p_i + 1) * 3, none⟩) ((p_s.length + 1) - (p_i + 1)) (c16 - (p_i + 1))), DetI (.slice A1 p_s.length c1), DetI (.int .i64 ((p_i : Int))), DetI (.slice (some ⟨g15, p_i * 3, none⟩) (p_s.length - p_i) (c1 - p_i))]) Tryz.follows rfl rfl rfl rfl rfl rfl (vgetI_stable ⟨StableI.det _, StableI.det _, StableI.det _, StableI.det _, StableI.det _, StableI.det _, StableI.det _, StableI.det _, trivial⟩) ⟨?_, ?_, ?_, ?_, ?_, ?_, ?_, ?_, trivial⟩ ?_
      · intro L29 w30 hi31
        have hE32 := hi31.ex
        have hE32z := Ex.size hE32
        have hx33 := hi31.old 9 _ rfl rfl
        exact OpR.op' rfl (Yl.sameI (yM rfl hx33 ⟨fun _ _ => rfl, rfl⟩))
      · intro L34 w35 hi36
        have hE37 := hi36.ex
        have hE37z := Ex.size hE37
        have hx38 := hi36.old 1 _ rfl rfl
        exact OpR.op' rfl (Yl.sameI (yM rfl hx38 ⟨fun _ _ => rfl, rfl⟩))
      · intro L39 w40 hi41
        have hE42 := hi41.ex
        have hE42z := Ex.size hE42
        have hx43 := hi41.old 7 _ rfl rfl
        exact OpR.op' rfl (Yl.sameI (yM rfl hx43 ⟨fun _ _ => rfl, rfl⟩))
      · intro L44 w45 hi46
        have hE47 := hi46.ex
        have hE47z := Ex.size hE47
        obtain ⟨_, _, _, hx48, -, -, -, rfl⟩ := hi46.dep 1 47 rfl rfl
        obtain ⟨_, _, _, hx49, -, -, -, rfl⟩ := hi46.dep 2 48 rfl rfl
        exact OpR.op' rfl (Yl.sameI (yl_inc rfl hx48 hx49 oM ⟨fun _ _ => rfl, rfl⟩))
      · intro L50 w51 hi52
        have hE53 := hi52.ex
        have hE53z := Ex.size hE53
        obtain ⟨_, _, _, hx54, -, -, -, rfl⟩ := hi52.dep 0 46 rfl rfl
        obtain ⟨_, _, _, hx55, -, -, -, rfl⟩ := hi52.dep 3 49 rfl rfl
        exact OpR.op' rfl (Yl.sameI (yl_sliceR (kh := .i64) (A' := (some ⟨w.heap.size, (p_i + 1) * 3, none⟩)) (m := ((p_s.length + 1) - (p_i + 1))) (c' := (c16 - (p_i + 1))) (l := (p_i + 1)) (h := (p_s.length + 1)) un34 ty80 rfl hx54 (Or.inr ⟨_, rfl, hx55⟩) (Or.inl ⟨rfl, rfl⟩) oM oM ⟨sl_at oM, rfl, rfl⟩ ⟨fun _ _ => rfl, rfl⟩))
      · intro L56 w57 hi58
        have hE59 := hi58.ex
        have hE59z := Ex.size hE59
        have hx60 := hi58.old 0 _ rfl rfl
        exact OpR.op' rfl (Yl.sameI (yM rfl hx60 ⟨fun _ _ => rfl, rfl⟩))
      · intro L61 w62 hi63
        have hE64 := hi63.ex
        have hE64z := Ex.size hE64
        have hx65 := hi63.old 1 _ rfl rfl
        exact OpR.op' rfl (Yl.sameI (yM rfl hx65 ⟨fun _ _ => rfl, rfl⟩))
      · intro L66 w67 hi68
        have hE69 := hi68.ex
        have hE69z := Ex.size hE69
        obtain ⟨_, _, _, hx70, -, -, -, rfl⟩ := hi68.dep 5 51 rfl rfl
        obtain ⟨_, _, _, hx71, -, -, -, rfl⟩ := hi68.dep 6 52 rfl rfl
        exact OpR.op' rfl (Yl.sameI (yl_sliceR (kh := .i64) (A' := (some ⟨g15, p_i * 3, none⟩)) (m := (p_s.length - p_i)) (c' := (c1 - p_i)) (l := p_i) (h := p_s.length) un34 ty80 rfl hx70 (Or.inr ⟨_, rfl, hx71⟩) (Or.inl ⟨rfl, rfl⟩) oM oM ⟨by rw [hA15]; exact sl_at oM, rfl, rfl⟩ ⟨fun _ _ => rfl, rfl⟩))
      · intro fl75 fh76 L72 w73 hp74
        have hE77 := hp74.ex
        have hE77z := Ex.size hE77
        have hx78 := hp74.old 9 _ rfl rfl
        obtain ⟨_, hx79, rfl⟩ := hp74.new 4 50 rfl rfl
        obtain ⟨_, hx80, rfl⟩ := hp74.new 7 53 rfl rfl
        have q81 := Box.ex hB15 hE23
        have q82 := Box.only q81 hO28 oM
        have q83 := Box.ex q82 hE77
        have q84 := Box.ex hB27 hE77
        refine SeqR.d1 rfl rfl rfl (yl_copyB (m := (p_s.length - p_i)) (cs := ((p_s.drop p_i).flatMap e_Write)) (cur := (splice (((p_s.take p_i).flatMap e_Write) ++ zs17) (p_i * 3) (e_Write p_x))) un34 ty80 rfl hx79 hx80 q84 (Box.flatDrop len_Write q83 pre0) (by rw [flat_length len_Write, List.length_drop]) (by show min _ _ = _; omega) (by rw [splice_length (by simp only [List.length_append, flat_length len_Write, List.length_take, List.length_drop, hzl21, show (e_Write p_x).length = 3 from rfl]; omega)]; simp only [List.length_append, flat_length len_Write, List.length_take, List.length_drop, hzl21, show (e_Write p_x).length = 3 from rfl]; omega) (flat_one one_Write _) ?_)
        intro w85 hB86 hO87
        have hO87z := hO87.size
        have hO88 : OwnL w85 w.heap.size (w.heap.size + 1) 80 3 (RF e_Write) (some ⟨w.heap.size, 0, none⟩) (p_s.length + 1) c16 (insWrite p_s p_i p_x) := ins_grow len_Write hB86 hzl21 pre0 hcl19 hcm20 pre1
        refine SeqR.done ?_
        refine tn ?_
        refine CW.sub (sC 9 hx78 (Sub.nil _)) ?_
        refine CW.seq ?_
        refine CW.region ?_
        refine SeqR.d1 rfl rfl rfl (yM rfl rfl ?_)
        refine SeqR.d1 rfl rfl rfl (yA rfl rfl ?_)
        refine SeqR.done ?_
        refine tn ?_
        refine CW.ret ?_
        refine tr ?_
        refine rr rfl (.cons rfl .nil) ?_
        have hM89 : (insWrite p_s p_i p_x) = (insWrite p_s p_i p_x) := rfl
        have hfx90 := (hO88).1
        rw [hM89]
        have q91 := Mut.ex (Mut.refl (l := [(lo1, hi1)]) w) hE23
        have q92 := Mut.new q91 hO28 (by simp only [InR, or_false]; omega)
        have q93 := Mut.ex q92 hE77
        have q94 := Mut.new q93 hO87 (by simp only [InR, or_false]; omega)
        exact ⟨(some ⟨w.heap.size, 0, none⟩), c16, w.heap.size, (w.heap.size + 1), (by first | rfl | (simp only [List.length_replicate, List.length_set]; done) | (simp only [List.length_replicate, List.length_set]; rfl) | (rw [hfx90] <;> rfl)), (OwnL.fix hO88), oM, q94⟩
    · have hb14p := dec_f hb14
      refine CW.cond_f rfl hb14 ?_
      refine CW.skip ?_
      refine tn ?_
      refine CW.seq ?_
      refine CW.region ?_
      refine SeqR.d1 rfl rfl rfl (yM rfl rfl ?_)
      refine SeqR.d1 rfl rfl rfl (yM rfl rfl ?_)
      refine SeqR.d1 rfl rfl rfl (yM rfl rfl ?_)
      refine SeqR.d1 rfl rfl rfl (yl_inc rfl rfl rfl oM ?_)
      obtain ⟨g95, r95, hA95, hg95, hl95, hh95, hB95, hr95, hnc95, hcm95, hn95, hb95⟩ := OwnL.flatBox (enc := e_Write) h1 oM
      refine SeqR.d1 rfl rfl rfl (yl_sliceR (kl := .i64) (A' := (some ⟨g95, 0, none⟩)) (m := (p_s.length + 1)) (c' := c1) (l := 0) (h := (p_s.length + 1)) un34 ty80 rfl rfl (Or.inl ⟨rfl, rfl⟩) (Or.inr ⟨_, rfl, rfl⟩) oM oM ⟨by rw [hA95]; exact sl_zero _ _ _ _, rfl, rfl⟩ ?_)
      refine SeqR.d1 rfl rfl rfl (yA rfl rfl ?_)
      refine SeqR.done ?_
      refine tn ?_
      refine CW.seq ?_
      refine CW.seq ?_
      refine CW.region ?_
      refine SeqR.d1 rfl rfl rfl (yM rfl rfl ?_)
      refine SeqR.d1 rfl rfl rfl (yM rfl rfl ?_)
      refine SeqR.d1 rfl rfl rfl (yM rfl rfl ?_)
      refine SeqR.d1 rfl rfl rfl (yM rfl rfl ?_)
      refine SeqR.d1 rfl rfl rfl (yl_inc rfl rfl rfl oM ?_)
      refine SeqR.d1 rfl rfl rfl (yl_sliceR (kh := .i64) (A' := (some ⟨g95, (p_i + 1) * 3, none⟩)) (m := ((p_s.length + 1) - (p_i + 1))) (c' := (c1 - (p_i + 1))) (l := (p_i + 1)) (h := (p_s.length + 1)) un34 ty80 rfl rfl (Or.inr ⟨_, rfl, rfl⟩) (Or.inl ⟨rfl, rfl⟩) oM oM ⟨sl_at oM, rfl, rfl⟩ ?_)
      refine SeqR.d1 rfl rfl rfl (yl_overlaps Tryz.ex208 un34 ty80 rfl (opvs_cons rfl (opvs_cons rfl opvs_nil)) oM h2 hB95 (by rw [List.length_append, flat_length len_Write]; omega) ?_)
      refine SeqR.d1 rfl rfl rfl (yl_not rfl rfl ?_)
      refine SeqR.done ?_
      refine tn ?_
      refine CW.cond_t rfl (not_f rfl) ?_
      refine CW.seq ?_
      refine CW.drawsI 8 (vgetI [DetI (.slice (some ⟨g95, 0, none⟩) (p_s.length + 1) c1), DetI (.int .i64 ((p_i : Int))), DetI (.int .i64 (1)), DetI (.int .i64 (((p_i + 1 : Nat) : Int))), DetI (.slice (some ⟨g95, (p_i + 1) * 3, none⟩) ((p_s.length + 1) - (p_i + 1)) (c1 - (p_i + 1))), DetI (.slice (some ⟨g95, 0, none⟩) (p_s.length + 1) c1), DetI (.int .i64 ((p_i : Int))), DetI (.slice (some ⟨g95, p_i * 3, none⟩) ((p_s.length + 1) - p_i) (c1 - p_i))]) Tryz.follows rfl rfl rfl rfl rfl rfl (vgetI_stable ⟨StableI.det _, StableI.det _, StableI.det _, StableI.det _, StableI.det _, StableI.det _, StableI.det _, StableI.det _, trivial⟩) ⟨?_, ?_, ?_, ?_, ?_, ?_, ?_, ?_, trivial⟩ ?_
      · intro L96 w97 hi98
        have hE99 := hi98.ex
        have hE99z := Ex.size hE99
        have hx100 := hi98.old 0 _ rfl rfl
        exact OpR.op' rfl (Yl.sameI (yM rfl hx100 ⟨fun _ _ => rfl, rfl⟩))
      · intro L101 w102 hi103
        have hE104 := hi103.ex
        have hE104z := Ex.size hE104
        have hx105 := hi103.old 1 _ rfl rfl
        exact OpR.op' rfl (Yl.sameI (yM rfl hx105 ⟨fun _ _ => rfl, rfl⟩))
      · intro L106 w107 hi108
        have hE109 := hi108.ex
        have hE109z := Ex.size hE109
        have hx110 := hi108.old 7 _ rfl rfl
        exact OpR.op' rfl (Yl.sameI (yM rfl hx110 ⟨fun _ _ => rfl, rfl⟩))
      · intro L111 w112 hi113
        have hE114 := hi113.ex
        have hE114z := Ex.size hE114
        obtain ⟨_, _, _, hx115, -, -, -, rfl⟩ := hi113.dep 1 70 rfl rfl
        obtain ⟨_, _, _, hx116, -, -, -, rfl⟩ := hi113.dep 2 71 rfl rfl
        exact OpR.op' rfl (Yl.sameI (yl_inc rfl hx115 hx116 oM ⟨fun _ _ => rfl, rfl⟩))
      · intro L117 w118 hi119
        have hE120 := hi119.ex
        have hE120z := Ex.size hE120
        obtain ⟨_, _, _, hx121, -, -, -, rfl⟩ := hi119.dep 0 69 rfl rfl
        obtain ⟨_, _, _, hx122, -, -, -, rfl⟩ := hi119.dep 3 72 rfl rfl
        exact OpR.op' rfl (Yl.sameI (yl_sliceR (kh := .i64) (A' := (some ⟨g95, (p_i + 1) * 3, none⟩)) (m := ((p_s.length + 1) - (p_i + 1))) (c' := (c1 - (p_i + 1))) (l := (p_i + 1)) (h := (p_s.length + 1)) un34 ty80 rfl hx121 (Or.inr ⟨_, rfl, hx122⟩) (Or.inl ⟨rfl, rfl⟩) oM oM ⟨sl_at oM, rfl, rfl⟩ ⟨fun _ _ => rfl, rfl⟩))
      · intro L123 w124 hi125
        have hE126 := hi125.ex
        have hE126z := Ex.size hE126
        have hx127 := hi125.old 0 _ rfl rfl
        exact OpR.op' rfl (Yl.sameI (yM rfl hx127 ⟨fun _ _ => rfl, rfl⟩))
      · intro L128 w129 hi130
        have hE131 := hi130.ex
        have hE131z := Ex.size hE131
        have hx132 := hi130.old 1 _ rfl rfl
        exact OpR.op' rfl (Yl.sameI (yM rfl hx132 ⟨fun _ _ => rfl, rfl⟩))
      · intro L133 w134 hi135
        have hE136 := hi135.ex
        have hE136z := Ex.size hE136
        obtain ⟨_, _, _, hx137, -, -, -, rfl⟩ := hi135.dep 5 74 rfl rfl
        obtain ⟨_, _, _, hx138, -, -, -, rfl⟩ := hi135.dep 6 75 rfl rfl
        exact OpR.op' rfl (Yl.sameI (yl_sliceR (kh := .i64) (A' := (some ⟨g95, p_i * 3, none⟩)) (m := ((p_s.length + 1) - p_i)) (c' := (c1 - p_i)) (l := p_i) (h := (p_s.length + 1)) un34 ty80 rfl hx137 (Or.inr ⟨_, rfl, hx138⟩) (Or.inl ⟨rfl, rfl⟩) oM oM ⟨sl_at oM, rfl, rfl⟩ ⟨fun _ _ => rfl, rfl⟩))
      · intro fl142 fh143 L139 w140 hp141
        have hE144 := hp141.ex
        have hE144z := Ex.size hE144
        have hx145 := hp141.old 0 _ rfl rfl
        have hx146 := hp141.old 1 _ rfl rfl
        have hx147 := hp141.old 2 _ rfl rfl
        obtain ⟨_, hx148, rfl⟩ := hp141.new 4 73 rfl rfl
        obtain ⟨_, hx149, rfl⟩ := hp141.new 7 76 rfl rfl
        have q150 := Box.ex hB95 hE144
        refine SeqR.d1 rfl rfl rfl (yl_copyB (m := (p_s.length - p_i)) (cs := ((p_s.drop p_i).flatMap e_Write)) (cur := (p_s.flatMap e_Write ++ r95)) un34 ty80 rfl hx148 hx149 q150 (Box.flatDrop len_Write q150 pre0) (by rw [flat_length len_Write, List.length_drop]) (by show min _ _ = _; omega) (by simp only [List.length_append, flat_length len_Write, List.length_take, List.length_drop, hr95, show (e_Write p_x).length = 3 from rfl]; omega) (flat_one one_Write _) ?_)
        intro w151 hB152 hO153
        have hO153z := hO153.size
        refine SeqR.done ?_
        refine tn ?_
        refine CW.sub (sC 0 hx145 (sC 1 hx146 (sC 2 hx147 (Sub.nil _)))) ?_
        refine CW.seq ?_
        refine CW.region ?_
        refine SeqR.d1 rfl rfl rfl (yM rfl rfl ?_)
        refine SeqR.d1 rfl rfl rfl (yM rfl rfl ?_)
        refine SeqR.d1 rfl rfl rfl (yl_sliceR (kh := .i64) (A' := (some ⟨g95, p_i * 3, none⟩)) (m := ((p_s.length + 1) - p_i)) (c' := (c1 - p_i)) (l := p_i) (h := (p_s.length + 1)) un34 ty80 rfl rfl (Or.inr ⟨_, rfl, rfl⟩) (Or.inl ⟨rfl, rfl⟩) oM oM ⟨sl_at oM, rfl, rfl⟩ ?_)
        refine SeqR.d1 rfl rfl rfl (yM rfl rfl ?_)
        have q154 := Box.ex h2 hE144
        have q155 := Box.only q154 hO153 oM
        refine SeqR.d1 rfl rfl rfl (yl_copyB (m := 1) (cs := (e_Write p_x)) (cur := (splice (p_s.flatMap e_Write ++ r95) ((p_i + 1) * 3) ((p_s.drop p_i).flatMap e_Write))) un34 ty80 rfl rfl rfl hB152 (q155.cells (o := 0) (n := 3) rfl) (rfl) (by show min _ _ = _; omega) (by rw [splice_length (by simp only [List.length_append, flat_length len_Write, List.length_take, List.length_drop, hr95, show (e_Write p_x).length = 3 from rfl]; omega)]; simp only [List.length_append, flat_length len_Write, List.length_take, List.length_drop, hr95, show (e_Write p_x).length = 3 from rfl]; omega) (one_Write p_x) ?_)
        intro w156 hB157 hO158
        have hO158z := hO158.size
        have hO159 : OwnL w156 lo1 hi1 80 3 (RF e_Write) (some ⟨g95, 0, none⟩) (p_s.length + 1) c1 (insWrite p_s p_i p_x) := ins_shift len_Write hB157 hr95 pre0 oM hcm95 pre1 ⟨hl95, hh95⟩
        refine SeqR.done ?_
        refine tn ?_
        refine CW.seq ?_
        refine CW.region ?_
        refine SeqR.d1 rfl rfl rfl (yM rfl rfl ?_)
        refine SeqR.d1 rfl rfl rfl (yA rfl rfl ?_)
        refine SeqR.done ?_
        refine tn ?_
        refine CW.ret ?_
        refine tr ?_
        refine rr rfl (.cons rfl .nil) ?_
        have hM160 : (insWrite p_s p_i p_x) = (insWrite p_s p_i p_x) := rfl
        have hfx161 := (hO159).1
        rw [hM160]
        have q162 := Mut.ex (Mut.refl (l := [(lo1, hi1)]) w) hE144
        have q163 := Mut.new q162 hO153 (by simp only [InR, or_false]; omega)
        have q164 := Mut.new q163 hO158 (by simp only [InR, or_false]; omega)
        exact ⟨(some ⟨g95, 0, none⟩), c1, lo1, hi1, (by first | rfl | (simp only [List.length_replicate, List.length_set]; done) | (simp only [List.length_replicate, List.length_set]; rfl) | (rw [hfx161] <;> rfl)), (OwnL.fix hO159), oM, q164⟩
theorem c_g_slices_Insert_Write {A1 : Option Addr} {c1 : Nat} {lo1 hi1 : Nat} {b2 : Nat} {w : World} (p_s : List DWrite) (p_i : Int) (p_x : DWrite) (h1 : OwnL w lo1 hi1 80 3 (RF e_Write) A1 p_s.length c1 p_s) (h2 : Box w b2 80 [.string (bs (p_x.Key)), .string (bs (p_x.Val)), .bool (p_x.Gone)]) (hap : b2 < lo1 ∨ hi1 ≤ b2) (hrn3 : (0 ≤ lo1 ∧ lo1 ≤ hi1 ∧ hi1 ≤ w.heap.size)) (o1 : (okL ok_Write) p_s) (o2 : ok_Write p_x) (pre0 : (0 ≤ p_i ∧ p_i ≤ (p_s.length : Int))) (pre1 : p_s.length ≤ 1000000) : Cal Tryz.prog 182 #[.slice A1 p_s.length c1, .int .i64 (p_i), .slice (some ⟨b2, 0, none⟩) 1 1] w fun v w' => ∃ A_1 c_1 lo_1 hi_1, v = .slice A_1 ((g_slices_Insert_Write p_s p_i p_x).length) c_1 ∧ OwnL w' lo_1 hi_1 80 3 (RF e_Write) A_1 ((g_slices_Insert_Write p_s p_i p_x).length) c_1 (g_slices_Insert_Write p_s p_i p_x) ∧ (okL ok_Write) (g_slices_Insert_Write p_s p_i p_x) ∧ ((lo_1 = lo1 ∧ hi_1 = hi1) ∨ (w.heap.size ≤ lo_1 ∧ lo_1 ≤ hi_1 ∧ hi_1 ≤ w'.heap.size)) ∧ Mut [(lo1, hi1)] w w' := by
  obtain ⟨j, rfl⟩ : ∃ j : Nat, p_i = (j : Int) := ⟨p_i.toNat, by omega⟩
  refine Cal.mono (c_insWrite p_s j p_x h1 h2 hrn3 hap oM pre1) ?_
  rintro v w' ⟨A_1, c_1, lo_1, hi_1, rfl, q1, q2, q3⟩
  have hl := ins_len p_s p_x (i := j) oM
  refine ⟨A_1, c_1, lo_1, hi_1, rfl, q1, ⟨?_, fun y hy => ?_⟩, q2, q3⟩
  · show (p_s.take j ++ p_x :: p_s.drop j).length ≤ _; omega
  · rcases List.mem_append.1 (show y ∈ p_s.take j ++ p_x :: p_s.drop j from hy) with hy | hy
    · exact o1.2 y (List.mem_of_mem_take hy)
    · rcases List.mem_cons.1 hy with rfl | hy
      · exact o2
      · exact o1.2 y (List.mem_of_mem_drop hy)
theorem c_i_putWrite {A1 : Option Addr} {c1 : Nat} {lo1 hi1 : Nat} {w : World} (p_l : List DWrite) (p_w : DWrite) (h1 : OwnL w lo1 hi1 80 3 (RF e_Write) A1 p_l.length c1 p_l) (hrn4 : (0 ≤ lo1 ∧ lo1 ≤ hi1 ∧ hi1 ≤ w.heap.size)) (o2 : (okL ok_Write) p_l) (o3 : ok_Write p_w) (pre0 : p_l.length ≤ 1000000) : Cal Tryz.prog 134 #[.slice A1 p_l.length c1, .agg #[.string (bs (p_w.Key)), .string (bs (p_w.Val)), .bool (p_w.Gone)]] w fun v w' => ∃ A_1 c_1 lo_1 hi_1, v = .slice A_1 ((i_putWrite p_l p_w).length) c_1 ∧ OwnL w' lo_1 hi_1 80 3 (RF e_Write) A_1 ((i_putWrite p_l p_w).length) c_1 (i_putWrite p_l p_w) ∧ (okL ok_Write) (i_putWrite p_l p_w) ∧ ((lo_1 = lo1 ∧ hi_1 = hi1) ∨ (w.heap.size ≤ lo_1 ∧ lo_1 ≤ hi_1 ∧ hi_1 ≤ w'.heap.size)) ∧ Mut [(lo1, hi1)] w w' := by
 have hol5 := o2.1
 have hol6 : p_w.Key.length ≤ 1073741824 := o3.1
 have hol7 : p_w.Val.length ≤ 1073741824 := o3.2
 refine Cal.of func134 rfl ntmps134 rfl (cR (sd rfl (yl_box rfl rfl rfl ?_)))
 intro b8 w9 hs10 hz11 hB12 hE13
 refine sA rfl (dn (cR (sM rfl (sd rfl (yl_fieldAddr fd80_0 rfl rfl (sd rfl (yl_load1 ty9 rfl rfl ((hB12.cell 0).trans rfl) ?_)))))))
 have q15 := OwnL.ex gW h1 hE13
 refine sd rfl (yC en181 rfl (oc rfl (oc rfl oz)) (Cal.mono (c_i_findWrite p_l p_w.Key (RdS.up (OwnL.rd gW q15) gW) o2 o3.1) ?_))
 rintro v17 w16 ⟨rfl, hE18⟩
 have hE18z := Ex.size hE18
 have hrf19 := rf_findWrite0 p_l p_w.Key oM
 refine sM rfl (sd rfl (yl_extract rfl rfl rfl (sd rfl (yl_extract rfl rfl rfl (sA rfl (sA rfl (dn (CW.seq (CW.seq ?_)))))))))
 refine CW.region (sM rfl (dn (bcase ((i_findWrite p_l p_w.Key).2) (fun hb20 => ?_) (fun hb20 => ?_))))
 ·have hb20p := (fun h => f_findWrite h oM) hb20
  refine CW.cond_t rfl hb20 (cR (sM rfl (sM rfl (sd rfl (yl_loadN ty80 rfl rfl ((Box.ex hB12 hE18).cells (n := 3) rfl) rfl ?_)))))
  have q23 := OwnL.ex gW q15 hE18
  obtain ⟨eb24, eo24, _, eA24, _, ebl24, _, eR24, _⟩ := RdS.atD (OwnL.rd gW q23) d_Write (i := ((i_findWrite p_l p_w.Key).1).toNat) Bo
  obtain rfl := eR24
  refine sd rfl (yl_indexAddr un34 ty80 rfl rfl rfl eA24 Bo Bo ?_)
  have hrg25 := OwnL.rng q23 (i := ((i_findWrite p_l p_w.Key).1).toNat) Bo eb24 (by rw [eA24]; rfl)
  refine SeqR.u rfl rfl (yl_storeF (off := eo24) (i := ((i_findWrite p_l p_w.Key).1).toNat) (d := 0) (dx := d_Write) (x' := p_w) (vs := [.string (bs (p_w.Key)), .string (bs (p_w.Val)), .bool (p_w.Gone)]) ty80 rfl q23 eA24 rfl rfl rfl rfl rfl Bo (nb rfl) rfl rfl ?_)
  intro w26 hB27 hO28
  have hO28z := hO28.size
  refine dn (cR (sM rfl (sA rfl (dn (CW.ret ?_)))))
  refine tr (rr rfl (.cons rfl .nil) ?_)
  have hfx30 := (hB27).1
  have hol31 : p_l.length ≤ 2147483648 := o2.1
  rw [show (i_putWrite p_l p_w) = ((p_l.set (((i_findWrite p_l p_w.Key).1).toNat) p_w)) by simp only [i_putWrite, hb20, cL]]
  exact ⟨A1, c1, lo1, hi1, (by first | rfl | (simp only [List.length_replicate, List.length_set]; done) | (simp only [List.length_replicate, List.length_set]; rfl) | (rw [hfx30] <;> rfl)), (OwnL.fix hB27), (okL.mk (xs := (p_l.set (((i_findWrite p_l p_w.Key).1).toNat) p_w)) Bl (okE.set (o2).2 o3)), oM, (Mut.new (Mut.ex (Mut.ex (Mut.refl (l := [(lo1, hi1)]) w) hE13) hE18) hO28 (by simp only [InR, or_false]; omega))⟩
 ·refine CW.cond_f rfl hb20 (CW.skip (tn (cR (sM rfl (sM rfl (sd rfl (yl_loadN ty80 rfl rfl ((Box.ex hB12 hE18).cells (n := 3) rfl) rfl (sd rfl (yl_buildSlice (cs := [.string (bs (p_w.Key)), .string (bs (p_w.Val)), .bool (p_w.Gone)]) un34 ty80 (by decide) rfl (oc rfl oz) (by kernel_rfl) ?_)))))))))
  intro b36 w37 hs38 hz39 hB40 hE41
  have hO42 : OwnL w37 b36 (b36 + 1) 80 3 (RF e_Write) (some ⟨b36, 0, none⟩) 1 1 ([p_w] : List DWrite) := OwnL.of_box (S := fun _ => False) hB40 (Nat.le_refl _) (Nat.lt_succ_self _) (EncL.cons (c := [.string (bs (p_w.Key)), .string (bs (p_w.Val)), .bool (p_w.Gone)]) rfl rfl EncL.nil) (nb rfl) (fun h => h) (fun _ h => False.elim h)
  refine sd rfl (yC en182 rfl (oc rfl (oc rfl (oc rfl oz))) (Cal.mono (c_g_slices_Insert_Write p_l ((i_findWrite p_l p_w.Key).1) p_w (OwnL.ex gW (OwnL.ex gW q15 hE18) hE41) hB40 oM oM o2 o3 Bo Bo) ?_))
  rintro v48 w45 ⟨A46, c46, lo46, hi46, rfl, h46, ho47, hdj50, hm49⟩
  have hm49z := Mut.size hm49
  refine sA rfl (dn (CW.ret (rr rfl (.cons rfl .nil) ?_)))
  rw [show (i_putWrite p_l p_w) = ((g_slices_Insert_Write p_l ((i_findWrite p_l p_w.Key).1) p_w)) by simp only [i_putWrite, hb20, cL]]
  exact ⟨A46, c46, lo46, hi46, rfl, h46, ho47, oM, (Mut.mut (Mut.ex (Mut.ex (Mut.ex (Mut.refl (l := [(lo1, hi1)]) w) hE13) hE18) hE41) hm49 (fun k hk => by simp only [InR, or_false] at hk ⊢; omega))⟩
theorem c_i_current {A2 : Option Addr} {c2 : Nat} {A4 : Option Addr} {c4 : Nat} {w : World} (p_key : Str) (p_writes : List DWrite) (p_got : List DGot) (h2 : RdS w (Iv 0 w.heap.size) (RF e_Write) 3 A2 p_writes.length c2 p_writes) (h4 : RdS w (Iv 0 w.heap.size) (RF e_Got) 3 A4 p_got.length c4 p_got) (o1 : okS p_key) (o3 : (okL ok_Write) p_writes) (o5 : (okL ok_Got) p_got) : Cal Tryz.prog 177 #[.string (bs (p_key)), .slice A2 p_writes.length c2, .slice A4 p_got.length c4] w fun v w' => v = .tuple #[.string (bs ((i_current p_key p_writes p_got).1)), .bool ((i_current p_key p_writes p_got).2.1), .bool ((i_current p_key p_writes p_got).2.2)] ∧ okS ((i_current p_key p_writes p_got).1) ∧ Ex w w' := by
 have hol6 : p_key.length ≤ 1073741824 := o1
 have hol7 := o3.1
 have hol8 := o5.1
 refine Cal.of func177 rfl ntmps177 rfl (cR (sA rfl (sA rfl (sA rfl (dn (CW.seq ?_))))))
 refine cR (sM rfl (sM rfl (sd rfl (yC en181 rfl (oc rfl (oc rfl oz)) (Cal.mono (c_i_findWrite p_writes p_key (RdS.up h2 gW) o3 o1) ?_)))))
 rintro v10 w9 ⟨rfl, hE11⟩
 have hE11z := Ex.size hE11
 have hrf12 := rf_findWrite0 p_writes p_key oM
 refine sM rfl (sd rfl (yl_extract rfl rfl rfl (sd rfl (yl_extract rfl rfl rfl (sA rfl (sA rfl (dn (cR ?_))))))))
 refine sM rfl (dn (bcase ((i_findWrite p_writes p_key).2) (fun hb13 => ?_) (fun hb13 => ?_)))
 ·have hb13p := (fun h => f_findWrite h oM) hb13
  refine CW.cond_t rfl hb13 (CW.seq ?_)
  obtain ⟨eb15, eo15, _, eA15, _, ebl15, _, eR15, eC15⟩ := RdS.atD (RdS.ex gW h2 hE11) d_Write (i := ((i_findWrite p_writes p_key).1).toNat) Bo
  obtain rfl := eR15
  refine drJ 14 [.slice A2 p_writes.length c2, .int .i64 ((i_findWrite p_writes p_key).1), .pointer (some ⟨eb15, eo15 + (((i_findWrite p_writes p_key).1).toNat) * 3, none⟩), .pointer (some ⟨eb15, eo15 + (((i_findWrite p_writes p_key).1).toNat) * 3 + 1, none⟩), .string (bs ((p_writes.getD (((i_findWrite p_writes p_key).1).toNat) d_Write).Val)), .slice A2 p_writes.length c2, .int .i64 ((i_findWrite p_writes p_key).1), .pointer (some ⟨eb15, eo15 + (((i_findWrite p_writes p_key).1).toNat) * 3, none⟩), .pointer (some ⟨eb15, eo15 + (((i_findWrite p_writes p_key).1).toNat) * 3 + 2, none⟩), .bool ((p_writes.getD (((i_findWrite p_writes p_key).1).toNat) d_Write).Gone), .bool (!((p_writes.getD (((i_findWrite p_writes p_key).1).toNat) d_Write).Gone)), .string (bs ((p_writes.getD (((i_findWrite p_writes p_key).1).toNat) d_Write).Val)), .bool (!((p_writes.getD (((i_findWrite p_writes p_key).1).toNat) d_Write).Gone)), .bool (true)] Tryz.follows rfl ⟨oI rfl fun h => yM rfl (h.g 1 rfl) kI, oI rfl fun h => yM rfl (h.g 9 rfl) kI, ?_, oI rfl fun h => yl_fieldAddr fd80_1 rfl (h.g 22 rfl) kI, oI rfl fun h => yl_load1 ty9 rfl (h.g 23 rfl) ((Cells.ex eC15 h.ex) 1 _ rfl) kI, oI rfl fun h => yM rfl (h.g 1 rfl) kI, oI rfl fun h => yM rfl (h.g 9 rfl) kI, ?_, oI rfl fun h => yl_fieldAddr fd80_2 rfl (h.g 27 rfl) kI, oI rfl fun h => yl_load1 ty4 rfl (h.g 28 rfl) ((Cells.ex eC15 h.ex) 2 _ rfl) kI, oI rfl fun h => yl_not rfl (h.g 29 rfl) kI, oI rfl fun h => yA rfl (h.g 24 rfl) kI, oI rfl fun h => yA rfl (h.g 30 rfl) kI, oI rfl fun _ => yA rfl rfl kI, trivial⟩ ?_
  ·intro L26 w27 hi28
   have hE29 := hi28.ex
   have hE29z := Ex.size hE29
   exact os rfl ((yl_indexAddr un34 ty80 rfl (hi28.g 20 rfl) (hi28.g 21 rfl) eA15 Bo Bo kI))
  ·intro L53 w54 hi55
   have hE56 := hi55.ex
   have hE56z := Ex.size hE56
   exact os rfl ((yl_indexAddr un34 ty80 rfl (hi55.g 25 rfl) (hi55.g 26 rfl) eA15 Bo Bo kI))
  ·intro fl92 fh93 L89 w90 hp91
   have hE94 := hp91.ex
   have hE94z := Ex.size hE94
   refine dn (CW.sub (hp91.ss [6, 7, 8] rfl) (CW.ret (tr (rr rfl (.cons rfl (.cons rfl (.cons rfl .nil))) ?_))))
   rw [show (i_current p_key p_writes p_got) = (((p_writes.getD (((i_findWrite p_writes p_key).1).toNat) d_Write).Val, !((p_writes.getD (((i_findWrite p_writes p_key).1).toNat) d_Write).Gone), true)) by simp only [i_current, hb13, cL]]
   exact ⟨rfl, (okL.getD o3 ok_d_Write _).2, (Ex.trans (Ex.trans (Ex.refl w) hE11) hE94)⟩
 ·refine CW.cond_f rfl hb13 (CW.skip (tn (CW.seq (cR (sM rfl (sd rfl (yL un117 rfl rfl (sM rfl ?_))))))))
  refine dn (CW.block (CW.loop (fun m113 L114 w115 => ∃ (k101 : Nat), m113 = p_got.length - k101 ∧ k101 ≤ p_got.length ∧ w9.heap.size ≤ w115.heap.size ∧ Sub [(0, .string (bs (p_key))), (31, .slice A4 p_got.length c4), (32, .int .i64 ((p_got.length : Int))), (33, .int .i64 ((k101 : Int)))] L114 ∧ RdS w115 (Iv 0 w.heap.size) (RF e_Got) 3 A4 p_got.length c4 p_got ∧ Ex w w115 ∧ loopM (B_i_current_0 p_key p_writes p_got) (p_got.length - k101) k101 () = loopM (B_i_current_0 p_key p_writes p_got) (p_got.length - 0) 0 ()) (p_got.length - 0) ?_ ?_))
  ·exact ⟨0, rfl, oM, Nat.le_refl _, (sR rfl), (RdS.ex good_Got h4 hE11), (Ex.trans (Ex.refl w) hE11), rfl⟩
  ·rintro m118 L119 w120 ⟨k101, rfl, hk121, hsz123, hl124, hf125, hf126, hI122⟩
   refine CW.sub hl124 ?_
   have hf126z := Ex.size hf126
   have hbg127 := RdS.big hf125
   rcases Nat.lt_or_ge k101 p_got.length with hlt128 | hlt128
   ·refine cR (sd rfl (yl_lss rfl rfl rfl (dn (CW.seq (CW.cond_t rfl (lt_t hlt128) (CW.skip (tn ?_)))))))
    refine CW.seq (CW.block (cR ?_))
    obtain ⟨_, _, _, eA129, _, ebl129, _, eR129, eC129⟩ := RdS.aD hf125 d_Got (i := k101)
    obtain rfl := eR129
    refine sd rfl (yl_ixN un117 ty170 rfl rfl rfl eA129 (sd rfl (yl_loadN ty170 rfl rfl eC129 rfl (sd rfl (yB ty170 (cs := [.string (bs (([] : Str))), .string (bs (([] : Str))), .bool (false)]) rfl rfl ?_)))))
    intro b130 w131 hs132 hz133 hB134 hE135
    refine SeqR.u rfl rfl (yl_storeA (vs := [.string (bs ((p_got.getD k101 d_Got).Key)), .string (bs ((p_got.getD k101 d_Got).Val)), .bool ((p_got.getD k101 d_Got).There)]) ty170 rfl rfl rfl rfl rfl rfl hB134 rfl ?_)
    intro w136 hB137 hO138
    have hO138z := hO138.size
    refine dn (cR (sd rfl (yl_fieldAddr fd170_0 rfl rfl (sd rfl (yl_load1 ty9 rfl rfl ((hB137.cell 0).trans rfl) (sM rfl (sd rfl (yl_seql (a := ((p_got.getD k101 d_Got).Key)) (b := p_key) rfl rfl rfl (SeqR.done ?_)))))))))
    refine tn (bcase (((p_got.getD k101 d_Got).Key) == p_key) (fun hb139 => ?_) (fun hb139 => ?_))
    ·refine CW.cond_t rfl hb139 (CW.seq (drJ 7 [.pointer (some ⟨b130, 0 + 1, none⟩), .string (bs ((p_got.getD k101 d_Got).Val)), .pointer (some ⟨b130, 0 + 2, none⟩), .bool ((p_got.getD k101 d_Got).There), .string (bs ((p_got.getD k101 d_Got).Val)), .bool ((p_got.getD k101 d_Got).There), .bool (true)] Tryz.follows rfl ⟨?_, ?_, ?_, ?_, ?_, ?_, ?_, trivial⟩ ?_))
     ·exact oI rfl fun h => yl_fieldAddr fd170_1 rfl (h.g 12 rfl) kI
     ·exact oI rfl fun h => yl_load1 ty9 rfl (h.g 41 rfl) (((Box.ex hB137 h.ex).cell 1).trans rfl) kI
     ·exact oI rfl fun h => yl_fieldAddr fd170_2 rfl (h.g 12 rfl) kI
     ·exact oI rfl fun h => yl_load1 ty4 rfl (h.g 43 rfl) (((Box.ex hB137 h.ex).cell 2).trans rfl) kI
     ·exact oI rfl fun h => yA rfl (h.g 42 rfl) kI
     ·exact oI rfl fun h => yA rfl (h.g 44 rfl) kI
     ·exact oI rfl fun _ => yA rfl rfl kI
     ·intro fl179 fh180 L176 w177 hp178
      have hE181 := hp178.ex
      have hE181z := Ex.size hE181
      refine dn (CW.sub (hp178.ss [6, 7, 8] rfl) (CW.ret (br (tr (tr ?_)))))
      have hB186 : B_i_current_0 p_key p_writes p_got k101 () = .ret ((p_got.getD k101 d_Got).Val, (p_got.getD k101 d_Got).There, true) := by simp only [B_i_current_0, hb13, hb139, cL]
      have hL185 : loopM (B_i_current_0 p_key p_writes p_got) (p_got.length - 0) 0 () = .ret ((p_got.getD k101 d_Got).Val, (p_got.getD k101 d_Got).There, true) := hI122.symm.trans (loopM.ret hlt128 hB186)
      refine br (tr (rr rfl (.cons rfl (.cons rfl (.cons rfl .nil))) ?_))
      rw [show (i_current p_key p_writes p_got) = (((p_got.getD k101 d_Got).Val, (p_got.getD k101 d_Got).There, true)) by simp only [i_current, hb13, hb139, hL185, cL]]
      exact ⟨rfl, (okL.getD o5 ok_d_Got _).2, (Ex.trans (Below.only (Ex.trans hf126 hE135) hO138 oM) hE181)⟩
    ·refine CW.cond_f rfl hb139 (CW.skip (bn (tn (CW.region (sd rfl (yl_inc rfl rfl rfl oM (sM rfl (dn ?_))))))))
     have hB191 : B_i_current_0 p_key p_writes p_got k101 () = .cont () := by simp only [B_i_current_0, hb13, hb139, cL]
     exact ⟨p_got.length - (k101 + 1), oM, k101 + 1, rfl, hlt128, oM, (sR rfl), (RdS.only good_Got (RdS.ex good_Got hf125 hE135) hO138 iV), (Below.only (Ex.trans hf126 hE135) hO138 oM), (loopM.cont hlt128 hB191).symm.trans hI122⟩
   ·refine cR (sd rfl (yl_lss rfl rfl rfl (dn (CW.seq (CW.cond_f rfl (lt_f hlt128) (CW.exit (tx ?_)))))))
    refine tx ?_
    have hL196 : loopM (B_i_current_0 p_key p_writes p_got) (p_got.length - 0) 0 () = .done () := hI122.symm.trans (loopM.stop hlt128)
    refine bx (tn (cR (sA rfl (sA rfl (sA rfl (dn ?_))))))
    refine CW.ret (rr rfl (.cons rfl (.cons rfl (.cons rfl .nil))) ?_)
    rw [show (i_current p_key p_writes p_got) = ((([] : Str), false, false)) by simp only [i_current, hb13, hL196, cL]]
    exact ⟨rfl, (okS.lit rfl), hf126⟩
theorem c_i_Op_holds {w : World} (p_o : DOp) (p_val : Str) (p_there : Bool) (o1 : ok_Op p_o) (o2 : okS p_val) (hgb : GT 4 5 1 w) : Cal Tryz.prog 178 #[.agg #[.int .i64 (p_o.Kind), .string (bs (p_o.Key)), .string (bs (p_o.Val)), .int .i64 (p_o.By)], .string (bs (p_val)), .bool (p_there)] w fun v w' => v = .bool ((i_Op_holds p_o p_val p_there)) ∧ Ex w w' := by
 refine Cal.of func178 rfl ntmps178 rfl (cR (sd rfl (yl_box rfl rfl rfl ?_)))
 intro b6 w7 hs8 hz9 hB10 hE11
 refine sA rfl (dn (cR (sM rfl ?_)))
 have q12 := Ex.trans (Ex.refl w) hE11
 refine sd rfl (yC en179 rfl (oc rfl oz) (Cal.mono (c_i_NumberIn p_val o2 (hgb.ex q12)) ?_))
 rintro v14 w13 ⟨rfl, hE15⟩
 refine sM rfl (sd rfl (yl_extract rfl rfl rfl (sd rfl (yl_extract rfl rfl rfl (sA rfl (sA rfl (dn (CW.seq (CW.seq ?_)))))))))
 refine CW.region (sd rfl (yl_fieldAddr fd122_0 rfl rfl ?_))
 have q16 := Box.ex hB10 hE15
 refine sd rfl (yl_load1 ty3 rfl rfl ((q16.cell 0).trans rfl) (dn (CW.block (cR (sd rfl (yl_eql rfl rfl rfl (sA rfl (SeqR.done ?_))))))))
 refine tn (bcD (q := p_o.Kind = 4) (fun hb17 hb17p => ?_) (fun hb17 hb17p => ?_))
 ·refine CW.cond_t rfl hb17 (cR (sM rfl (sd rfl (yl_not rfl rfl (sM rfl (bcase (p_there) (fun hb18 => ?_) (fun hb18 => ?_)))))))
  ·refine sy rfl rfl (not_t hb18) (yM rfl rfl (sy rfl rfl (not_t hb18) (yM rfl rfl (bcase ((i_NumberIn p_val).2) (fun hb19 => ?_) (fun hb19 => ?_)))))
   ·refine sy rfl rfl hb19 (yM rfl rfl (sy rfl rfl hb19 (yl_fieldAddr fd122_3 rfl rfl (sy rfl rfl hb19 (yl_load1 ty3 rfl rfl ((q16.cell 3).trans rfl) (sy rfl rfl hb19 (yl_add rfl rfl rfl (sy rfl rfl hb19 (yC en96 rfl (oc rfl (oc rfl (oc rfl oz))) (Cal.mono (c_i_within (IntKind.wrap .i64 (((i_NumberIn p_val).1) + p_o.By)) (-999999) 999999) ?_))))))))))
    rintro v21 w20 ⟨rfl, hE22⟩
    refine sy rfl rfl (not_t hb18) (yl_pick_t rfl rfl hb19 rfl (sd rfl (yl_pick_f rfl rfl (not_t hb18) rfl (sA rfl (dn (CW.ret (br (tr (rr rfl (.cons rfl .nil) ?_)))))))))
    rw [show (i_Op_holds p_o p_val p_there) = ((i_within (IntKind.wrap .i64 (((i_NumberIn p_val).1) + p_o.By)) (-999999) 999999)) by simp only [i_Op_holds, hb17, hb18, hb19, cL]]
    exact ⟨rfl, (Ex.trans (Ex.trans q12 hE15) hE22)⟩
   ·refine sz rfl rfl hb19 (sz rfl rfl hb19 (sz rfl rfl hb19 (sz rfl rfl hb19 (sz rfl rfl hb19 (sy rfl rfl (not_t hb18) (yl_pick_f rfl rfl hb19 rfl (sd rfl (yl_pick_f rfl rfl (not_t hb18) rfl (sA rfl (SeqR.done ?_))))))))))
    refine tn (CW.ret (br (tr (rr rfl (.cons rfl .nil) ?_))))
    rw [show (i_Op_holds p_o p_val p_there) = (false) by simp only [i_Op_holds, hb17, hb18, hb19, cL]]
    exact ⟨rfl, (Ex.trans q12 hE15)⟩
  ·refine sz rfl rfl (not_f hb18) (sz rfl rfl (not_f hb18) (sq rfl rfl (sq rfl rfl (sq rfl rfl (sq rfl rfl (sq rfl rfl (sz rfl rfl (not_f hb18) (sd rfl (yl_pick_t rfl rfl (not_f hb18) rfl ?_)))))))))
   refine sA rfl (dn (CW.ret (br (tr (rr rfl (.cons rfl .nil) ?_)))))
   rw [show (i_Op_holds p_o p_val p_there) = (true) by simp only [i_Op_holds, hb17, hb18, cL]]
   exact ⟨rfl, (Ex.trans q12 hE15)⟩
 ·refine CW.cond_f rfl hb17 (cR (sd rfl (yl_eql rfl rfl rfl (sA rfl (dn (bcD (q := p_o.Kind = 5) (fun hb30 hb30p => ?_) (fun hb30 hb30p => ?_)))))))
  ·refine CW.cond_t rfl hb30 (cR (sM rfl (sM rfl (bcase (p_there) (fun hb31 => ?_) (fun hb31 => ?_)))))
   ·refine sy rfl rfl hb31 (yM rfl rfl (sd rfl (yl_pick_t rfl rfl hb31 rfl (sM rfl (bcase ((i_NumberIn p_val).2) (fun hb32 => ?_) (fun hb32 => ?_))))))
    ·refine sy rfl rfl hb32 (yM rfl rfl (sy rfl rfl hb32 (yl_fieldAddr fd122_3 rfl rfl (sy rfl rfl hb32 (yl_load1 ty3 rfl rfl ((q16.cell 3).trans rfl) (sy rfl rfl hb32 (yl_geq rfl rfl rfl (sd rfl (yl_pick_t rfl rfl hb32 rfl (sA rfl (dn (CW.ret ?_))))))))))))
     refine br (tr (rr rfl (.cons rfl .nil) ?_))
     rw [show (i_Op_holds p_o p_val p_there) = (decide (p_o.By ≤ ((i_NumberIn p_val).1))) by simp only [i_Op_holds, hb17, hb30, hb31, hb32, cL]]
     exact ⟨rfl, (Ex.trans q12 hE15)⟩
    ·refine sz rfl rfl hb32 (sz rfl rfl hb32 (sz rfl rfl hb32 (sz rfl rfl hb32 (sd rfl (yl_pick_f rfl rfl hb32 rfl (sA rfl (dn (CW.ret ?_))))))))
     refine br (tr (rr rfl (.cons rfl .nil) ?_))
     rw [show (i_Op_holds p_o p_val p_there) = (false) by simp only [i_Op_holds, hb17, hb30, hb31, hb32, cL]]
     exact ⟨rfl, (Ex.trans q12 hE15)⟩
   ·refine sz rfl rfl hb31 (sd rfl (yl_pick_f rfl rfl hb31 rfl (sM rfl (sz rfl rfl rfl (sz rfl rfl rfl (sz rfl rfl rfl (sz rfl rfl rfl (sd rfl (yl_pick_f rfl rfl rfl rfl (sA rfl ?_))))))))))
    refine dn (CW.ret (br (tr (rr rfl (.cons rfl .nil) ?_))))
    rw [show (i_Op_holds p_o p_val p_there) = (false) by simp only [i_Op_holds, hb17, hb30, hb31, cL]]
    exact ⟨rfl, (Ex.trans q12 hE15)⟩
  ·refine CW.cond_f rfl hb30 (cR (sd rfl (yl_eql rfl rfl rfl (sA rfl (dn (bcD (q := p_o.Kind = 6) (fun hb39 hb39p => ?_) (fun hb39 hb39p => ?_)))))))
   ·refine CW.cond_t rfl hb39 (cR (sM rfl (sd rfl (yl_not rfl rfl (sA rfl (dn (CW.ret ?_)))))))
    refine br (tr (rr rfl (.cons rfl .nil) ?_))
    rw [show (i_Op_holds p_o p_val p_there) = (!p_there) by simp only [i_Op_holds, hb17, hb30, hb39, cL]]
    exact ⟨rfl, (Ex.trans q12 hE15)⟩
   ·refine CW.cond_f rfl hb39 (cR (sd rfl (yl_eql rfl rfl rfl (sA rfl (dn (bcD (q := p_o.Kind = 7) (fun hb42 hb42p => ?_) (fun hb42 hb42p => ?_)))))))
    ·refine CW.cond_t rfl hb42 (cR (sM rfl (sM rfl (bcase (p_there) (fun hb43 => ?_) (fun hb43 => ?_)))))
     ·refine sy rfl rfl hb43 (yM rfl rfl (sy rfl rfl hb43 (yl_fieldAddr fd122_2 rfl rfl (sy rfl rfl hb43 (yl_load1 ty9 rfl rfl ((q16.cell 2).trans rfl) (sy rfl rfl hb43 (yl_seql (a := p_val) (b := p_o.Val) rfl rfl rfl (sd rfl (yl_pick_t rfl rfl hb43 rfl (sA rfl (dn (CW.ret ?_))))))))))))
      refine br (tr (rr rfl (.cons rfl .nil) ?_))
      rw [show (i_Op_holds p_o p_val p_there) = (p_val == p_o.Val) by simp only [i_Op_holds, hb17, hb30, hb39, hb42, hb43, cL]]
      exact ⟨rfl, (Ex.trans q12 hE15)⟩
     ·refine sz rfl rfl hb43 (sz rfl rfl hb43 (sz rfl rfl hb43 (sz rfl rfl hb43 (sd rfl (yl_pick_f rfl rfl hb43 rfl (sA rfl (dn (CW.ret ?_))))))))
      refine br (tr (rr rfl (.cons rfl .nil) ?_))
      rw [show (i_Op_holds p_o p_val p_there) = (false) by simp only [i_Op_holds, hb17, hb30, hb39, hb42, hb43, cL]]
      exact ⟨rfl, (Ex.trans q12 hE15)⟩
    ·refine CW.cond_f rfl hb42 (CW.skip (bn (tn (cR (sA rfl (dn ?_))))))
     refine CW.ret (rr rfl (.cons rfl .nil) ?_)
     rw [show (i_Op_holds p_o p_val p_there) = (true) by simp only [i_Op_holds, hb17, hb30, hb39, hb42, cL]]
     exact ⟨rfl, (Ex.trans q12 hE15)⟩
theorem c_i_stepOps {A1 : Option Addr} {c1 : Nat} {A3 : Option Addr} {c3 : Nat} {w : World} (p_0 : List DOp) (p_1 : List DGot) (h1 : RdS w (Iv 0 w.heap.size) (RF e_Op) 4 A1 p_0.length c1 p_0) (h3 : RdS w (Iv 0 w.heap.size) (RF e_Got) 3 A3 p_1.length c3 p_1) (o2 : (okL ok_Op) p_0) (o4 : (okL ok_Got) p_1) (pre0 : ∀ y ∈ p_0, y.Kind ≠ 4) (pre1 : p_0.length ≤ 100) (hgb : GT 4 5 1 w) : Cal Tryz.prog 132 #[.slice A1 p_0.length c1, .slice A3 p_1.length c3] w fun v w' => ∃ A_1 c_1 lo_1 hi_1, v = .tuple #[.int .i64 ((i_stepOps p_0 p_1).1), .string (bs ((i_stepOps p_0 p_1).2.1)), .slice A_1 (((i_stepOps p_0 p_1).2.2).length) c_1] ∧ OwnL w' lo_1 hi_1 80 3 (RF e_Write) A_1 (((i_stepOps p_0 p_1).2.2).length) c_1 ((i_stepOps p_0 p_1).2.2) ∧ okS ((i_stepOps p_0 p_1).2.1) ∧ (okL ok_Write) ((i_stepOps p_0 p_1).2.2) ∧ ((i_stepOps p_0 p_1).2.2).length ≤ p_0.length ∧ (w.heap.size ≤ lo_1 ∧ lo_1 ≤ hi_1 ∧ hi_1 ≤ w'.heap.size) ∧ Ex w w' := by
 have hol5 := o2.1
 have hol6 := o4.1
 refine Cal.of func132 rfl ntmps132 rfl (cR (sA rfl (sA rfl (sA rfl (dn (CW.seq ?_))))))
 refine CW.region (sd rfl (yl_buildSlice (cs := []) un34 ty80 (by decide) rfl opvs_nil (by kernel_rfl) ?_))
 intro b7 w8 hs9 hz10 hB11 hE12
 have hO13 : OwnL w8 b7 (b7 + 1) 80 3 (RF e_Write) (some ⟨b7, 0, none⟩) 0 0 ([] : List DWrite) := oB hB11
 refine sA rfl (dn (CW.seq (cR (sM rfl (sd rfl (yL un77 rfl rfl (sM rfl ?_)))))))
 refine dn (CW.block (CW.loop (fun m93 L94 w95 => ∃ (k14 : Nat) (x88 : List DWrite) (A89 : Option Addr) (c90 : Nat) (u91 : Nat) (lo92 : Nat), m93 = p_0.length - k14 ∧ k14 ≤ p_0.length ∧ w8.heap.size ≤ w95.heap.size ∧ Sub [(1, .slice A3 p_1.length c3), (7, .slice A89 x88.length c90), (16, .slice A1 p_0.length c1), (17, .int .i64 ((p_0.length : Int))), (18, .int .i64 ((k14 : Int)))] L94 ∧ RdS w95 (Iv 0 w.heap.size) (RF e_Got) 3 A3 p_1.length c3 p_1 ∧ OwnL w95 lo92 u91 80 3 (RF e_Write) A89 x88.length c90 x88 ∧ RdS w95 (Iv 0 w.heap.size) (RF e_Op) 4 A1 p_0.length c1 p_0 ∧ Ex w w95 ∧ (w8.heap.size ≤ lo92 ∧ lo92 ≤ u91 ∧ u91 ≤ w95.heap.size) ∧ x88.length ≤ 0 + 1 * (k14 - 0) ∧ (∀ y ∈ x88, ok_Write y) ∧ loopM (B_i_stepOps_0 p_0 p_1) (p_0.length - k14) k14 (x88) = loopM (B_i_stepOps_0 p_0 p_1) (p_0.length - 0) 0 (([] : List DWrite))) (p_0.length - 0) ?_ ?_))
 ·exact ⟨0, ([] : List DWrite), (some ⟨b7, 0, none⟩), 0, w8.heap.size, w8.heap.size, rfl, oM, Nat.le_refl _, (sR rfl), (RdS.ex good_Got h3 hE12), (OwnL.empty w8 w8.heap.size w8.heap.size 80 3 (RF e_Write) (some ⟨b7, 0, none⟩)), (RdS.ex good_Op h1 hE12), (Ex.trans (Ex.refl w) hE12), oM, (by first | (simp; done) | (first | omega | (simp only [lN, toS_length]; omega))), okE.nil, rfl⟩
 ·rintro m99 L100 w101 ⟨k14, x88, A89, c90, u91, lo92, rfl, hk102, hsz104, hl105, hf106, hf107, hf108, hf109, hu110, hln111, hok112, hI103⟩
  refine CW.sub hl105 ?_
  have hf109z := Ex.size hf109
  have hbg113 := RdS.big hf108
  rcases Nat.lt_or_ge k14 p_0.length with hlt114 | hlt114
  ·have hkd := pre0 _ (getD_mem (d := d_Op) hlt114)
   refine cR (sd rfl (yl_lss rfl rfl rfl (dn (CW.seq (CW.cond_t rfl (lt_t hlt114) (CW.skip (tn ?_)))))))
   refine CW.seq (CW.block (cR ?_))
   obtain ⟨_, _, _, eA115, _, ebl115, _, eR115, eC115⟩ := RdS.atD hf108 d_Op (i := k14) Bo
   obtain rfl := eR115
   refine sd rfl (yl_ixN un77 ty122 rfl rfl rfl eA115 (sd rfl (yl_loadN ty122 rfl rfl eC115 rfl (sd rfl (yB ty122 (cs := [.int .i64 (0), .string (bs (([] : Str))), .string (bs (([] : Str))), .int .i64 (0)]) rfl rfl ?_)))))
   intro b116 w117 hs118 hz119 hB120 hE121
   refine SeqR.u rfl rfl (yl_storeA (vs := [.int .i64 ((p_0.getD k14 d_Op).Kind), .string (bs ((p_0.getD k14 d_Op).Key)), .string (bs ((p_0.getD k14 d_Op).Val)), .int .i64 ((p_0.getD k14 d_Op).By)]) ty122 rfl rfl rfl rfl rfl rfl hB120 rfl ?_)
   intro w122 hB123 hO124
   have hO124z := hO124.size
   refine dn (CW.seq (cR (sd rfl (yl_fieldAddr fd122_0 rfl rfl (sd rfl (yl_load1 ty3 rfl rfl ((hB123.cell 0).trans rfl) (dn ?_)))))))
   refine CW.block (cR (sd rfl (yl_eql rfl rfl rfl (sA rfl (dn (bcD (q := ((p_0.getD k14 d_Op).Kind) = 2) (fun hb125 hb125p => ?_) (fun hb125 hb125p => ?_)))))))
   ·refine CW.cond_t rfl hb125 (cR (sM rfl (sd rfl (yl_fieldAddr fd122_1 rfl rfl (sd rfl (yl_load1 ty9 rfl rfl ((hB123.cell 1).trans rfl) (sd rfl (yl_fieldAddr fd122_2 rfl rfl (sd rfl (yl_load1 ty9 rfl rfl ((hB123.cell 2).trans rfl) (sd rfl (yl_build (cs := [.string (bs ((p_0.getD k14 d_Op).Key)), .string (bs ((p_0.getD k14 d_Op).Val)), .bool (false)]) rfl (oc rfl (oc rfl oz)) (by kernel_rfl) ?_))))))))))))
    refine sd rfl (yC en134 rfl (oc rfl (oc rfl oz)) (Cal.mono (c_i_putWrite x88 (⟨(p_0.getD k14 d_Op).Key, (p_0.getD k14 d_Op).Val, false⟩ : DWrite) (OwnL.only gW (OwnL.ex gW hf107 hE121) hO124 oM) oM (okL.mk (xs := x88) Bl hok112) (⟨(okL.getD o2 ok_d_Op _).1, (okL.getD o2 ok_d_Op _).2⟩) Bo) ?_))
    rintro v131 w128 ⟨A129, c129, lo129, hi129, rfl, h129, ho130, hdj133, hm132⟩
    have hm132z := Mut.size hm132
    have hrf134 := putWrite_len x88 (⟨(p_0.getD k14 d_Op).Key, (p_0.getD k14 d_Op).Val, false⟩ : DWrite)
    refine sA rfl (dn (CW.exit (by' rfl (tx (bx (tn (CW.region ?_)))))))
    refine sd rfl (yl_inc rfl rfl rfl oM (sM rfl (dn ?_)))
    have hB135 : B_i_stepOps_0 p_0 p_1 k14 (x88) = .cont ((i_putWrite x88 (⟨(p_0.getD k14 d_Op).Key, (p_0.getD k14 d_Op).Val, false⟩ : DWrite))) := by simp only [B_i_stepOps_0, hb125, cL]
    exact ⟨p_0.length - (k14 + 1), oM, k14 + 1, (i_putWrite x88 (⟨(p_0.getD k14 d_Op).Key, (p_0.getD k14 d_Op).Val, false⟩ : DWrite)), A129, c129, hi129, lo129, rfl, hlt114, oM, (sR rfl), (RdS.mut good_Got (RdS.only good_Got (RdS.ex good_Got hf106 hE121) hO124 iV) hm132 kJ), h129, (RdS.mut good_Op (RdS.only good_Op (RdS.ex good_Op hf108 hE121) hO124 iV) hm132 kJ), (Ex.mut (Below.only (Ex.trans hf109 hE121) hO124 oM) hm132 kR), oM, Bl, (ho130).2, (loopM.cont hlt114 hB135).symm.trans hI103⟩
   ·refine CW.cond_f rfl hb125 (cR (sd rfl (yl_eql rfl rfl rfl (sA rfl (dn (bcD (q := ((p_0.getD k14 d_Op).Kind) = 3) (fun hb145 hb145p => ?_) (fun hb145 hb145p => ?_)))))))
    ·refine CW.cond_t rfl hb145 (cR (sM rfl (sd rfl (yl_fieldAddr fd122_1 rfl rfl (sd rfl (yl_load1 ty9 rfl rfl ((hB123.cell 1).trans rfl) (sd rfl (yl_build (cs := [.string (bs ((p_0.getD k14 d_Op).Key)), .string (bs (([] : Str))), .bool (true)]) rfl (oc rfl (oc rfl oz)) (by kernel_rfl) (sd rfl (yC en134 rfl (oc rfl (oc rfl oz)) (Cal.mono (c_i_putWrite x88 (⟨(p_0.getD k14 d_Op).Key, ([] : Str), true⟩ : DWrite) (OwnL.only gW (OwnL.ex gW hf107 hE121) hO124 oM) oM (okL.mk (xs := x88) Bl hok112) (⟨(okL.getD o2 ok_d_Op _).1, (okS.lit rfl)⟩) Bo) ?_)))))))))))
     rintro v151 w148 ⟨A149, c149, lo149, hi149, rfl, h149, ho150, hdj153, hm152⟩
     have hm152z := Mut.size hm152
     have hrf154 := putWrite_len x88 (⟨(p_0.getD k14 d_Op).Key, ([] : Str), true⟩ : DWrite)
     refine sA rfl (dn (CW.exit (by' rfl (tx (bx (tn (CW.region ?_)))))))
     refine sd rfl (yl_inc rfl rfl rfl oM (sM rfl (dn ?_)))
     have hB155 : B_i_stepOps_0 p_0 p_1 k14 (x88) = .cont ((i_putWrite x88 (⟨(p_0.getD k14 d_Op).Key, ([] : Str), true⟩ : DWrite))) := by simp only [B_i_stepOps_0, hb125, hb145, cL]
     exact ⟨p_0.length - (k14 + 1), oM, k14 + 1, (i_putWrite x88 (⟨(p_0.getD k14 d_Op).Key, ([] : Str), true⟩ : DWrite)), A149, c149, hi149, lo149, rfl, hlt114, oM, (sR rfl), (RdS.mut good_Got (RdS.only good_Got (RdS.ex good_Got hf106 hE121) hO124 iV) hm152 kJ), h149, (RdS.mut good_Op (RdS.only good_Op (RdS.ex good_Op hf108 hE121) hO124 iV) hm152 kJ), (Ex.mut (Below.only (Ex.trans hf109 hE121) hO124 oM) hm152 kR), oM, Bl, (ho150).2, (loopM.cont hlt114 hB155).symm.trans hI103⟩
    ·refine CW.cond_f rfl hb145 (CW.skip (bn (tn (cR (sd rfl (yl_fieldAddr fd122_1 rfl rfl (sd rfl (yl_load1 ty9 rfl rfl ((hB123.cell 1).trans rfl) (sM rfl ?_)))))))))
     refine sM rfl ?_
     have q167 := OwnL.only gW (OwnL.ex gW hf107 hE121) hO124 oM
     have q169 := RdS.only good_Got (RdS.ex good_Got hf106 hE121) hO124 iV
     refine sd rfl (yC en177 rfl (oc rfl (oc rfl (oc rfl oz))) (Cal.mono (c_i_current ((p_0.getD k14 d_Op).Key) x88 p_1 (RdS.up (OwnL.rd gW q167) gW) (RdS.up q169 good_Got) ((okL.getD o2 ok_d_Op _).1) (okL.mk (xs := x88) Bl hok112) o4) ?_))
     rintro v172 w170 ⟨rfl, ho171, hE173⟩
     have hE173z := Ex.size hE173
     refine sM rfl (sd rfl (yl_extract rfl rfl rfl (sd rfl (yl_extract rfl rfl rfl (sd rfl (yl_extract rfl rfl rfl (sA rfl (sA rfl (sA rfl (dn ?_))))))))))
     refine CW.seq (cR (sM rfl (sd rfl (yl_not rfl rfl (dn (bcase ((i_current ((p_0.getD k14 d_Op).Key) x88 p_1).2.2) (fun hb174 => ?_) (fun hb174 => ?_)))))))
     ·refine CW.cond_f rfl (not_t hb174) (CW.skip (tn (CW.seq (cR ?_))))
      have q175 := Box.ex hB123 hE173
      refine sd rfl (yl_loadN ty122 rfl rfl (q175.cells (n := 4) rfl) rfl (sM rfl (sM rfl ?_)))
      have q178 := Ex.trans (Below.only (Ex.trans hf109 hE121) hO124 oM) hE173
      refine sd rfl (yC en178 rfl (oc rfl (oc rfl (oc rfl oz))) (Cal.mono (c_i_Op_holds (p_0.getD k14 d_Op) ((i_current ((p_0.getD k14 d_Op).Key) x88 p_1).1) ((i_current ((p_0.getD k14 d_Op).Key) x88 p_1).2.1) (okL.getD o2 ok_d_Op _) ho171 (hgb.ex q178)) ?_))
      rintro v180 w179 ⟨rfl, hE181⟩
      have hE181z := Ex.size hE181
      refine sd rfl (yl_not rfl rfl (dn (bcase (i_Op_holds (p_0.getD k14 d_Op) ((i_current ((p_0.getD k14 d_Op).Key) x88 p_1).1) ((i_current ((p_0.getD k14 d_Op).Key) x88 p_1).2.1)) (fun hb182 => ?_) (fun hb182 => ?_))))
      ·refine CW.cond_f rfl (not_t hb182) (CW.skip (tn (cR (sd rfl (yl_fieldAddr fd122_0 rfl rfl (sd rfl (yl_load1 ty3 rfl rfl (((Box.ex q175 hE181).cell 0).trans rfl) (sd rfl (yl_eql rfl rfl rfl (SeqR.done ?_))))))))))
       refine tn (CW.cond_f rfl (decide_eq_false (by assumption)) (CW.skip (bn (tn (CW.region (sd rfl (yl_inc rfl rfl rfl oM (sM rfl (SeqR.done ?_)))))))))
       refine tn ?_
       have hB184 : B_i_stepOps_0 p_0 p_1 k14 (x88) = .cont (x88) := by simp only [B_i_stepOps_0, hb125, hb145, hb174, hb182, cL]
       exact ⟨p_0.length - (k14 + 1), oM, k14 + 1, x88, A89, c90, u91, lo92, rfl, hlt114, oM, (sR rfl), (RdS.ex good_Got (RdS.ex good_Got q169 hE173) hE181), (OwnL.ex gW (OwnL.ex gW q167 hE173) hE181), (RdS.ex good_Op (RdS.ex good_Op (RdS.only good_Op (RdS.ex good_Op hf108 hE121) hO124 iV) hE173) hE181), (Ex.trans q178 hE181), oM, Bl, hok112, (loopM.cont hlt114 hB184).symm.trans hI103⟩
      ·refine CW.cond_t rfl (not_f hb182) (cR (sA rfl (sA rfl (sA rfl (dn (CW.ret ?_))))))
       refine tr (br (tr (tr ?_)))
       have hB195 : B_i_stepOps_0 p_0 p_1 k14 (x88) = .ret (2, ([] : Str), ([] : List DWrite)) := by simp only [B_i_stepOps_0, hb125, hb145, hb174, hb182, cL]
       have hL194 : loopM (B_i_stepOps_0 p_0 p_1) (p_0.length - 0) 0 (([] : List DWrite)) = .ret (2, ([] : Str), ([] : List DWrite)) := hI103.symm.trans (loopM.ret hlt114 hB195)
       refine br (tr (rr rfl (.cons rfl (.cons rfl (.cons rfl .nil))) ?_))
       rw [show (i_stepOps p_0 p_1) = ((2, ([] : Str), ([] : List DWrite))) by simp only [i_stepOps, hb125, hb145, hb174, hb182, hL194, cL]]
       exact ⟨none, 0, w179.heap.size, w179.heap.size, rfl, (OwnL.nil _ _ _ _ _ _), (okS.lit rfl), (okL.nil _), (by (try dsimp only); first | omega | exact Nat.zero_le _ | (simp only [List.length_nil]; omega)), oM, (Ex.trans q178 hE181)⟩
     ·refine CW.cond_t rfl (not_f hb174) (CW.seq (drJ 5 [.pointer (some ⟨b116, 0 + 1, none⟩), .string (bs ((p_0.getD k14 d_Op).Key)), .int .i64 (1), .string (bs ((p_0.getD k14 d_Op).Key)), .slice none 0 0] Tryz.follows rfl ⟨?_, ?_, ?_, ?_, ?_, trivial⟩ ?_))
      ·exact oI rfl fun h => yl_fieldAddr fd122_1 rfl (h.g 9 rfl) kI
      ·exact oI rfl fun h => yl_load1 ty9 rfl (h.g 51 rfl) (((Box.ex (Box.ex hB123 hE173) h.ex).cell 1).trans rfl) kI
      ·exact oI rfl fun _ => yA rfl rfl kI
      ·exact oI rfl fun h => yA rfl (h.g 52 rfl) kI
      ·exact oI rfl fun _ => yA rfl rfl kI
      ·intro fl226 fh227 L223 w224 hp225
       have hE228 := hp225.ex
       have hE228z := Ex.size hE228
       refine dn (CW.sub (hp225.ss [4, 5, 6] rfl) (CW.ret (tr (br (tr (tr ?_))))))
       have hB233 : B_i_stepOps_0 p_0 p_1 k14 (x88) = .ret (1, (p_0.getD k14 d_Op).Key, ([] : List DWrite)) := by simp only [B_i_stepOps_0, hb125, hb145, hb174, cL]
       have hL232 : loopM (B_i_stepOps_0 p_0 p_1) (p_0.length - 0) 0 (([] : List DWrite)) = .ret (1, (p_0.getD k14 d_Op).Key, ([] : List DWrite)) := hI103.symm.trans (loopM.ret hlt114 hB233)
       refine br (tr (rr rfl (.cons rfl (.cons rfl (.cons rfl .nil))) ?_))
       rw [show (i_stepOps p_0 p_1) = ((1, (p_0.getD k14 d_Op).Key, ([] : List DWrite))) by simp only [i_stepOps, hb125, hb145, hb174, hL232, cL]]
       exact ⟨none, 0, w224.heap.size, w224.heap.size, rfl, (OwnL.nil _ _ _ _ _ _), (okL.getD o2 ok_d_Op _).1, (okL.nil _), (by (try dsimp only); first | omega | exact Nat.zero_le _ | (simp only [List.length_nil]; omega)), oM, (Ex.trans (Ex.trans (Below.only (Ex.trans hf109 hE121) hO124 oM) hE173) hE228)⟩
  ·refine cR (sd rfl (yl_lss rfl rfl rfl (dn (CW.seq (CW.cond_f rfl (lt_f hlt114) (CW.exit (tx ?_)))))))
   refine tx ?_
   have hL239 : loopM (B_i_stepOps_0 p_0 p_1) (p_0.length - 0) 0 (([] : List DWrite)) = .done (x88) := hI103.symm.trans (loopM.stop hlt114)
   refine bx (tn (cR (sM rfl (sA rfl (sA rfl (sA rfl (SeqR.done ?_)))))))
   refine tn (CW.ret (rr rfl (.cons rfl (.cons rfl (.cons rfl .nil))) ?_))
   rw [show (i_stepOps p_0 p_1) = ((3, ([] : Str), x88)) by simp only [i_stepOps, hL239, cL]]
   exact ⟨A89, c90, lo92, u91, rfl, hf107, (okS.lit rfl), (okL.mk (xs := x88) Bl hok112), (by (try dsimp only); first | omega | exact Nat.zero_le _ | (simp only [List.length_nil]; omega)), oM, hf109⟩
theorem c_i_gotOf {A1 : Option Addr} {c1 : Nat} {w : World} (p_rows : List DWrite) (p_key : Str) (h1 : RdS w (Iv 0 w.heap.size) (RF e_Write) 3 A1 p_rows.length c1 p_rows) (o2 : (okL ok_Write) p_rows) (o3 : okS p_key) : Cal Tryz.prog 133 #[.slice A1 p_rows.length c1, .string (bs (p_key))] w fun v w' => v = .agg #[.string (bs ((i_gotOf p_rows p_key).Key)), .string (bs ((i_gotOf p_rows p_key).Val)), .bool ((i_gotOf p_rows p_key).There)] ∧ ok_Got (i_gotOf p_rows p_key) ∧ Ex w w' := by
 have hol4 := o2.1
 have hol5 : p_key.length ≤ 1073741824 := o3
 refine Cal.of func133 rfl ntmps133 rfl (cR (sd rfl (yB ty170 (cs := [.string (bs (([] : Str))), .string (bs (([] : Str))), .bool (false)]) rfl rfl ?_)))
 intro b6 w7 hs8 hz9 hB10 hE11
 refine dn (cR (sM rfl (sM rfl ?_)))
 have q12 := RdS.ex gW h1 hE11
 refine sd rfl (yC en181 rfl (oc rfl (oc rfl oz)) (Cal.mono (c_i_findWrite p_rows p_key (RdS.up q12 gW) o2 o3) ?_))
 rintro v14 w13 ⟨rfl, hE15⟩
 have hE15z := Ex.size hE15
 have hrf16 := rf_findWrite0 p_rows p_key oM
 refine sM rfl (sd rfl (yl_extract rfl rfl rfl (sd rfl (yl_extract rfl rfl rfl (sA rfl (sA rfl (dn (CW.seq (CW.seq ?_)))))))))
 refine CW.region (sM rfl (sd rfl (yl_not rfl rfl (dn (bcase ((i_findWrite p_rows p_key).2) (fun hb17 => ?_) (fun hb17 => ?_))))))
 ·have hb17p := (fun h => f_findWrite h oM) hb17
  refine CW.cond_f rfl (not_t hb17) (CW.skip (tn (cR (sM rfl (sM rfl (sM rfl ?_))))))
  obtain ⟨_, _, _, eA19, _, ebl19, _, eR19, eC19⟩ := RdS.atD (RdS.ex gW q12 hE15) d_Write (i := ((i_findWrite p_rows p_key).1).toNat) Bo
  obtain rfl := eR19
  refine sd rfl (yl_indexAddr un34 ty80 rfl rfl rfl eA19 Bo Bo (sd rfl (yl_fieldAddr fd80_1 rfl rfl (sd rfl (yl_load1 ty9 rfl rfl (eC19 1 _ rfl) (sd rfl (yl_build (cs := [.string (bs (p_key)), .string (bs ((p_rows.getD (((i_findWrite p_rows p_key).1).toNat) d_Write).Val)), .bool (true)]) rfl (oc rfl (oc rfl (oc rfl oz))) (by kernel_rfl) (SeqR.u rfl rfl (yl_storeA (vs := [.string (bs (p_key)), .string (bs ((p_rows.getD (((i_findWrite p_rows p_key).1).toNat) d_Write).Val)), .bool (true)]) ty170 rfl rfl rfl rfl rfl rfl (Box.ex hB10 hE15) rfl ?_)))))))))
  intro w21 hB22 hO23
  have hO23z := hO23.size
  refine dn (CW.ret (rr rfl (.cons ⟨_, rfl, run_loadN ty170 (cs := [.string (bs (p_key)), .string (bs ((p_rows.getD (((i_findWrite p_rows p_key).1).toNat) d_Write).Val)), .bool (true)]) rfl (hB22.cells (n := 3) rfl)⟩ .nil) ?_))
  rw [show (i_gotOf p_rows p_key) = ((⟨p_key, (p_rows.getD (((i_findWrite p_rows p_key).1).toNat) d_Write).Val, true⟩ : DGot)) by simp only [i_gotOf, hb17, cL]]
  exact ⟨rfl, ⟨o3, (okL.getD o2 ok_d_Write _).2⟩, (Below.only (Ex.trans (Ex.trans (Ex.refl w) hE11) hE15) hO23 oM)⟩
 ·refine CW.cond_t rfl (not_f hb17) (cR (sM rfl (sd rfl (yl_build (cs := [.string (bs (p_key)), .string (bs (([] : Str))), .bool (false)]) rfl (oc rfl oz) (by kernel_rfl) (SeqR.u rfl rfl (yl_storeA (vs := [.string (bs (p_key)), .string (bs (([] : Str))), .bool (false)]) ty170 rfl rfl rfl rfl rfl rfl (Box.ex hB10 hE15) rfl ?_))))))
  intro w29 hB30 hO31
  have hO31z := hO31.size
  refine dn (CW.ret (tr (rr rfl (.cons ⟨_, rfl, run_loadN ty170 (cs := [.string (bs (p_key)), .string (bs (([] : Str))), .bool (false)]) rfl (hB30.cells (n := 3) rfl)⟩ .nil) ?_)))
  rw [show (i_gotOf p_rows p_key) = ((⟨p_key, ([] : Str), false⟩ : DGot)) by simp only [i_gotOf, hb17, cL]]
  exact ⟨rfl, ⟨o3, (okS.lit rfl)⟩, (Below.only (Ex.trans (Ex.trans (Ex.refl w) hE11) hE15) hO31 oM)⟩
theorem c_i_runAlone {A1 : Option Addr} {c1 : Nat} {A3 : Option Addr} {c3 : Nat} {w : World} (p_rows : List DWrite) (p_l : List DOp) (h1 : RdS w (Iv 0 w.heap.size) (RF e_Write) 3 A1 p_rows.length c1 p_rows) (h3 : RdS w (Iv 0 w.heap.size) (RF e_Op) 4 A3 p_l.length c3 p_l) (o2 : (okL ok_Write) p_rows) (o4 : (okL ok_Op) p_l) (pre0 : ∀ y ∈ p_l, y.Kind ≠ 4) (pre1 : p_l.length ≤ 100) (hgb : GT 4 5 1 w) : Cal Tryz.prog 81 #[.slice A1 p_rows.length c1, .slice A3 p_l.length c3] w fun v w' => ∃ A_1 c_1 A_2 c_2, v = .tuple #[.slice A_1 (((i_runAlone p_rows p_l).1).length) c_1, .slice A_2 (((i_runAlone p_rows p_l).2.1).length) c_2, .bool ((i_runAlone p_rows p_l).2.2)] ∧ RdS w' (Iv w.heap.size w'.heap.size) (RF e_Got) 3 A_1 ((i_runAlone p_rows p_l).1).length c_1 ((i_runAlone p_rows p_l).1) ∧ RdS w' (Iv w.heap.size w'.heap.size) (RF e_Write) 3 A_2 ((i_runAlone p_rows p_l).2.1).length c_2 ((i_runAlone p_rows p_l).2.1) ∧ (okL ok_Got) ((i_runAlone p_rows p_l).1) ∧ (okL ok_Write) ((i_runAlone p_rows p_l).2.1) ∧ ((i_runAlone p_rows p_l).2.1).length ≤ p_l.length ∧ Ex w w' := by
 have hol5 := o2.1
 have hol6 := o4.1
 refine Cal.of func81 rfl ntmps81 rfl (cR (sA rfl (sA rfl (sA rfl (dn (CW.seq ?_))))))
 refine CW.region (sd rfl (yl_buildSlice (cs := []) un117 ty170 (by decide) rfl opvs_nil (by kernel_rfl) ?_))
 intro b7 w8 hs9 hz10 hB11 hE12
 have hO13 : OwnL w8 b7 (b7 + 1) 170 3 (RF e_Got) (some ⟨b7, 0, none⟩) 0 0 ([] : List DGot) := oB hB11
 refine sA rfl (dn (CW.block (CW.loop (fun m52 L53 w54 => ∃ (x47 : List DGot) (A48 : Option Addr) (c49 : Nat) (u50 : Nat) (lo51 : Nat), ((p_l.filter fun o => !((x47 : List DGot).any fun g => g.Key == o.Key)).length) < m52 ∧ w8.heap.size ≤ w54.heap.size ∧ Sub [(0, .slice A1 p_rows.length c1), (1, .slice A3 p_l.length c3), (7, .slice A48 x47.length c49)] L53 ∧ RdS w54 (Iv 0 w.heap.size) (RF e_Write) 3 A1 p_rows.length c1 p_rows ∧ RdS w54 (Iv 0 w.heap.size) (RF e_Op) 4 A3 p_l.length c3 p_l ∧ OwnL w54 lo51 u50 170 3 (RF e_Got) A48 x47.length c49 x47 ∧ Ex w w54 ∧ (w8.heap.size ≤ lo51 ∧ lo51 ≤ u50 ∧ u50 ≤ w54.heap.size) ∧ x47.length + 1 * ((p_l.filter fun o => !((x47 : List DGot).any fun g => g.Key == o.Key)).length) ≤ 0 + 1 * ((p_l.filter fun o => !((([] : List DGot) : List DGot).any fun g => g.Key == o.Key)).length) ∧ (∀ y ∈ x47, ok_Got y) ∧ (x47.length + ((p_l.filter fun o => !((x47 : List DGot).any fun g => g.Key == o.Key)).length) ≤ p_l.length) ∧ loopW (B_i_runAlone_0 p_rows p_l) m52 (x47) = loopW (B_i_runAlone_0 p_rows p_l) (((p_l.filter fun o => !((([] : List DGot) : List DGot).any fun g => g.Key == o.Key)).length) + 1) (([] : List DGot))) (((p_l.filter fun o => !((([] : List DGot) : List DGot).any fun g => g.Key == o.Key)).length) + 1) ?_ ?_)))
 ·exact ⟨([] : List DGot), (some ⟨b7, 0, none⟩), 0, w8.heap.size, w8.heap.size, Nat.lt_succ_self _, Nat.le_refl _, (sR rfl), (RdS.ex gW h1 hE12), (RdS.ex good_Op h3 hE12), (OwnL.empty w8 w8.heap.size w8.heap.size 170 3 (RF e_Got) (some ⟨b7, 0, none⟩)), (Ex.trans (Ex.refl w) hE12), oM, (by first | (simp; done) | (first | omega | (simp only [lN, toS_length]; omega))), okE.nil, (by first | exact asks_0 _ | omega), rfl⟩
 ·rintro m58 L59 w60 ⟨x47, A48, c49, u50, lo51, hk61, hsz63, hl64, hf65, hf66, hf67, hf68, hu69, hln70, hok71, hv72, hI62⟩
  refine CW.sub hl64 ?_
  have hf68z := Ex.size hf68
  refine CW.block (cR (sM rfl (sM rfl (sd rfl (yC en132 rfl (oc rfl (oc rfl oz)) (Cal.mono (c_i_stepOps p_l x47 (RdS.up hf66 good_Op) (RdS.up (OwnL.rd good_Got hf67) good_Got) o4 (okL.mk (xs := x47) Bl hok71) Bo Bo (hgb.ex hf68)) ?_))))))
  rintro v79 w74 ⟨A75, c75, lo75, hi75, rfl, h75, ho76, ho77, hp78, hrn81, hE80⟩
  have hE80z := Ex.size hE80
  refine sM rfl (sd rfl (yl_extract rfl rfl rfl (sd rfl (yl_extract rfl rfl rfl (sd rfl (yl_extract rfl rfl rfl (sA rfl (sA rfl (sA rfl (dn ?_))))))))))
  refine CW.seq (cR (sM rfl (sd rfl (yl_neq rfl rfl rfl (dn (bcD (q := ((i_stepOps p_l x47).1) = 1) (fun hb82 hb82p => ?_) (fun hb82 hb82p => ?_)))))))
  ·refine CW.cond_f rfl (not_t hb82) (CW.skip (tn (CW.region (sM rfl (sM rfl (sM rfl ?_))))))
   have q83 := RdS.ex gW hf65 hE80
   refine sd rfl (yC en133 rfl (oc rfl (oc rfl oz)) (Cal.mono (c_i_gotOf p_rows ((i_stepOps p_l x47).2.1) (RdS.up q83 gW) o2 ho76) ?_))
   rintro v86 w84 ⟨rfl, ho85, hE87⟩
   have hE87z := Ex.size hE87
   refine sd rfl (yl_buildSlice (cs := [.string (bs ((i_gotOf p_rows ((i_stepOps p_l x47).2.1)).Key)), .string (bs ((i_gotOf p_rows ((i_stepOps p_l x47).2.1)).Val)), .bool ((i_gotOf p_rows ((i_stepOps p_l x47).2.1)).There)]) un117 ty170 (by decide) rfl (oc rfl oz) (by kernel_rfl) ?_)
   intro b88 w89 hs90 hz91 hB92 hE93
   have hO94 : OwnL w89 b88 (b88 + 1) 170 3 (RF e_Got) (some ⟨b88, 0, none⟩) 1 1 ([(i_gotOf p_rows ((i_stepOps p_l x47).2.1))] : List DGot) := OwnL.of_box (S := fun _ => False) hB92 (Nat.le_refl _) (Nat.lt_succ_self _) (EncL.cons (c := [.string (bs ((i_gotOf p_rows ((i_stepOps p_l x47).2.1)).Key)), .string (bs ((i_gotOf p_rows ((i_stepOps p_l x47).2.1)).Val)), .bool ((i_gotOf p_rows ((i_stepOps p_l x47).2.1)).There)]) rfl rfl EncL.nil) (nb rfl) (fun h => h) (fun _ h => False.elim h)
   refine sd rfl (yl_appendP (S := fun _ => False) (lo := lo51) (hi := u50) (xs := x47) (ys := ([(i_gotOf p_rows ((i_stepOps p_l x47).2.1))] : List DGot)) un117 ty170 rfl (nb rfl) (fun _ => rfl) rfl rfl rfl (OwnL.ex good_Got (OwnL.ex good_Got (OwnL.ex good_Got hf67 hE80) hE87) hE93) (EncL.cons (c := [.string (bs ((i_gotOf p_rows ((i_stepOps p_l x47).2.1)).Key)), .string (bs ((i_gotOf p_rows ((i_stepOps p_l x47).2.1)).Val)), .bool ((i_gotOf p_rows ((i_stepOps p_l x47).2.1)).There)]) rfl rfl EncL.nil) (Or.inr ⟨_, _, rfl, rfl, hB92.cells (o := 0) (n := 3) rfl⟩) rfl Bl Bl oM oM oM ?_)
   intro A98 c99 w100 row101 lp102 hp103 hO104 hG105 hrg106 hdj107
   have hG105z := hG105.size
   refine sA rfl (SeqR.done (bn (tn ?_)))
   have hB108 : B_i_runAlone_0 p_rows p_l (x47) = .cont ((x47 ++ ([(i_gotOf p_rows ((i_stepOps p_l x47).2.1))] : List DGot))) := by simp only [B_i_runAlone_0, hb82, cL]
   have hmu120 : ((p_l.filter fun o => !(((x47 ++ ([(i_gotOf p_rows ((i_stepOps p_l x47).2.1))] : List DGot)) : List DGot).any fun g => g.Key == o.Key)).length) < ((p_l.filter fun o => !((x47 : List DGot).any fun g => g.Key == o.Key)).length) := by (have hq := ask_less' (rows := p_rows) (l := p_l) (got := x47) pre0 (by first | assumption | exact of_decide_eq_true (by assumption) | omega); first | exact hq | (simp only [lN]; omega))
   exact ⟨m58 - 1, oM, (x47 ++ ([(i_gotOf p_rows ((i_stepOps p_l x47).2.1))] : List DGot)), A98, c99, hp103, lp102, oM, oM, (sR rfl), (RdS.grown gW (RdS.ex gW (RdS.ex gW q83 hE87) hE93) hG105 (hV hrg106)), (RdS.grown good_Op (RdS.ex good_Op (RdS.ex good_Op (RdS.ex good_Op hf66 hE80) hE87) hE93) hG105 (hV hrg106)), hO104, (Below.grown (Ex.trans (Ex.trans (Ex.trans hf68 hE80) hE87) hE93) hG105 oM (hW hrg106)), oM, Bl, (okE.append hok71 ((okL.mk (nb rfl) (okE.cons ho85 okE.nil))).2), (by (have hq := ask_less' (rows := p_rows) (l := p_l) (got := x47) pre0 (by first | assumption | exact of_decide_eq_true (by assumption) | omega); first | exact hq | (simp only [lN]; omega))), (loopW.cont hk61 hB108).symm.trans hI62⟩
  ·refine CW.cond_t rfl (not_f hb82) (cR (sM rfl (sM rfl (sM rfl (sd rfl (yl_eql rfl rfl rfl (sA rfl (sA rfl ?_))))))))
   refine sA rfl (dn (CW.ret (tr (br (tr ?_)))))
   have hB122 : B_i_runAlone_0 p_rows p_l (x47) = .ret (x47, (i_stepOps p_l x47).2.2, decide (((i_stepOps p_l x47).1) = 3)) := by simp only [B_i_runAlone_0, hb82, cL]
   have hL121 : loopW (B_i_runAlone_0 p_rows p_l) (((p_l.filter fun o => !((([] : List DGot) : List DGot).any fun g => g.Key == o.Key)).length) + 1) (([] : List DGot)) = .ret (x47, (i_stepOps p_l x47).2.2, decide (((i_stepOps p_l x47).1) = 3)) := hI62.symm.trans (loopW.ret hk61 hB122)
   refine br (rr rfl (.cons rfl (.cons rfl (.cons rfl .nil))) ?_)
   rw [show (i_runAlone p_rows p_l) = ((x47, (i_stepOps p_l x47).2.2, decide (((i_stepOps p_l x47).1) = 3))) by simp only [i_runAlone, hb82, hL121, cL]]
   exact ⟨A48, c49, A75, c75, rfl, (RdS.wideI good_Got (OwnL.rd good_Got (OwnL.ex good_Got hf67 hE80)) oM), (RdS.wideI gW (OwnL.rd gW h75) oM), (okL.mk (xs := x47) Bl hok71), ho77, (by (try dsimp only); first | omega | assumption), (Ex.trans hf68 hE80)⟩
theorem c_g_slices_Clone_Write {A1 : Option Addr} {c1 : Nat} {w : World} (p_s : List DWrite) (h1 : RdS w (Iv 0 w.heap.size) (RF e_Write) 3 A1 p_s.length c1 p_s) (o2 : (okL ok_Write) p_s) : Cal Tryz.prog 68 #[.slice A1 p_s.length c1] w fun v w' => ∃ A_1 c_1 lo_1 hi_1, v = .slice A_1 ((g_slices_Clone_Write p_s).length) c_1 ∧ OwnL w' lo_1 hi_1 80 3 (RF e_Write) A_1 ((g_slices_Clone_Write p_s).length) c_1 (g_slices_Clone_Write p_s) ∧ (okL ok_Write) (g_slices_Clone_Write p_s) ∧ (w.heap.size ≤ lo_1 ∧ lo_1 ≤ hi_1 ∧ hi_1 ≤ w'.heap.size) ∧ Ex w w' := by
 have hol3 := o2.1
 refine Cal.of func68 rfl ntmps68 rfl (cR (sA rfl (dn (CW.seq (cR ?_)))))
 refine sM rfl (sd rfl (yl_snil un34 rfl rfl rfl (dn (bcase (A1.isNone) (fun hb4 => ?_) (fun hb4 => ?_)))))
 ·have hnil5 : p_s = [] := RdS.nilA h1 hb4
  refine CW.cond_t rfl hb4 (cR (sA rfl (dn (CW.ret (tr (rr rfl (.cons rfl .nil) ?_))))))
  rw [show (g_slices_Clone_Write p_s) = (([] : List DWrite)) by simp only [g_slices_Clone_Write, hnil5, cond_true, cond_false, loopE_done, loopE_ret, List.append_nil]]
  exact ⟨none, 0, w.heap.size, w.heap.size, rfl, (OwnL.nil _ _ _ _ _ _), (okL.nil _), oM, (Ex.refl w)⟩
 ·refine CW.cond_f rfl hb4 (CW.skip (tn (cR (sd rfl (yl_buildSlice (cs := []) un34 ty80 (by decide) rfl opvs_nil (by kernel_rfl) ?_)))))
  intro b7 w8 hs9 hz10 hB11 hE12
  have hO13 : OwnL w8 b7 (b7 + 1) 80 3 (RF e_Write) (some ⟨b7, 0, none⟩) 0 0 ([] : List DWrite) := oB hB11
  refine sM rfl ?_
  obtain ⟨nw15, he16, hs17⟩ := RdS.src (RdS.ex gW h1 hE12)
  have hol18 : p_s.length ≤ 2147483648 := o2.1
  refine sd rfl (yl_appendL (S := (fun _ => False)) (lo := b7) (hi := (b7 + 1)) (xs := ([] : List DWrite)) (ys := p_s) gW un34 ty80 rfl (nb rfl) rfl rfl rfl hO13 he16 hs17 rfl Bl Bl oM oM (fun _ h _ => False.elim h) oM ?_)
  intro A19 c20 w21 row22 hO23 hG24 hrg25
  have hG24z := hG24.size
  refine sA rfl (dn (CW.ret (rr rfl (.cons rfl .nil) ?_)))
  have hol27 : p_s.length ≤ 2147483648 := o2.1
  rw [show (g_slices_Clone_Write p_s) = ((([] : List DWrite) ++ p_s)) by simp only [g_slices_Clone_Write, cL]]
  exact ⟨A19, c20, b7, w21.heap.size, rfl, hO23, (okL.mk (xs := (([] : List DWrite) ++ p_s)) Bl (okE.append okE.nil (o2).2)), oM, (Below.grown (Ex.trans (Ex.refl w) hE12) hG24 oM (hW hrg25))⟩
theorem c_g_slices_DeleteFunc_Write {A1 : Option Addr} {c1 : Nat} {lo1 hi1 : Nat} {g3 : Nat} {cp4 : List Value} {w : World} (p_s : List DWrite) (p_f : DWrite → Bool) (h1 : OwnL w lo1 hi1 80 3 (RF e_Write) A1 p_s.length c1 p_s) (hen5 : Go.X.Enters Tryz.prog g3) (hfn6 : ∀ (w1 : World) (y0 : DWrite), Mut [(lo1, hi1)] w w1 → y0 ∈ p_s → ok_Write y0 → Cal Tryz.prog g3 (([.agg #[.string (bs y0.Key), .string (bs y0.Val), .bool y0.Gone]] : List Value) ++ cp4).toArray w1 fun v w2 => v = .bool (p_f y0) ∧ Ex w1 w2) (hrn7 : (0 ≤ lo1 ∧ lo1 ≤ hi1 ∧ hi1 ≤ w.heap.size)) (o2 : (okL ok_Write) p_s) : Cal Tryz.prog 135 #[.slice A1 p_s.length c1, .func (.func g3) #[] cp4.toArray] w fun v w' => ∃ A_1 c_1, v = .slice A_1 ((g_slices_DeleteFunc_Write p_s p_f).length) c_1 ∧ OwnL w' lo1 hi1 80 3 (RF e_Write) A_1 ((g_slices_DeleteFunc_Write p_s p_f).length) c_1 (g_slices_DeleteFunc_Write p_s p_f) ∧ (okL ok_Write) (g_slices_DeleteFunc_Write p_s p_f) ∧ Mut [(lo1, hi1)] w w' := by
 have hn := o2.1
 have hok : (okL ok_Write) (g_slices_DeleteFunc_Write p_s p_f) := ⟨Nat.le_trans (List.length_filter_le _ _) o2.1, fun x hx => o2.2 x (List.mem_filter.1 hx).1⟩
 refine Cal.of func135 rfl ntmps135 rfl (cR (sA rfl (dn (cR (sM rfl (sM rfl (sd rfl (yC en131 rfl (oc rfl (oc rfl oz)) (Cal.mono (c_g_slices_IndexFunc_Write p_s p_f (RdS.up (OwnL.rd gW h1) gW) hen5 (fun w1 y0 => fun hE => hfn6 w1 y0 (Mut.ex (Mut.refl w) hE)) o2) ?_)))))))))
 rintro v7 w8 ⟨rfl, hE9⟩
 refine sA rfl (dn (CW.seq (cR (sM rfl (sd rfl (yl_eql rfl rfl rfl (dn (bcase (decide (g_slices_IndexFunc_Write p_s p_f = -1)) (fun hb => ?_) (fun hb => ?_)))))))))
 ·have hbp := dec_t hb
  refine CW.cond_t rfl hb (cR (sM rfl (sA rfl (dn (CW.ret (tr (rr rfl (.cons rfl .nil) ?_)))))))
  have hx : ∀ x ∈ p_s, p_f x = false := by
   rcases idxF_spec p_f d_Write p_s with ⟨_, h⟩ | ⟨k, _, h, _⟩
   ·exact h
   ·rw [show g_slices_IndexFunc_Write p_s p_f = idxF p_f d_Write p_s from rfl, h] at hbp; omega
  have hM : (g_slices_DeleteFunc_Write p_s p_f) = p_s := filter_none hx
  rw [hM]
  exact ⟨_, _, rfl, OwnL.ex gW h1 hE9, o2, Mut.ex (Mut.refl w) hE9⟩
 ·have hbp := dec_f hb
  obtain ⟨i0, hi0, hS⟩ : ∃ i0 : Nat, g_slices_IndexFunc_Write p_s p_f = (i0 : Int) ∧ DF p_f p_s p_s i0 (i0 + 1) := by
   rcases idxF_spec p_f d_Write p_s with ⟨h, _⟩ | ⟨k, hk, h, ht, hbef⟩
   ·exact absurd h hbp
   ·exact ⟨k, h, DF.start hk ht hbef⟩
  have hw : IntKind.wrap .i64 (g_slices_IndexFunc_Write p_s p_f + 1) = ((i0 + 1 : Nat) : Int) := by rw [hi0, wrap_in (by have := hS.le; omega)]; rfl
  refine CW.cond_f rfl hb (CW.skip (tn (CW.seq (cR (sM rfl (sd rfl (yl_add rfl rfl rfl (sA rfl (dn (CW.block (CW.loop (fun m L w2 => ∃ (i j : Nat) (xs : List DWrite), p_s.length - j < m ∧ w.heap.size ≤ w2.heap.size ∧ lkp L 0 = some (.slice A1 p_s.length c1) ∧ lkp L 1 = some (.func (.func g3) #[] cp4.toArray) ∧ lkp L 5 = some (.int .i64 (i : Int)) ∧ lkp L 6 = some (.int .i64 (j : Int)) ∧ OwnL w2 lo1 hi1 80 3 (RF e_Write) A1 p_s.length c1 xs ∧ Mut [(lo1, hi1)] w w2 ∧ DF p_f p_s xs i j) (p_s.length + 1) ?_ ?_)))))))))))
  ·exact ⟨i0, i0 + 1, p_s, oM, Ex.size hE9, rfl, rfl, by rw [← hi0]; rfl, by rw [← hw]; rfl, OwnL.ex gW h1 hE9, Mut.ex (Mut.refl w) hE9, hS⟩
  ·rintro m L w2 ⟨i, j, xs, hm, hsz, hl0, hl1, hl5, hl6, hO, hM, hD⟩
   have hij := hD.lt
   have hjn := hD.le
   refine CW.sub (Sub.cons hl0 (Sub.cons hl1 (Sub.cons hl5 (Sub.cons hl6 (Sub.nil _))))) ?_
   refine CW.seq (cR (sM rfl (sM rfl (sd rfl (yL un34 rfl rfl (sd rfl (yl_lss rfl rfl rfl (dn (bcase (decide ((j : Int) < (p_s.length : Int))) (fun hb2 => ?_) (fun hb2 => ?_))))))))))
   ·have hj : j < p_s.length := by have := dec_t hb2; omega
    obtain ⟨eb, eo, ec, eA, _, ebl, _, eR, eC⟩ := RdS.atD (OwnL.rd gW hO) d_Write (i := j) oM
    have eC : Cells w2 eb (eo + j * 3) [.string (bs ((p_s.getD j d_Write).Key)), .string (bs ((p_s.getD j d_Write).Val)), .bool ((p_s.getD j d_Write).Gone)] := by rw [hD.get hj] at eR; have e : ec = [.string (bs ((p_s.getD j d_Write).Key)), .string (bs ((p_s.getD j d_Write).Val)), .bool ((p_s.getD j d_Write).Gone)] := eR; rw [← e]; exact eC
    refine CW.cond_t rfl hb2 (CW.skip (tn (CW.seq (CW.block (cR (sM rfl (sM rfl (sd rfl (yl_indexAddrN un34 ty80 rfl rfl rfl eA hj (sd rfl (yl_loadN (cs := [.string (bs ((p_s.getD j d_Write).Key)), .string (bs ((p_s.getD j d_Write).Val)), .bool ((p_s.getD j d_Write).Gone)]) ty80 rfl rfl eC rfl (sd rfl (yB ty80 (cs := [.string (bs (([] : Str))), .string (bs (([] : Str))), .bool (false)]) rfl rfl ?_)))))))))))))
    intro bv wv hsv hzv hBv hEv
    refine SeqR.u rfl rfl (yl_store (vs := [.string (bs ((p_s.getD j d_Write).Key)), .string (bs ((p_s.getD j d_Write).Val)), .bool ((p_s.getD j d_Write).Gone)]) ty80 rfl rfl rfl rfl rfl rfl hBv (nb rfl) ?_)
    intro wu hBu hOu
    have hBu : Box wu bv 80 [.string (bs ((p_s.getD j d_Write).Key)), .string (bs ((p_s.getD j d_Write).Val)), .bool ((p_s.getD j d_Write).Gone)] := hBu
    have hOuz := hOu.size
    have hEvz := Ex.size hEv
    have hbhi : hi1 ≤ bv := by omega
    have hOl := OwnL.only gW (OwnL.ex gW hO hEv) hOu (.inr hbhi)
    have hMu := Mut.new (Mut.ex hM hEv) hOu (.inr oM)
    refine dn (cR ?_)
    refine sM rfl (sd rfl (yl_loadN (cs := [.string (bs ((p_s.getD j d_Write).Key)), .string (bs ((p_s.getD j d_Write).Val)), .bool ((p_s.getD j d_Write).Gone)]) ty80 rfl rfl (hBu.cells (o := 0) (n := 3) rfl) rfl (sd rfl (yl_callv hen5 rfl rfl (oc rfl oz) (Cal.mono (hfn6 wu (p_s.getD j d_Write) hMu (getD_mem hj)  (okL.getD o2 ok_d_Write _)) ?_)))))
    rintro v w3 ⟨rfl, hE3⟩
    have hE3z := Ex.size hE3
    refine sd rfl (yl_not rfl rfl (dn (bcase (p_f (p_s.getD j d_Write)) (fun hb3 => ?_) (fun hb3 => ?_))))
    ·refine CW.cond_f rfl (not_t hb3) (CW.skip (bn (tn (CW.region (sM rfl (sd rfl (yl_add rfl rfl rfl (sA rfl (SeqR.done (tn ?_))))))))))
     exact ⟨m - 1, oM, i, j + 1, xs, oM, by omega, rfl, rfl, rfl, by rw [← show IntKind.wrap .i64 ((j : Int) + 1) = ((j + 1 : Nat) : Int) from wrap_in oM]; rfl, OwnL.ex gW hOl hE3, Mut.ex hMu hE3, hD.gone hj hb3⟩
    ·have hO3 := OwnL.ex gW hOl hE3
     have hB3 := Box.ex hBu hE3
     obtain ⟨fb, fo, fc, fA, _, fbl, _, _, _⟩ := OwnL.atN gW hO3 d_Write (i := i) oM
     refine CW.cond_t rfl (not_f hb3) (cR (sM rfl (sM rfl (sd rfl (yl_loadN (cs := [.string (bs ((p_s.getD j d_Write).Key)), .string (bs ((p_s.getD j d_Write).Val)), .bool ((p_s.getD j d_Write).Gone)]) ty80 rfl rfl (hB3.cells (o := 0) (n := 3) rfl) rfl (sd rfl (yl_indexAddrN un34 ty80 rfl rfl rfl fA (show i < p_s.length by omega) (SeqR.u rfl rfl (yl_storeF (enc := e_Write) (i := i) (d := 0) (x' := (p_s.getD j d_Write)) (dx := d_Write) ty80 rfl hO3 fA rfl rfl (vs := [.string (bs ((p_s.getD j d_Write).Key)), .string (bs ((p_s.getD j d_Write).Val)), .bool ((p_s.getD j d_Write).Gone)]) rfl rfl rfl oM (nb rfl) rfl rfl ?_)))))))))
     intro w4 hO4 hN4
     refine dn (CW.region (sM rfl (sd rfl (yl_add rfl rfl rfl (sA rfl (SeqR.done (bn (tn (CW.region (sM rfl (sd rfl (yl_add rfl rfl rfl (sA rfl (SeqR.done (tn ?_)))))))))))))))
     exact ⟨m - 1, oM, i + 1, j + 1, _, oM, by rw [hN4.size]; omega, rfl, rfl, by rw [← show IntKind.wrap .i64 ((i : Int) + 1) = ((i + 1 : Nat) : Int) from wrap_in oM]; rfl, by rw [← show IntKind.wrap .i64 ((j : Int) + 1) = ((j + 1 : Nat) : Int) from wrap_in oM]; rfl, hO4, Mut.only (Mut.ex hMu hE3) hN4 (Or.inl (hO3.rng (i := i) oM fb (by rw [fA]; rfl))), hD.kept hj hb3⟩
   ·have hj : j = p_s.length := by have := dec_f hb2; omega
    subst hj
    obtain ⟨ht, hik⟩ := hD.done
    refine CW.cond_f rfl hb2 (CW.exit (tx (tx ?_)))
    refine bx (tn (cR (sM rfl (sM rfl (sd rfl (yl_slice (l := i) (h := p_s.length) (kh := .i64) un34 ty80 rfl rfl (Or.inr ⟨_, rfl, rfl⟩) (Or.inl ⟨rfl, rfl⟩) oM (by have := (OwnL.rd gW hO).2.1; omega) (SeqR.u rfl rfl (yl_clearT gW un34 ty80 rfl rfl rfl rfl hO oM ?_))))))))
    intro v5 w5 hO5 hM5
    obtain ⟨fb, fo, fc, fA, _, fbl, _, _, _⟩ := OwnL.atN gW hO d_Write (i := i) oM
    have hic : i ≤ c1 := by have := (OwnL.rd gW hO).2.1; omega
    refine dn (cR (sM rfl (sM rfl (sd rfl (yl_slice (l := 0) (h := i) (kl := .i64) un34 ty80 rfl rfl (Or.inl ⟨rfl, rfl⟩) (Or.inr ⟨_, rfl, rfl⟩) (Nat.zero_le _) hic (sA rfl (dn (CW.ret (rr rfl (.cons rfl .nil) ?_)))))))))
    have e : (if c1 = 0 then A1 else A1.map (·.add (0 * 3))) = A1 := by
     split
     ·rfl
     ·rw [Nat.zero_mul]; exact headA fA
    rw [ht] at hO5
    have hz : (g_slices_DeleteFunc_Write p_s p_f).length = i := hik.symm
    rw [e, hz]
    exact ⟨_, _, rfl, hO5, hok, hM.mut hM5 fun _ h => h⟩
theorem c_i_putRows_c1 {w : World} (p_x : DWrite) (o1 : ok_Write p_x) : Cal Tryz.prog 136 #[.agg #[.string (bs (p_x.Key)), .string (bs (p_x.Val)), .bool (p_x.Gone)]] w fun v w' => v = .bool ((i_putRows_c1 p_x)) ∧ Ex w w' := by
 refine Cal.of func136 rfl ntmps136 rfl (cR (sd rfl (yl_box rfl rfl rfl ?_)))
 intro b4 w5 hs6 hz7 hB8 hE9
 refine sA rfl (dn (cR (sd rfl (yl_fieldAddr fd80_2 rfl rfl (sd rfl (yl_load1 ty4 rfl rfl ((hB8.cell 2).trans rfl) (sA rfl (SeqR.done ?_))))))))
 refine tn (CW.ret (rr rfl (.cons rfl .nil) ?_))
 rw [show (i_putRows_c1 p_x) = (p_x.Gone) by simp only [i_putRows_c1, cL]]
 exact ⟨rfl, (Ex.trans (Ex.refl w) hE9)⟩
theorem c_i_putRows {A1 : Option Addr} {c1 : Nat} {A3 : Option Addr} {c3 : Nat} {w : World} (p_rows : List DWrite) (p_w : List DWrite) (h1 : RdS w (Iv 0 w.heap.size) (RF e_Write) 3 A1 p_rows.length c1 p_rows) (h3 : RdS w (Iv 0 w.heap.size) (RF e_Write) 3 A3 p_w.length c3 p_w) (o2 : (okL ok_Write) p_rows) (o4 : (okL ok_Write) p_w) (pre0 : p_rows.length ≤ 100) (pre1 : p_w.length ≤ 100) : Cal Tryz.prog 82 #[.slice A1 p_rows.length c1, .slice A3 p_w.length c3] w fun v w' => ∃ A_1 c_1 lo_1 hi_1, v = .tuple #[.slice A_1 (((i_putRows p_rows p_w).1).length) c_1, .bool ((i_putRows p_rows p_w).2)] ∧ OwnL w' lo_1 hi_1 80 3 (RF e_Write) A_1 (((i_putRows p_rows p_w).1).length) c_1 ((i_putRows p_rows p_w).1) ∧ (okL ok_Write) ((i_putRows p_rows p_w).1) ∧ (w.heap.size ≤ lo_1 ∧ lo_1 ≤ hi_1 ∧ hi_1 ≤ w'.heap.size) ∧ Ex w w' := by
 have hol5 := o2.1
 have hol6 := o4.1
 refine Cal.of func82 rfl ntmps82 rfl (cR (sA rfl (sA rfl (dn (cR ?_)))))
 refine sM rfl (sd rfl (yC en68 rfl (oc rfl oz) (Cal.mono (c_g_slices_Clone_Write p_rows (RdS.up h1 gW) o2) ?_)))
 rintro v10 w7 ⟨A8, c8, lo8, hi8, rfl, h8, ho9, hrn12, hE11⟩
 have hE11z := Ex.size hE11
 have hrf13 := clone_len p_rows
 refine sA rfl (dn (CW.seq (cR (sM rfl (sd rfl (yL un34 rfl rfl (sM rfl ?_)))))))
 refine dn (CW.block (CW.loop (fun m55 L56 w57 => ∃ (k14 : Nat) (x50 : List DWrite) (A51 : Option Addr) (c52 : Nat) (u53 : Nat) (lo54 : Nat), m55 = p_w.length - k14 ∧ k14 ≤ p_w.length ∧ w7.heap.size ≤ w57.heap.size ∧ Sub [(6, .slice A51 x50.length c52), (11, .slice A3 p_w.length c3), (12, .int .i64 ((p_w.length : Int))), (13, .int .i64 ((k14 : Int)))] L56 ∧ OwnL w57 lo54 u53 80 3 (RF e_Write) A51 x50.length c52 x50 ∧ RdS w57 (Iv 0 w.heap.size) (RF e_Write) 3 A3 p_w.length c3 p_w ∧ Ex w w57 ∧ (lo8 ≤ lo54 ∧ lo54 ≤ u53 ∧ u53 ≤ w57.heap.size) ∧ x50.length ≤ (g_slices_Clone_Write p_rows).length + 1 * (k14 - 0) ∧ (∀ y ∈ x50, ok_Write y) ∧ loopM (B_i_putRows_0 p_rows p_w) (p_w.length - k14) k14 (x50) = loopM (B_i_putRows_0 p_rows p_w) (p_w.length - 0) 0 ((g_slices_Clone_Write p_rows))) (p_w.length - 0) ?_ ?_))
 ·exact ⟨0, (g_slices_Clone_Write p_rows), A8, c8, hi8, lo8, rfl, oM, Nat.le_refl _, (sR rfl), h8, (RdS.ex gW h3 hE11), (Ex.trans (Ex.refl w) hE11), oM, (by first | (simp; done) | (first | omega | (simp only [lN, toS_length]; omega))), (ho9).2, rfl⟩
 ·rintro m60 L61 w62 ⟨k14, x50, A51, c52, u53, lo54, rfl, hk63, hsz65, hl66, hf67, hf68, hf69, hu70, hln71, hok72, hI64⟩
  refine CW.sub hl66 ?_
  have hf69z := Ex.size hf69
  have hbg73 := RdS.big hf68
  rcases Nat.lt_or_ge k14 p_w.length with hlt74 | hlt74
  ·refine cR (sd rfl (yl_lss rfl rfl rfl (dn (CW.seq (CW.cond_t rfl (lt_t hlt74) (CW.skip (tn ?_)))))))
   refine CW.seq (CW.block (cR ?_))
   obtain ⟨_, _, _, eA75, _, ebl75, _, eR75, eC75⟩ := RdS.atD hf68 d_Write (i := k14) Bo
   obtain rfl := eR75
   refine sd rfl (yl_ixN un34 ty80 rfl rfl rfl eA75 (sd rfl (yl_loadN ty80 rfl rfl eC75 rfl (sd rfl (yB ty80 (cs := [.string (bs (([] : Str))), .string (bs (([] : Str))), .bool (false)]) rfl rfl ?_)))))
   intro b76 w77 hs78 hz79 hB80 hE81
   refine SeqR.u rfl rfl (yl_storeA (vs := [.string (bs ((p_w.getD k14 d_Write).Key)), .string (bs ((p_w.getD k14 d_Write).Val)), .bool ((p_w.getD k14 d_Write).Gone)]) ty80 rfl rfl rfl rfl rfl rfl hB80 rfl ?_)
   intro w82 hB83 hO84
   have hO84z := hO84.size
   refine dn (CW.region (sM rfl (sd rfl (yl_loadN ty80 rfl rfl (hB83.cells (n := 3) rfl) rfl (sd rfl (yC en134 rfl (oc rfl (oc rfl oz)) (Cal.mono (c_i_putWrite x50 (p_w.getD k14 d_Write) (OwnL.only gW (OwnL.ex gW hf67 hE81) hO84 oM) oM (okL.mk (xs := x50) Bl hok72) (okL.getD o4 ok_d_Write _) Bo) ?_)))))))
   rintro v90 w87 ⟨A88, c88, lo88, hi88, rfl, h88, ho89, hdj92, hm91⟩
   have hm91z := Mut.size hm91
   have hrf93 := putWrite_len x50 (p_w.getD k14 d_Write)
   refine sA rfl (SeqR.done (bn (tn (CW.region (sd rfl (yl_inc rfl rfl rfl oM (sM rfl (dn ?_))))))))
   have hB94 : B_i_putRows_0 p_rows p_w k14 (x50) = .cont ((i_putWrite x50 (p_w.getD k14 d_Write))) := by simp only [B_i_putRows_0, cL]
   exact ⟨p_w.length - (k14 + 1), oM, k14 + 1, (i_putWrite x50 (p_w.getD k14 d_Write)), A88, c88, hi88, lo88, rfl, hlt74, oM, (sR rfl), h88, (RdS.mut gW (RdS.only gW (RdS.ex gW hf68 hE81) hO84 iV) hm91 kJ), (Ex.mut (Below.only (Ex.trans hf69 hE81) hO84 oM) hm91 kR), oM, Bl, (ho89).2, (loopM.cont hlt74 hB94).symm.trans hI64⟩
  ·refine cR (sd rfl (yl_lss rfl rfl rfl (dn (CW.seq (CW.cond_f rfl (lt_f hlt74) (CW.exit (tx ?_)))))))
   refine tx ?_
   have hL101 : loopM (B_i_putRows_0 p_rows p_w) (p_w.length - 0) 0 ((g_slices_Clone_Write p_rows)) = .done (x50) := hI64.symm.trans (loopM.stop hlt74)
   refine bx (tn (cR (sM rfl (sd rfl (yC en135 rfl (oc rfl (oc rfl oz)) (Cal.mono (c_g_slices_DeleteFunc_Write x50 (fun y0 => i_putRows_c1 y0) hf67 en136 (fun _ y0 => fun hE hm0 ov0 => c_i_putRows_c1 y0 ov0) oM (okL.mk (xs := x50) Bl hok72)) ?_))))))
   rintro v105 w102 ⟨A103, c103, rfl, h103, ho104, hm106⟩
   have hm106z := Mut.size hm106
   refine sA rfl (dn (CW.seq (cR (sM rfl (sd rfl (yL un34 rfl rfl (sd rfl (yl_gtr rfl rfl rfl ?_))))))))
   refine dn (bcD (q := 24 < ((g_slices_DeleteFunc_Write x50 (fun y0 => i_putRows_c1 y0)).length : Int)) (fun hb107 hb107p => ?_) (fun hb107 hb107p => ?_))
   ·refine CW.cond_t rfl hb107 (cR (sA rfl (sA rfl (dn (CW.ret (tr ?_))))))
    refine rr rfl (.cons rfl (.cons rfl .nil)) ?_
    rw [show (i_putRows p_rows p_w) = ((([] : List DWrite), false)) by simp only [i_putRows, hb107, hL101, cL]]
    exact ⟨none, 0, w102.heap.size, w102.heap.size, rfl, (OwnL.nil _ _ _ _ _ _), (okL.nil _), oM, (Ex.mut hf69 hm106 kR)⟩
   ·refine CW.cond_f rfl hb107 (CW.skip (tn (cR (sM rfl (sA rfl (sA rfl (SeqR.done ?_)))))))
    refine tn (CW.ret (rr rfl (.cons rfl (.cons rfl .nil)) ?_))
    rw [show (i_putRows p_rows p_w) = (((g_slices_DeleteFunc_Write x50 (fun y0 => i_putRows_c1 y0)), true)) by simp only [i_putRows, hb107, hL101, cL]]
    exact ⟨A103, c103, lo54, u53, rfl, h103, ho104, oM, (Ex.mut hf69 hm106 kR)⟩
theorem c_i_runOps {A1 : Option Addr} {c1 : Nat} {A3 : Option Addr} {c3 : Nat} {w : World} (ps : List DWrite) (p_ops : List DOp) (h1 : RdS w (Iv 0 w.heap.size) (RF e_Write) 3 A1 ps.length c1 ps) (h3 : RdS w (Iv 0 w.heap.size) (RF e_Op) 4 A3 p_ops.length c3 p_ops) (o2 : (okL ok_Write) ps) (o4 : (okL ok_Op) p_ops) (pre0 : ps.length ≤ 100) (pre1 : ∀ y ∈ p_ops, y.Kind ≠ 4) (pre2 : p_ops.length ≤ 100) (hgb : GT 4 5 1 w) : Cal Tryz.prog 48 #[.slice A1 ps.length c1, .slice A3 p_ops.length c3] w fun v w' => ∃ A_1 c_1 lo_1 hi_1, v = .tuple #[.slice A_1 (((i_runOps ps p_ops).1).length) c_1, .bool ((i_runOps ps p_ops).2)] ∧ OwnL w' lo_1 hi_1 80 3 (RF e_Write) A_1 (((i_runOps ps p_ops).1).length) c_1 ((i_runOps ps p_ops).1) ∧ (okL ok_Write) ((i_runOps ps p_ops).1) ∧ (w.heap.size ≤ lo_1 ∧ lo_1 ≤ hi_1 ∧ hi_1 ≤ w'.heap.size) ∧ Ex w w' := by
 have hol5 := o2.1
 have hol6 := o4.1
 refine Cal.of func48 rfl ntmps48 rfl (cR (sA rfl (sA rfl (dn (cR ?_)))))
 refine sM rfl (sM rfl (sd rfl (yC en81 rfl (oc rfl (oc rfl oz)) (Cal.mono (c_i_runAlone ps p_ops (RdS.up h1 gW) (RdS.up h3 good_Op) o2 o4 Bo Bo (hgb.ex (Ex.refl w))) ?_))))
 rintro v13 w7 ⟨A8, c8, A9, c9, rfl, h8, h9, ho10, ho11, hp12, hE14⟩
 have hE14z := Ex.size hE14
 refine sM rfl (sd rfl (yl_extract rfl rfl rfl (sd rfl (yl_extract rfl rfl rfl (sd rfl (yl_extract rfl rfl rfl (sA rfl (sA rfl (sA rfl (dn ?_))))))))))
 refine cR (sM rfl (sM rfl ?_))
 have q15 := RdS.ex gW h1 hE14
 refine sd rfl (yC en82 rfl (oc rfl (oc rfl oz)) (Cal.mono (c_i_putRows ps ((i_runAlone ps p_ops).2.1) (RdS.up q15 gW) (RdS.up h9 gW) o2 ho11 Bo Bo) ?_))
 rintro v19 w16 ⟨A17, c17, lo17, hi17, rfl, h17, ho18, hrn21, hE20⟩
 have hE20z := Ex.size hE20
 refine sM rfl (sd rfl (yl_extract rfl rfl rfl (sd rfl (yl_extract rfl rfl rfl (sA rfl (sA rfl (dn (CW.seq (CW.seq ?_)))))))))
 refine CW.region (sM rfl (sd rfl (yl_not rfl rfl (sM rfl (bcase ((i_runAlone ps p_ops).2.2) (fun hb22 => ?_) (fun hb22 => ?_))))))
 ·refine sy rfl rfl (not_t hb22) (yM rfl rfl (sy rfl rfl (not_t hb22) (yl_not rfl rfl (sd rfl (yl_pick_f rfl rfl (not_t hb22) rfl (dn (bcase ((i_putRows ps ((i_runAlone ps p_ops).2.1)).2) (fun hb23 => ?_) (fun hb23 => ?_))))))))
  ·refine CW.cond_f rfl (not_t hb23) (CW.skip (tn (cR (sM rfl (sA rfl (sA rfl (SeqR.done ?_)))))))
   refine tn (CW.ret (rr rfl (.cons rfl (.cons rfl .nil)) ?_))
   rw [show (i_runOps ps p_ops) = (((i_putRows ps ((i_runAlone ps p_ops).2.1)).1, true)) by simp only [i_runOps, hb22, hb23, cL]]
   exact ⟨A17, c17, lo17, hi17, rfl, h17, ho18, oM, (Ex.trans (Ex.trans (Ex.refl w) hE14) hE20)⟩
  ·refine CW.cond_t rfl (not_f hb23) (cR (sM rfl ?_))
   obtain ⟨nw28, he29, hs30⟩ := RdS.src (RdS.ex gW q15 hE20)
   have hol31 : ps.length ≤ 2147483648 := o2.1
   refine sd rfl (yl_appendL (S := (fun _ => False)) (lo := w16.heap.size) (hi := w16.heap.size) (xs := ([] : List DWrite)) (ys := ps) gW un34 ty80 rfl (nb rfl) rfl rfl rfl (OwnL.nil w16 w16.heap.size w16.heap.size 80 3 (RF e_Write)) he29 hs30 rfl Bl Bl oM oM (fun _ h _ => False.elim h) oM ?_)
   intro A32 c33 w34 row35 hO36 hG37 hrg38
   have hG37z := hG37.size
   refine sA rfl (sA rfl (dn (CW.ret (tr (rr rfl (.cons rfl (.cons rfl .nil)) ?_)))))
   have hol40 : ps.length ≤ 2147483648 := o2.1
   rw [show (i_runOps ps p_ops) = (((([] : List DWrite) ++ ps), false)) by simp only [i_runOps, hb22, hb23, cL]]
   exact ⟨A32, c33, w16.heap.size, w34.heap.size, rfl, hO36, (okL.mk (xs := (([] : List DWrite) ++ ps)) Bl (okE.append okE.nil (o2).2)), oM, (Below.grown (Ex.trans (Ex.trans (Ex.refl w) hE14) hE20) hG37 oM (hW hrg38))⟩
 ·refine sz rfl rfl (not_f hb22) (sz rfl rfl (not_f hb22) (sd rfl (yl_pick_t rfl rfl (not_f hb22) rfl (dn (CW.cond_t rfl rfl (cR (sM rfl ?_)))))))
  obtain ⟨nw45, he46, hs47⟩ := RdS.src (RdS.ex gW q15 hE20)
  have hol48 : ps.length ≤ 2147483648 := o2.1
  refine sd rfl (yl_appendL (S := (fun _ => False)) (lo := w16.heap.size) (hi := w16.heap.size) (xs := ([] : List DWrite)) (ys := ps) gW un34 ty80 rfl (nb rfl) rfl rfl rfl (OwnL.nil w16 w16.heap.size w16.heap.size 80 3 (RF e_Write)) he46 hs47 rfl Bl Bl oM oM (fun _ h _ => False.elim h) oM ?_)
  intro A49 c50 w51 row52 hO53 hG54 hrg55
  have hG54z := hG54.size
  refine sA rfl (sA rfl (dn (CW.ret (tr (rr rfl (.cons rfl (.cons rfl .nil)) ?_)))))
  have hol57 : ps.length ≤ 2147483648 := o2.1
  rw [show (i_runOps ps p_ops) = (((([] : List DWrite) ++ ps), false)) by simp only [i_runOps, hb22, cL]]
  exact ⟨A49, c50, w16.heap.size, w51.heap.size, rfl, hO53, (okL.mk (xs := (([] : List DWrite) ++ ps)) Bl (okE.append okE.nil (o2).2)), oM, (Below.grown (Ex.trans (Ex.trans (Ex.refl w) hE14) hE20) hG54 oM (hW hrg55))⟩
theorem c_g_slices_IndexFunc_task {A1 : Option Addr} {c1 : Nat} {g3 : Nat} {cp4 : List Value} {w : World} (p_s : List DTask) (p_f : DTask → Bool) (h1 : RdS w (Iv 0 w.heap.size) R_Task 2 A1 p_s.length c1 p_s) (hen5 : Go.X.Enters Tryz.prog g3) (hfn6 : ∀ (w1 : World) (y0 : DTask) {A7 : Option Addr} {c7 : Nat}, Ex w w1 → y0 ∈ p_s → RdS w1 (Iv 0 w1.heap.size) (RF e_Op) 4 A7 y0.ops.length c7 y0.ops → ok_Task y0 → Cal Tryz.prog g3 (([.agg #[.string (bs (y0.key)), .slice A7 y0.ops.length c7]] : List Value) ++ cp4).toArray w1 fun v w2 => v = .bool (p_f y0) ∧ Ex w1 w2) (o2 : (okL ok_Task) p_s) : Cal Tryz.prog 143 #[.slice A1 p_s.length c1, .func (.func g3) #[] cp4.toArray] w fun v w' => v = .int .i64 ((g_slices_IndexFunc_task p_s p_f)) ∧ Ex w w' := by
 have hol8 := o2.1
 refine Cal.of func143 rfl ntmps143 rfl (cR (sA rfl (dn (CW.seq (cR ?_)))))
 refine sM rfl (sd rfl (yL un97 rfl rfl (sM rfl (dn (CW.block (CW.loop (fun m10 L11 w12 => ∃ (k9 : Nat), m10 = p_s.length - k9 ∧ k9 ≤ p_s.length ∧ w.heap.size ≤ w12.heap.size ∧ Sub [(0, .slice A1 p_s.length c1), (1, .func (.func g3) #[] cp4.toArray), (7, .int .i64 ((p_s.length : Int))), (8, .int .i64 ((k9 : Int)))] L11 ∧ RdS w12 (Iv 0 w.heap.size) R_Task 2 A1 p_s.length c1 p_s ∧ Ex w w12 ∧ loopM (B_g_slices_IndexFunc_task_0 p_s p_f) (p_s.length - k9) k9 () = loopM (B_g_slices_IndexFunc_task_0 p_s p_f) (p_s.length - 0) 0 ()) (p_s.length - 0) ?_ ?_))))))
 ·exact ⟨0, rfl, oM, Nat.le_refl _, (sR rfl), h1, (Ex.refl w), rfl⟩
 ·rintro m13 L14 w15 ⟨k9, rfl, hk16, hsz18, hl19, hf20, hf21, hI17⟩
  refine CW.sub hl19 ?_
  have hf21z := Ex.size hf21
  have hbg22 := RdS.big hf20
  rcases Nat.lt_or_ge k9 p_s.length with hlt23 | hlt23
  ·refine cR (sd rfl (yl_lss rfl rfl rfl (dn (CW.seq (CW.cond_t rfl (lt_t hlt23) (CW.skip (tn ?_)))))))
   refine CW.seq (CW.block (cR (sM rfl (sA rfl (dn (CW.seq ?_))))))
   refine CW.region (sM rfl (sM rfl (sM rfl ?_)))
   obtain ⟨_, _, _, eA24, _, ebl24, _, eR24, eC24⟩ := RdS.aD hf20 d_Task (i := k9)
   obtain ⟨A25, c25, rfl, h25⟩ := eR24
   refine sd rfl (yl_ixN un97 ty135 rfl rfl rfl eA24 (sd rfl (yl_loadN ty135 rfl rfl eC24 rfl (sd rfl (yl_callv hen5 rfl rfl (oc rfl oz) (Cal.mono (hfn6 w15 (p_s.getD k9 d_Task) hf21 (getD_mem oM) (RdS.up h25 good_Op) (okL.getD o2 ok_d_Task _)) ?_))))))
   rintro v27 w26 ⟨rfl, hE28⟩
   have hE28z := Ex.size hE28
   refine dn (bcase (p_f (p_s.getD k9 d_Task)) (fun hb29 => ?_) (fun hb29 => ?_))
   ·refine CW.cond_t rfl hb29 (cR (sM rfl (sA rfl (dn (CW.ret (br ?_))))))
    refine tr (tr ?_)
    have hB31 : B_g_slices_IndexFunc_task_0 p_s p_f k9 () = .ret (k9 : Int) := by simp only [B_g_slices_IndexFunc_task_0, hb29, cL]
    have hL30 : loopM (B_g_slices_IndexFunc_task_0 p_s p_f) (p_s.length - 0) 0 () = .ret (k9 : Int) := hI17.symm.trans (loopM.ret hlt23 hB31)
    refine br (tr (rr rfl (.cons rfl .nil) ?_))
    rw [show (g_slices_IndexFunc_task p_s p_f) = ((k9 : Int)) by simp only [g_slices_IndexFunc_task, hb29, hL30, cL]]
    exact ⟨rfl, (Ex.trans hf21 hE28)⟩
   ·refine CW.cond_f rfl hb29 (CW.skip (bn (tn (CW.region (sd rfl (yl_inc rfl rfl rfl oM (sM rfl (dn ?_))))))))
    have hB34 : B_g_slices_IndexFunc_task_0 p_s p_f k9 () = .cont () := by simp only [B_g_slices_IndexFunc_task_0, hb29, cL]
    exact ⟨p_s.length - (k9 + 1), oM, k9 + 1, rfl, hlt23, oM, (sR rfl), (RdS.ex good_Task hf20 hE28), (Ex.trans hf21 hE28), (loopM.cont hlt23 hB34).symm.trans hI17⟩
  ·refine cR (sd rfl (yl_lss rfl rfl rfl (dn (CW.seq (CW.cond_f rfl (lt_f hlt23) (CW.exit (tx ?_)))))))
   refine tx ?_
   have hL37 : loopM (B_g_slices_IndexFunc_task_0 p_s p_f) (p_s.length - 0) 0 () = .done () := hI17.symm.trans (loopM.stop hlt23)
   refine bx (tn (cR (sA rfl (dn (CW.ret (rr rfl (.cons rfl .nil) ?_))))))
   rw [show (g_slices_IndexFunc_task p_s p_f) = (-1) by simp only [g_slices_IndexFunc_task, hL37, cL]]
   exact ⟨rfl, hf21⟩
theorem c_g_slices_DeleteFunc_task {A1 : Option Addr} {c1 : Nat} {lo1 hi1 K : Nat} {g3 : Nat} {cp4 : List Value} {w : World} (p_s : List DTask) (p_f : DTask → Bool) (h1 : OwnB K w lo1 hi1 A1 p_s.length c1 p_s) (hen5 : Go.X.Enters Tryz.prog g3) (hfn6 : ∀ (w1 : World) (y0 : DTask) {A71 : Option Addr} {c71 : Nat}, Mut [(lo1, hi1)] w w1 → y0 ∈ p_s → RdS w1 (Iv 0 w1.heap.size) (RF e_Op) 4 A71 y0.ops.length c71 y0.ops → ok_Task y0 → Cal Tryz.prog g3 (([.agg #[.string (bs y0.key), .slice A71 y0.ops.length c71]] : List Value) ++ cp4).toArray w1 fun v w2 => v = .bool (p_f y0) ∧ Ex w1 w2) (hrn7 : (0 ≤ lo1 ∧ lo1 ≤ hi1 ∧ hi1 ≤ w.heap.size)) (o2 : (okL ok_Task) p_s) : Cal Tryz.prog 97 #[.slice A1 p_s.length c1, .func (.func g3) #[] cp4.toArray] w fun v w' => ∃ A_1 c_1, v = .slice A_1 ((g_slices_DeleteFunc_task p_s p_f).length) c_1 ∧ RdS w' (fun q => Iv 0 K q ∨ Iv lo1 hi1 q) R_Task 2 A_1 ((g_slices_DeleteFunc_task p_s p_f).length) c_1 (g_slices_DeleteFunc_task p_s p_f) ∧ (okL ok_Task) (g_slices_DeleteFunc_task p_s p_f) ∧ Mut [(lo1, hi1)] w w' := by
  have hn := o2.1
  have hok : (okL ok_Task) (g_slices_DeleteFunc_task p_s p_f) := ⟨Nat.le_trans (List.length_filter_le _ _) o2.1, fun x hx => o2.2 x (List.mem_filter.1 hx).1⟩
  obtain ⟨ps, hps, h1, hsd, hKl⟩ := h1
  have hl : ps.length = p_s.length := by rw [← hps, List.length_map]
  have hpi : ∀ (j : Nat) (h : j < ps.length), p_s.getD j d_Task = (ps.getD j d_RT).2 ∧ (ps.getD j d_RT) ∈ ps := fun j h => by
    constructor
    · rw [List.getD_eq_getElem?_getD, List.getD_eq_getElem?_getD, ← hps, List.getElem?_map, List.getElem?_eq_getElem h]; rfl
    · exact getD_mem h
  have hmodel : g_slices_DeleteFunc_task p_s p_f = (ps.filter fun q => !p_f q.2).map (·.2) := by
    show p_s.filter _ = _
    rw [← hps, List.filter_map]; rfl
  have hrd : RdS w (Iv 0 w.heap.size) R_Task 2 A1 p_s.length c1 p_s := by
    have := rd_un h1 hsd
    rw [hps] at this
    exact RdS.up this good_Task
  refine Cal.of func97 rfl ntmps97 rfl (cR (sA rfl (dn (cR (sM rfl (sM rfl (sd rfl (yC en143 rfl (oc rfl (oc rfl oz)) (Cal.mono (c_g_slices_IndexFunc_task p_s p_f hrd hen5 (fun w1 y0 => fun hE => hfn6 w1 y0 (Mut.ex (Mut.refl w) hE)) o2) ?_)))))))))
  rintro v7 w8 ⟨rfl, hE9⟩
  refine sA rfl (dn (CW.seq (cR (sM rfl (sd rfl (yl_eql rfl rfl rfl (dn (bcase (decide (g_slices_IndexFunc_task p_s p_f = -1)) (fun hb => ?_) (fun hb => ?_)))))))))
  · have hbp := dec_t hb
    refine CW.cond_t rfl hb (cR (sM rfl (sA rfl (dn (CW.ret (tr (rr rfl (.cons rfl .nil) ?_)))))))
    have hx : ∀ x ∈ p_s, p_f x = false := by
      rcases idxF_spec p_f d_Task p_s with ⟨_, h⟩ | ⟨k, _, h, _⟩
      · exact h
      · rw [show g_slices_IndexFunc_task p_s p_f = idxF p_f d_Task p_s from rfl, h] at hbp; omega
    have hM : (g_slices_DeleteFunc_task p_s p_f) = p_s := filter_none hx
    rw [hM]
    have := rd_un (OwnL.ex good_RT h1 hE9) fun p hp => (hsd p hp).ex hE9
    rw [hps] at this
    exact ⟨_, _, rfl, this, o2, Mut.ex (Mut.refl w) hE9⟩
  · have hbp := dec_f hb
    obtain ⟨i0, hi0, hS⟩ : ∃ i0 : Nat, g_slices_IndexFunc_task p_s p_f = (i0 : Int) ∧ DF (fun q : DRT => p_f q.2) ps ps i0 (i0 + 1) := by
      rcases idxF_spec p_f d_Task p_s with ⟨h, _⟩ | ⟨k, hk, h, ht, hbef⟩
      · exact absurd h hbp
      · refine ⟨k, h, ?_⟩
        subst hps
        exact DF.start (by rw [List.length_map] at hk; exact hk) (by rw [List.getElem_map] at ht; exact ht) fun j hj => by have := hbef j hj; rw [List.getElem_map] at this; exact this
    have hw : IntKind.wrap .i64 (g_slices_IndexFunc_task p_s p_f + 1) = ((i0 + 1 : Nat) : Int) := by rw [hi0, wrap_in (by have := hS.le; omega)]; rfl
    refine CW.cond_f rfl hb (CW.skip (tn (CW.seq (cR (sM rfl (sd rfl (yl_add rfl rfl rfl (sA rfl (dn (CW.block (CW.loop (fun m L w2 => ∃ (i j : Nat) (xs : List DRT), p_s.length - j < m ∧ w.heap.size ≤ w2.heap.size ∧ lkp L 0 = some (.slice A1 p_s.length c1) ∧ lkp L 1 = some (.func (.func g3) #[] cp4.toArray) ∧ lkp L 5 = some (.int .i64 (i : Int)) ∧ lkp L 6 = some (.int .i64 (j : Int)) ∧ OwnL w2 lo1 hi1 135 2 (RF e_RT) A1 p_s.length c1 xs ∧ Mut [(lo1, hi1)] w w2 ∧ DF (fun q : DRT => p_f q.2) ps xs i j) (p_s.length + 1) ?_ ?_)))))))))))
    · exact ⟨i0, i0 + 1, ps, oM, Ex.size hE9, rfl, rfl, by rw [← hi0]; rfl, by rw [← hw]; rfl, OwnL.ex good_RT h1 hE9, Mut.ex (Mut.refl w) hE9, hS⟩
    · rintro m L w2 ⟨i, j, xs, hm, hsz, hl0, hl1, hl5, hl6, hO, hM, hD⟩
      have hij := hD.lt
      have hjn := hD.le
      refine CW.sub (Sub.cons hl0 (Sub.cons hl1 (Sub.cons hl5 (Sub.cons hl6 (Sub.nil _))))) ?_
      refine CW.seq (cR (sM rfl (sM rfl (sd rfl (yL un97 rfl rfl (sd rfl (yl_lss rfl rfl rfl (dn (bcase (decide ((j : Int) < (p_s.length : Int))) (fun hb2 => ?_) (fun hb2 => ?_))))))))))
      · have hj : j < ps.length := by have := dec_t hb2; omega
        obtain ⟨hY, hYm⟩ := hpi j hj
        obtain ⟨eb, eo, ec, eA, _, ebl, _, eR, eC⟩ := RdS.atD (OwnL.rd good_RT hO) d_RT (i := j) oM
        have eC : Cells w2 eb (eo + j * 2) [.string (bs ((ps.getD j d_RT).2.key)), .slice (ps.getD j d_RT).1.1 (ps.getD j d_RT).2.ops.length (ps.getD j d_RT).1.2] := by rw [hD.get hj] at eR; have e : ec = [.string (bs ((ps.getD j d_RT).2.key)), .slice (ps.getD j d_RT).1.1 (ps.getD j d_RT).2.ops.length (ps.getD j d_RT).1.2] := eR; rw [← e]; exact eC
        refine CW.cond_t rfl hb2 (CW.skip (tn (CW.seq (CW.block (cR (sM rfl (sM rfl (sd rfl (yl_indexAddrN un97 ty135 rfl rfl rfl eA oM (sd rfl (yl_loadN (cs := [.string (bs ((ps.getD j d_RT).2.key)), .slice (ps.getD j d_RT).1.1 (ps.getD j d_RT).2.ops.length (ps.getD j d_RT).1.2]) ty135 rfl rfl eC rfl (sd rfl (yB ty135 (cs := [.string (bs (([] : Str))), .slice none 0 0]) rfl rfl ?_)))))))))))))
        intro bv wv hsv hzv hBv hEv
        refine SeqR.u rfl rfl (yl_store (vs := [.string (bs ((ps.getD j d_RT).2.key)), .slice (ps.getD j d_RT).1.1 (ps.getD j d_RT).2.ops.length (ps.getD j d_RT).1.2]) ty135 rfl rfl rfl rfl rfl rfl hBv (nb rfl) ?_)
        intro wu hBu hOu
        have hBu : Box wu bv 135 [.string (bs ((ps.getD j d_RT).2.key)), .slice (ps.getD j d_RT).1.1 (ps.getD j d_RT).2.ops.length (ps.getD j d_RT).1.2] := hBu
        have hOuz := hOu.size
        have hEvz := Ex.size hEv
        have hbhi : hi1 ≤ bv := by omega
        have hOl := OwnL.only good_RT (OwnL.ex good_RT hO hEv) hOu (.inr hbhi)
        have hMu := Mut.new (Mut.ex hM hEv) hOu (.inr oM)
        refine dn (cR ?_)
        refine sM rfl (sd rfl (yl_loadN (cs := [.string (bs ((ps.getD j d_RT).2.key)), .slice (ps.getD j d_RT).1.1 (ps.getD j d_RT).2.ops.length (ps.getD j d_RT).1.2]) ty135 rfl rfl (hBu.cells (o := 0) (n := 2) rfl) rfl (sd rfl (yl_callv hen5 rfl rfl (oc rfl oz) (Cal.mono (hfn6 wu (ps.getD j d_RT).2 hMu (by rw [← hps]; exact List.mem_map_of_mem hYm) (RdS.up ((hsd _ hYm).mut hMu hKl) good_Op) (o2.2 _ (by rw [← hps]; exact List.mem_map_of_mem hYm))) ?_)))))
        rintro v w3 ⟨rfl, hE3⟩
        have hE3z := Ex.size hE3
        refine sd rfl (yl_not rfl rfl (dn (bcase (p_f (ps.getD j d_RT).2) (fun hb3 => ?_) (fun hb3 => ?_))))
        · refine CW.cond_f rfl (not_t hb3) (CW.skip (bn (tn (CW.region (sM rfl (sd rfl (yl_add rfl rfl rfl (sA rfl (SeqR.done (tn ?_))))))))))
          exact ⟨m - 1, oM, i, j + 1, xs, oM, by omega, rfl, rfl, rfl, by rw [← show IntKind.wrap .i64 ((j : Int) + 1) = ((j + 1 : Nat) : Int) from wrap_in oM]; rfl, OwnL.ex good_RT hOl hE3, Mut.ex hMu hE3, hD.gone hj hb3⟩
        · have hO3 := OwnL.ex good_RT hOl hE3
          have hB3 := Box.ex hBu hE3
          obtain ⟨fb, fo, fc, fA, _, fbl, _, _, _⟩ := RdS.atD (OwnL.rd good_RT hO3) d_RT (i := i) oM
          refine CW.cond_t rfl (not_f hb3) (cR (sM rfl (sM rfl (sd rfl (yl_loadN (cs := [.string (bs ((ps.getD j d_RT).2.key)), .slice (ps.getD j d_RT).1.1 (ps.getD j d_RT).2.ops.length (ps.getD j d_RT).1.2]) ty135 rfl rfl (hB3.cells (o := 0) (n := 2) rfl) rfl (sd rfl (yl_indexAddrN un97 ty135 rfl rfl rfl fA (show i < p_s.length by omega) (SeqR.u rfl rfl (yl_storeF (enc := e_RT) (i := i) (d := 0) (x' := (ps.getD j d_RT)) (dx := d_RT) ty135 rfl hO3 fA rfl rfl (vs := [.string (bs ((ps.getD j d_RT).2.key)), .slice (ps.getD j d_RT).1.1 (ps.getD j d_RT).2.ops.length (ps.getD j d_RT).1.2]) rfl rfl rfl oM (nb rfl) rfl rfl ?_)))))))))
          intro w4 hO4 hN4
          refine dn (CW.region (sM rfl (sd rfl (yl_add rfl rfl rfl (sA rfl (SeqR.done (bn (tn (CW.region (sM rfl (sd rfl (yl_add rfl rfl rfl (sA rfl (SeqR.done (tn ?_)))))))))))))))
          exact ⟨m - 1, oM, i + 1, j + 1, _, oM, by rw [hN4.size]; omega, rfl, rfl, by rw [← show IntKind.wrap .i64 ((i : Int) + 1) = ((i + 1 : Nat) : Int) from wrap_in oM]; rfl, by rw [← show IntKind.wrap .i64 ((j : Int) + 1) = ((j + 1 : Nat) : Int) from wrap_in oM]; rfl, hO4, Mut.only (Mut.ex hMu hE3) hN4 (Or.inl (hO3.rng (i := i) oM fb (by rw [fA]; rfl))), hD.kept hj hb3⟩
      · have hj : j = ps.length := by have := dec_f hb2; omega
        subst hj
        obtain ⟨ht, hik⟩ := hD.done
        refine CW.cond_f rfl hb2 (CW.exit (tx (tx ?_)))
        refine bx (tn (cR (sM rfl (sM rfl (sd rfl (yl_slice (l := i) (h := p_s.length) (kh := .i64) un97 ty135 rfl rfl (Or.inr ⟨_, rfl, rfl⟩) (Or.inl ⟨rfl, rfl⟩) oM (by have := (OwnL.rd good_RT hO).2.1; omega) (SeqR.u rfl rfl (yl_clearT good_RT un97 ty135 rfl rfl rfl rfl hO oM ?_))))))))
        intro v5 w5 hO5 hM5
        obtain ⟨fb, fo, fc, fA, _, fbl, _, _, _⟩ := RdS.atD (OwnL.rd good_RT hO) d_RT (i := i) oM
        have hic : i ≤ c1 := by have := (OwnL.rd good_RT hO).2.1; omega
        refine dn (cR (sM rfl (sM rfl (sd rfl (yl_slice (l := 0) (h := i) (kl := .i64) un97 ty135 rfl rfl (Or.inl ⟨rfl, rfl⟩) (Or.inr ⟨_, rfl, rfl⟩) (Nat.zero_le _) hic (sA rfl (dn (CW.ret (rr rfl (.cons rfl .nil) ?_)))))))))
        have e : (if c1 = 0 then A1 else A1.map (·.add (0 * 2))) = A1 := by
          split
          · rfl
          · rw [Nat.zero_mul]; exact headA fA
        rw [ht] at hO5
        have hz : (g_slices_DeleteFunc_task p_s p_f).length = i := by rw [hmodel, List.length_map]; exact hik.symm
        have hMe := hM.mut hM5 fun _ h => h
        have hr := rd_un hO5 fun p hp => ((hsd p (List.mem_filter.1 hp).1).mut hMe hKl)
        rw [← hmodel] at hr
        rw [e, hz]
        exact ⟨_, _, rfl, hr, hok, hMe⟩

theorem c_g_slices_Clone_task {A1 : Option Addr} {c1 K : Nat} {w : World} (p_s : List DTask) (h1 : RdS w (Iv 0 K) R_Task 2 A1 p_s.length c1 p_s) (o2 : (okL ok_Task) p_s) (hK : K ≤ w.heap.size) : Cal Tryz.prog 98 #[.slice A1 p_s.length c1] w fun v w' => ∃ A_1 c_1 lo_1 hi_1, v = .slice A_1 ((g_slices_Clone_task p_s).length) c_1 ∧ OwnB K w' lo_1 hi_1 A_1 ((g_slices_Clone_task p_s).length) c_1 (g_slices_Clone_task p_s) ∧ (okL ok_Task) (g_slices_Clone_task p_s) ∧ (w.heap.size ≤ lo_1 ∧ lo_1 ≤ hi_1 ∧ hi_1 ≤ w'.heap.size) ∧ Ex w w' := by
  have hol3 := o2.1
  obtain ⟨ps, hps, h1, hsd⟩ := rd_rt h1
  have hl : ps.length = p_s.length := by rw [← hps, List.length_map]
  refine Cal.of (vs := [.slice A1 p_s.length c1]) func98 rfl ntmps98 rfl ?_
  refine CW.seq ?_
  refine CW.region ?_
  refine SeqR.d1 rfl rfl rfl (yA rfl rfl ?_)
  refine SeqR.done ?_
  refine tn ?_
  refine CW.seq ?_
  refine CW.seq ?_
  refine CW.region ?_
  refine SeqR.d1 rfl rfl rfl (yM rfl rfl ?_)
  refine SeqR.d1 rfl rfl rfl (yl_snil un97 rfl rfl rfl ?_)
  refine SeqR.done ?_
  refine tn ?_
  refine bcase (A1.isNone) (fun hb4 => ?_) (fun hb4 => ?_)
  · have hnil5 : ps = [] := RdS.nilA h1 hb4
    refine CW.cond_t rfl hb4 ?_
    refine CW.seq ?_
    refine CW.region ?_
    refine SeqR.d1 rfl rfl rfl (yA rfl rfl ?_)
    refine SeqR.done ?_
    refine tn ?_
    refine CW.ret ?_
    refine tr ?_
    refine rr rfl (.cons rfl .nil) ?_
    have hM6 : (g_slices_Clone_task p_s) = (([] : List DTask)) := by rw [← hps, hnil5]; rfl
    rw [hM6]
    exact ⟨none, 0, w.heap.size, w.heap.size, rfl, ⟨[], rfl, OwnL.nil _ _ _ _ _ _, (fun _ h => by cases h), hK⟩, (okL.nil _), oM, (Ex.refl w)⟩
  · refine CW.cond_f rfl hb4 ?_
    refine CW.skip ?_
    refine tn ?_
    refine CW.seq ?_
    refine CW.region ?_
    refine SeqR.d1 rfl rfl rfl (yl_buildSlice (cs := []) un97 ty135 (by decide) rfl opvs_nil (by kernel_rfl) ?_)
    intro b7 w8 hs9 hz10 hB11 hE12
    have hO13 : OwnL w8 b7 (b7 + 1) 135 2 (RF e_RT) (some ⟨b7, 0, none⟩) 0 0 ([] : List DRT) := OwnL.of_box (S := fun _ => False) hB11 (Nat.le_refl _) (Nat.lt_succ_self _) EncL.nil (nb rfl) (fun h => h) (fun _ h => False.elim h)
    refine SeqR.d1 rfl rfl rfl (yM rfl rfl ?_)
    have q14 := RdS.ex good_RT h1 hE12
    obtain ⟨nw15, he16, hs17⟩ := RdS.src q14
    refine SeqR.d1 rfl rfl rfl (yl_appendL (S := (fun _ => False)) (lo := b7) (hi := (b7 + 1)) (xs := ([] : List DRT)) (ys := ps) good_RT un97 ty135 rfl (nb rfl) rfl rfl rfl hO13 he16 hs17 hl.symm oM oM oM oM (fun _ h _ => False.elim h) oM ?_)
    intro A19 c20 w21 row22 hO23 hG24 hrg25
    have hG24z := hG24.size
    refine SeqR.d1 rfl rfl rfl (yA rfl rfl ?_)
    refine SeqR.done ?_
    refine tn ?_
    refine CW.ret ?_
    refine rr rfl (.cons rfl .nil) ?_
    have hM26 : (g_slices_Clone_task p_s) = p_s := rfl
    rw [hM26]
    have q28 := Ex.trans (Ex.refl w) hE12
    have q29 := Below.grown q28 hG24 oM (fun k hk => by have := hrg25 k hk; omega)
    rw [List.nil_append] at hO23
    exact ⟨A19, c20, b7, w21.heap.size, by rw [← hl]; rfl, ⟨ps, hps, by rw [← hl]; exact hO23, fun p hp => (hsd p hp).ex q29, by omega⟩, o2, oM, q29⟩

theorem c_i_piece_c1 {A1 : Option Addr} {c1 : Nat} {b3 : Nat} {w : World} (p_k : DTask) (p_cap0 : DFill) (h1 : RdS w (Iv 0 w.heap.size) (RF e_Op) 4 A1 p_k.ops.length c1 p_k.ops) (h4 : Box w b3 56 [.string (bs (p_cap0.Last)), .bool (p_cap0.Over)]) (o2 : ok_Task p_k) (o5 : ok_Fill p_cap0) : Cal Tryz.prog 99 #[.agg #[.string (bs (p_k.key)), .slice A1 p_k.ops.length c1], .pointer (some ⟨b3, 0, none⟩)] w fun v w' => v = .bool ((i_piece_c1 p_k p_cap0)) ∧ Ex w w' := by
 refine Cal.of func99 rfl ntmps99 rfl (cR (sd rfl (yl_box rfl rfl rfl ?_)))
 intro b9 w10 hs11 hz12 hB13 hE14
 refine sA rfl (dn (cR (sd rfl (yl_fieldAddr fd135_0 rfl rfl (sd rfl (yl_load1 ty9 rfl rfl ((hB13.cell 0).trans rfl) (sd rfl (yl_fieldAddr fd56_0 rfl rfl (sd rfl (yl_load1 ty9 rfl rfl (((Box.ex h4 hE14).cell 0).trans rfl) ?_))))))))))
 refine sd rfl (yl_sleq (a := p_k.key) (b := p_cap0.Last) rfl rfl rfl (sA rfl (dn (CW.ret (rr rfl (.cons rfl .nil) ?_)))))
 rw [show (i_piece_c1 p_k p_cap0) = (sLe p_k.key p_cap0.Last) by simp only [i_piece_c1, cL]]
 exact ⟨rfl, (Ex.trans (Ex.refl w) hE14)⟩
theorem c_i_piece {A1 : Option Addr} {c1 : Nat} {A3 : Option Addr} {c3 : Nat} {w : World} (p_tasks : List DTask) (ps : List DWrite) (p_f : DFill) (p_many : Int) (h1 : RdS w (Iv 0 w.heap.size) R_Task 2 A1 p_tasks.length c1 p_tasks) (h3 : RdS w (Iv 0 w.heap.size) (RF e_Write) 3 A3 ps.length c3 ps) (o2 : (okL ok_Task) p_tasks) (o4 : (okL ok_Write) ps) (o5 : ok_Fill p_f) (pre0 : (∀ y ∈ p_tasks, y.ops.length ≤ 100 ∧ ∀ o ∈ y.ops, o.Kind ≠ 4)) (pre1 : ps.length ≤ 100) (hgb : GT 4 5 1 w) : Cal Tryz.prog 61 #[.slice A1 p_tasks.length c1, .slice A3 ps.length c3, .agg #[.string (bs (p_f.Last)), .bool (p_f.Over)], .int .i64 (p_many)] w fun v w' => ∃ A_1 c_1 lo_1 hi_1, v = .tuple #[.slice A_1 (((i_piece p_tasks ps p_f p_many).1).length) c_1, .agg #[.string (bs ((i_piece p_tasks ps p_f p_many).2.Last)), .bool ((i_piece p_tasks ps p_f p_many).2.Over)]] ∧ OwnL w' lo_1 hi_1 80 3 (RF e_Write) A_1 (((i_piece p_tasks ps p_f p_many).1).length) c_1 ((i_piece p_tasks ps p_f p_many).1) ∧ (okL ok_Write) ((i_piece p_tasks ps p_f p_many).1) ∧ ok_Fill ((i_piece p_tasks ps p_f p_many).2) ∧ (w.heap.size ≤ lo_1 ∧ lo_1 ≤ hi_1 ∧ hi_1 ≤ w'.heap.size) ∧ Ex w w' := by
 have hol6 := o2.1
 have hol7 := o4.1
 have hol8 : p_f.Last.length ≤ 1073741824 := o5
 refine Cal.of func61 rfl ntmps61 rfl (cR (sd rfl (yl_box rfl rfl rfl ?_)))
 intro b9 w10 hs11 hz12 hB13 hE14
 refine sA rfl (sd rfl (yB ty56 (cs := [.string (bs (([] : Str))), .bool (false)]) rfl rfl ?_))
 intro b15 w16 hs17 hz18 hB19 hE20
 refine dn (cR (sM rfl (sd rfl (yC en98 rfl (oc rfl oz) (Cal.mono (c_g_slices_Clone_task p_tasks (RdS.ex good_Task (RdS.ex good_Task h1 hE14) hE20) o2 Bo) ?_)))))
 rintro v26 w23 ⟨A24, c24, lo24, hi24, rfl, h24, ho25, hrn28, hE27⟩
 have hE27z := Ex.size hE27
 refine sd rfl (yl_makeFunc rfl (oc rfl oz) ?_)
 have q30 := Box.ex (Box.ex hB13 hE20) hE27
 refine sd rfl (yC en97 rfl (oc rfl (oc rfl oz)) (Cal.mono (c_g_slices_DeleteFunc_task (g_slices_Clone_task p_tasks) (fun y0 => i_piece_c1 y0 p_f) h24 en99 (fun _ y0 => fun hE hm0 hv0 ov0 => c_i_piece_c1 y0 p_f hv0 (Box.mut q30 hE kR) ov0 o5) oM ho25) ?_))
 rintro v34 w31 ⟨A32, c32, rfl, h32, ho33, hm35⟩
 have hm35z := Mut.size hm35
 refine sA rfl (dn (cR (sA rfl (dn (CW.seq ?_)))))
 refine CW.block (CW.loop (fun m73 L74 w75 => ∃ (x68 : List DWrite) (x71 : Int) (x72 : Str) (A69 : Option Addr) (c70 : Nat), ((((g_slices_DeleteFunc_task (g_slices_Clone_task p_tasks) (fun y0 => i_piece_c1 y0 p_f)).length : Int) - x71).toNat) < m73 ∧ w31.heap.size ≤ w75.heap.size ∧ Sub [(1, .slice A69 x68.length c70), (3, .int .i64 (p_many)), (6, .pointer (some ⟨b9, 0, none⟩)), (9, .pointer (some ⟨b15, 0, none⟩)), (10, .slice A32 ((g_slices_DeleteFunc_task (g_slices_Clone_task p_tasks) (fun y0 => i_piece_c1 y0 p_f)).length) c32), (11, .int .i64 (x71))] L74 ∧ RdS w75 (fun q => Iv 0 b9 q ∨ Ge (b9 + 1) q) (RF e_Write) 3 A69 x68.length c70 x68 ∧ Box w75 b9 56 [.string (bs (x72)), .bool (p_f.Over)] ∧ Box w75 b15 56 [.string (bs (([] : Str))), .bool (false)] ∧ RdS w75 (fun q => Iv 0 w.heap.size q ∨ Iv lo24 hi24 q) R_Task 2 A32 (g_slices_DeleteFunc_task (g_slices_Clone_task p_tasks) (fun y0 => i_piece_c1 y0 p_f)).length c32 (g_slices_DeleteFunc_task (g_slices_Clone_task p_tasks) (fun y0 => i_piece_c1 y0 p_f)) ∧ Ex w w75 ∧ (okL ok_Write) x68 ∧ okS x72 ∧ (0 ≤ x71 ∧ x71 ≤ ((g_slices_DeleteFunc_task (g_slices_Clone_task p_tasks) (fun y0 => i_piece_c1 y0 p_f)).length : Int)) ∧ (x68 : List DWrite).length ≤ 100 ∧ loopW (B_i_piece_0 p_tasks ps p_f p_many) m73 (x68, x71, x72) = loopW (B_i_piece_0 p_tasks ps p_f p_many) (((((g_slices_DeleteFunc_task (g_slices_Clone_task p_tasks) (fun y0 => i_piece_c1 y0 p_f)).length : Int) - 0).toNat) + 1) (ps, 0, p_f.Last)) (((((g_slices_DeleteFunc_task (g_slices_Clone_task p_tasks) (fun y0 => i_piece_c1 y0 p_f)).length : Int) - 0).toNat) + 1) ?_ ?_)
 ·exact ⟨ps, 0, p_f.Last, A3, c3, Nat.lt_succ_self _, Nat.le_refl _, (sR rfl), (RdS.wide gW (RdS.mut gW (RdS.ex gW (RdS.ex gW (RdS.ex gW h3 hE14) hE20) hE27) hm35 kJ) (fun q hq _ => by simp only [Iv, Ge] at hq ⊢; omega)), (Box.mut q30 hm35 kR), (Box.mut (Box.ex hB19 hE27) hm35 kR), h32, (Ex.mut (Ex.trans (Ex.trans (Ex.trans (Ex.refl w) hE14) hE20) hE27) hm35 kR), o4, o5, Bo, Bo, rfl⟩
 ·rintro m87 L88 w89 ⟨x68, x71, x72, A69, c70, hk90, hsz92, hl93, hf94, hf95, hf96, hf97, hf98, hok99, hok100, hv101, hv102, hI91⟩
  refine CW.sub hl93 ?_
  have hf95z := Box.lt hf95
  have hf96z := Box.lt hf96
  have hf98z := Ex.size hf98
  refine CW.seq (cR (sM rfl (sM rfl (sM rfl (sd rfl (yL un97 rfl rfl (sd rfl (yl_min rfl rfl rfl (sd rfl (yl_lss rfl rfl rfl ?_))))))))))
  refine dn (bcD (q := x71 < (min p_many ((g_slices_DeleteFunc_task (g_slices_Clone_task p_tasks) (fun y0 => i_piece_c1 y0 p_f)).length : Int))) (fun hb103 hb103p => ?_) (fun hb103 hb103p => ?_))
  ·have hb103m := lt_min2 hb103
   have hb103l := del_len p_tasks (fun y0 => i_piece_c1 y0 p_f)
   refine CW.cond_t rfl hb103 (CW.skip (tn (CW.block (cR (sM rfl (sM rfl (sM rfl ?_)))))))
   obtain ⟨_, _, _, eA104, _, ebl104, _, eR104, eC104⟩ := RdS.atD hf97 d_Task (i := (x71).toNat) Bo
   obtain ⟨A105, c105, rfl, h105⟩ := eR104
   refine sd rfl (yl_indexAddr un97 ty135 rfl rfl rfl eA104 Bo Bo (sd rfl (yl_fieldAddr fd135_1 rfl rfl (sd rfl (yl_load1 ty77 rfl rfl (eC104 1 _ rfl) (sd rfl (yC en48 rfl (oc rfl (oc rfl oz)) (Cal.mono (c_i_runOps x68 (((g_slices_DeleteFunc_task (g_slices_Clone_task p_tasks) (fun y0 => i_piece_c1 y0 p_f)).getD ((x71).toNat) d_Task).ops) (RdS.up hf94 gW) (RdS.up h105 good_Op) hok99 ((okL.getD ho33 ok_d_Task _).2) oM (del_ops pre0 oM).2 (del_ops pre0 oM).1 (hgb.ex hf98)) ?_))))))))
   rintro v109 w106 ⟨A107, c107, lo107, hi107, rfl, h107, ho108, hrn111, hE110⟩
   have hE110z := Ex.size hE110
   have hrf112 := runOps_len x68 (((g_slices_DeleteFunc_task (g_slices_Clone_task p_tasks) (fun y0 => i_piece_c1 y0 p_f)).getD ((x71).toNat) d_Task).ops)
   refine sM rfl (sd rfl (yl_extract rfl rfl rfl (sd rfl (yl_extract rfl rfl rfl (sA rfl (sA rfl (dn (CW.seq (CW.seq ?_)))))))))
   refine CW.region (sM rfl (sd rfl (yl_not rfl rfl (dn (bcase ((i_runOps x68 (((g_slices_DeleteFunc_task (g_slices_Clone_task p_tasks) (fun y0 => i_piece_c1 y0 p_f)).getD ((x71).toNat) d_Task).ops)).2) (fun hb113 => ?_) (fun hb113 => ?_))))))
   ·refine CW.cond_f rfl (not_t hb113) (CW.skip (tn (cR (sM rfl (sA rfl (dn ?_))))))
    refine cR (sM rfl (sM rfl (sd rfl (yl_indexAddr un97 ty135 rfl rfl rfl eA104 Bo Bo (sd rfl (yl_fieldAddr fd135_0 rfl rfl (sd rfl (yl_load1 ty9 rfl rfl ((Cells.ex eC104 hE110) 0 _ rfl) (sd rfl (yl_fieldAddr fd56_0 rfl rfl (SeqR.u rfl rfl (yl_store (vs := [.string (bs (((g_slices_DeleteFunc_task (g_slices_Clone_task p_tasks) (fun y0 => i_piece_c1 y0 p_f)).getD ((x71).toNat) d_Task).key))]) ty9 rfl rfl rfl rfl rfl rfl (Box.ex hf95 hE110) (nb rfl) ?_))))))))))))
    intro w116 hB117 hO118
    have hB117 : Box w116 b9 56 [.string (bs (((g_slices_DeleteFunc_task (g_slices_Clone_task p_tasks) (fun y0 => i_piece_c1 y0 p_f)).getD ((x71).toNat) d_Task).key)), .bool (p_f.Over)] := hB117
    have hO118z := hO118.size
    refine dn (CW.region (sM rfl (sd rfl (yl_add rfl rfl rfl (sA rfl (SeqR.done (bn (tn ?_))))))))
    have hB119 : B_i_piece_0 p_tasks ps p_f p_many (x68, x71, x72) = .cont ((i_runOps x68 (((g_slices_DeleteFunc_task (g_slices_Clone_task p_tasks) (fun y0 => i_piece_c1 y0 p_f)).getD ((x71).toNat) d_Task).ops)).1, IntKind.wrap .i64 (x71 + 1), ((g_slices_DeleteFunc_task (g_slices_Clone_task p_tasks) (fun y0 => i_piece_c1 y0 p_f)).getD ((x71).toNat) d_Task).key) := by simp only [B_i_piece_0, hb103, hb113, cL]
    have hmu128 : ((((g_slices_DeleteFunc_task (g_slices_Clone_task p_tasks) (fun y0 => i_piece_c1 y0 p_f)).length : Int) - IntKind.wrap .i64 (x71 + 1)).toNat) < ((((g_slices_DeleteFunc_task (g_slices_Clone_task p_tasks) (fun y0 => i_piece_c1 y0 p_f)).length : Int) - x71).toNat) := by first | omega | assumption | (simp only [wI] at *; omega)
    exact ⟨m87 - 1, oM, (i_runOps x68 (((g_slices_DeleteFunc_task (g_slices_Clone_task p_tasks) (fun y0 => i_piece_c1 y0 p_f)).getD ((x71).toNat) d_Task).ops)).1, IntKind.wrap .i64 (x71 + 1), ((g_slices_DeleteFunc_task (g_slices_Clone_task p_tasks) (fun y0 => i_piece_c1 y0 p_f)).getD ((x71).toNat) d_Task).key, A107, c107, oM, oM, (sR rfl), (RdS.wide gW (OwnL.rd gW (OwnL.only gW h107 hO118 oM)) (fun q hq _ => by simp only [Iv, Ge] at hq ⊢; omega)), hB117, (Box.only (Box.ex hf96 hE110) hO118 oM), (RdS.only good_Task (RdS.ex good_Task hf97 hE110) hO118 iV), (Below.only (Ex.trans hf98 hE110) hO118 oM), ho108, (okL.getD ho33 ok_d_Task _).1, Bo, Bo, (loopW.cont hk90 hB119).symm.trans hI91⟩
   ·refine CW.cond_t rfl (not_f hb113) (CW.exit (tx (by' rfl (tx ?_))))
    have hB130 : B_i_piece_0 p_tasks ps p_f p_many (x68, x71, x72) = .brk (x68, x71, x72) := by simp only [B_i_piece_0, hb103, hb113, cL]
    have hL129 : loopW (B_i_piece_0 p_tasks ps p_f p_many) (((((g_slices_DeleteFunc_task (g_slices_Clone_task p_tasks) (fun y0 => i_piece_c1 y0 p_f)).length : Int) - 0).toNat) + 1) (ps, 0, p_f.Last) = .done (x68, x71, x72) := hI91.symm.trans (loopW.brk hk90 hB130)
    refine bx (tn (cR (sd rfl (yl_fieldAddr fd56_1 rfl rfl ?_))))
    have q131 := Box.ex hf95 hE110
    refine sd rfl (yl_load1 ty4 rfl rfl ((q131.cell 1).trans rfl) (sM rfl (bcase (p_f.Over) (fun hb132 => ?_) (fun hb132 => ?_))))
    ·refine sz rfl rfl hb132 (sz rfl rfl hb132 (sz rfl rfl hb132 (sz rfl rfl hb132 (sd rfl (yl_pick_t rfl rfl hb132 rfl (sd rfl (yl_fieldAddr fd56_1 rfl rfl (SeqR.u rfl rfl (yl_store (vs := [.bool (true)]) ty4 rfl rfl rfl rfl rfl rfl q131 (nb rfl) ?_)))))))))
     intro w133 hB134 hO135
     have hB134 : Box w133 b9 56 [.string (bs (x72)), .bool (true)] := hB134
     have hO135z := hO135.size
     refine dn (CW.seq ?_)
     have hrf142 := clone_len x68
     refine CW.drawsI 4 (vgetI [DetI (.slice A69 x68.length c70), fun lo hi v wq => ∃ A139 c139 lo139 hi139, v = .slice A139 ((g_slices_Clone_Write x68).length) c139 ∧ OwnL wq lo139 hi139 80 3 (RF e_Write) A139 ((g_slices_Clone_Write x68).length) c139 (g_slices_Clone_Write x68) ∧ (okL ok_Write) (g_slices_Clone_Write x68) ∧ (lo ≤ lo139 ∧ lo139 ≤ hi139 ∧ hi139 ≤ hi), DetI (.agg #[.string (bs (x72)), .bool (true)]), fun lo hi v wq => ∃ A139 c139, v = .slice A139 ((g_slices_Clone_Write x68).length) c139 ∧ OwnL wq w133.heap.size wq.heap.size 80 3 (RF e_Write) A139 ((g_slices_Clone_Write x68).length) c139 (g_slices_Clone_Write x68)]) Tryz.follows rfl rfl rfl rfl rfl rfl (vgetI_stable ⟨StableI.det _, (fun _ _ _ _ _ ⟨A139, c139, lo139, hi139, hv, h139, ho140, hr0⟩ e => ⟨A139, c139, lo139, hi139, hv, OwnL.ex gW h139 e, ho140, hr0⟩), StableI.det _, (fun _ _ _ _ _ ⟨A139, c139, hv, h141⟩ e => ⟨A139, c139, hv, OwnL.more (OwnL.ex gW h141 e) (Nat.le_refl _) (Ex.size e)⟩), trivial⟩) ⟨?_, ?_, ?_, ?_, trivial⟩ ?_
     ·exact oI rfl fun h => yM rfl (h.old 1 _ rfl rfl) kI
     ·intro L148 w149 hi150
      have hE151 := hi150.ex
      have hE151z := Ex.size hE151
      refine OpR.op' rfl (yC en68 rfl (oc (hi150.dt 0 54 rfl rfl rfl) oz) (Cal.mono (c_g_slices_Clone_Write x68 (RdS.up (RdS.ex gW (RdS.only gW (RdS.ex gW hf94 hE110) hO135 iV) hE151) gW) hok99) ?_))
      rintro v157 w154 ⟨A155, c155, lo155, hi155, rfl, h155, ho156, hrn159, hE158⟩
      exact ⟨⟨A155, c155, lo155, hi155, rfl, h155, ho156, hrn159⟩, hE158⟩
     ·exact oI rfl fun h => yl_loadN ty56 rfl (h.old 6 _ rfl rfl) ((Box.ex hB134 h.ex).cells (n := 2) rfl) rfl kI
     ·intro L166 w167 hi168
      have hE169 := hi168.ex
      have hE169z := Ex.size hE169
      obtain ⟨lo171, hh172, _, hx170, hr173, hr174, hr175, A139_176, c139_177, lo139_178, hi139_179, rfl, h180, h181, hrn182⟩ := hi168.dep 1 55 rfl rfl
      exact os rfl ((yA rfl hx170 ⟨fun _ _ => ⟨A139_176, c139_177, rfl, (OwnL.more h180 oM oM)⟩, rfl⟩))
     ·intro fl186 fh187 L183 w184 hp185
      have hE188 := hp185.ex
      have hE188z := Ex.size hE188
      have hx189 := hp185.old 9 _ rfl rfl
      have hr191 := hp185.rng 1 rfl
      obtain ⟨_, hx190, A139_192, c139_193, lo139_194, hi139_195, rfl, h196, h197, hrn198⟩ := hp185.new 1 55 rfl rfl
      obtain ⟨_, hx200, A139_201, c139_202, rfl, h203⟩ := hp185.new 3 8 rfl rfl
      refine SeqR.u rfl rfl (yl_storeA (vs := [.string (bs (x72)), .bool (true)]) ty56 rfl hx189 (hp185.nt 2 56 rfl rfl rfl) rfl rfl rfl (Box.ex (Box.only (Box.ex hf96 hE110) hO135 oM) hE188) rfl ?_)
      intro w207 hB208 hO209
      have hO209z := hO209.size
      refine dn (CW.sub (sC 8 hx200 (sC 9 hx189 (Sub.nil _))) (CW.ret (rr rfl (.cons rfl (.cons ⟨_, rfl, run_loadN ty56 (cs := [.string (bs (x72)), .bool (true)]) rfl (hB208.cells (n := 2) rfl)⟩ .nil)) ?_)))
      rw [show (i_piece p_tasks ps p_f p_many) = (((g_slices_Clone_Write x68), (⟨x72, true⟩ : DFill))) by simp only [i_piece, hb103, hb113, hb132, hL129, cL]]
      exact ⟨A139_201, c139_202, w133.heap.size, w184.heap.size, rfl, (OwnL.only gW h203 hO209 oM), h197, hok100, oM, (Below.only (Ex.trans (Below.only (Ex.trans hf98 hE110) hO135 oM) hE188) hO209 oM)⟩
    ·refine sy rfl rfl hb132 (yM rfl rfl (sy rfl rfl hb132 (yM rfl rfl (sy rfl rfl hb132 (yL un97 rfl rfl (sy rfl rfl hb132 (yl_eql rfl rfl rfl (sd rfl (yl_pick_f rfl rfl hb132 rfl (sd rfl (yl_fieldAddr fd56_1 rfl rfl (SeqR.u rfl rfl (yl_store (vs := [.bool (decide (x71 = ((g_slices_DeleteFunc_task (g_slices_Clone_task p_tasks) (fun y0 => i_piece_c1 y0 p_f)).length : Int)))]) ty4 rfl rfl rfl rfl rfl rfl q131 (nb rfl) ?_)))))))))))))
     intro w216 hB217 hO218
     have hB217 : Box w216 b9 56 [.string (bs (x72)), .bool (decide (x71 = ((g_slices_DeleteFunc_task (g_slices_Clone_task p_tasks) (fun y0 => i_piece_c1 y0 p_f)).length : Int)))] := hB217
     have hO218z := hO218.size
     refine dn (CW.seq ?_)
     have hrf225 := clone_len x68
     refine CW.drawsI 4 (vgetI [DetI (.slice A69 x68.length c70), fun lo hi v wq => ∃ A222 c222 lo222 hi222, v = .slice A222 ((g_slices_Clone_Write x68).length) c222 ∧ OwnL wq lo222 hi222 80 3 (RF e_Write) A222 ((g_slices_Clone_Write x68).length) c222 (g_slices_Clone_Write x68) ∧ (okL ok_Write) (g_slices_Clone_Write x68) ∧ (lo ≤ lo222 ∧ lo222 ≤ hi222 ∧ hi222 ≤ hi), DetI (.agg #[.string (bs (x72)), .bool (decide (x71 = ((g_slices_DeleteFunc_task (g_slices_Clone_task p_tasks) (fun y0 => i_piece_c1 y0 p_f)).length : Int)))]), fun lo hi v wq => ∃ A222 c222, v = .slice A222 ((g_slices_Clone_Write x68).length) c222 ∧ OwnL wq w216.heap.size wq.heap.size 80 3 (RF e_Write) A222 ((g_slices_Clone_Write x68).length) c222 (g_slices_Clone_Write x68)]) Tryz.follows rfl rfl rfl rfl rfl rfl (vgetI_stable ⟨StableI.det _, (fun _ _ _ _ _ ⟨A222, c222, lo222, hi222, hv, h222, ho223, hr0⟩ e => ⟨A222, c222, lo222, hi222, hv, OwnL.ex gW h222 e, ho223, hr0⟩), StableI.det _, (fun _ _ _ _ _ ⟨A222, c222, hv, h224⟩ e => ⟨A222, c222, hv, OwnL.more (OwnL.ex gW h224 e) (Nat.le_refl _) (Ex.size e)⟩), trivial⟩) ⟨?_, ?_, ?_, ?_, trivial⟩ ?_
     ·exact oI rfl fun h => yM rfl (h.old 1 _ rfl rfl) kI
     ·intro L231 w232 hi233
      have hE234 := hi233.ex
      have hE234z := Ex.size hE234
      refine OpR.op' rfl (yC en68 rfl (oc (hi233.dt 0 54 rfl rfl rfl) oz) (Cal.mono (c_g_slices_Clone_Write x68 (RdS.up (RdS.ex gW (RdS.only gW (RdS.ex gW hf94 hE110) hO218 iV) hE234) gW) hok99) ?_))
      rintro v240 w237 ⟨A238, c238, lo238, hi238, rfl, h238, ho239, hrn242, hE241⟩
      exact ⟨⟨A238, c238, lo238, hi238, rfl, h238, ho239, hrn242⟩, hE241⟩
     ·exact oI rfl fun h => yl_loadN ty56 rfl (h.old 6 _ rfl rfl) ((Box.ex hB217 h.ex).cells (n := 2) rfl) rfl kI
     ·intro L249 w250 hi251
      have hE252 := hi251.ex
      have hE252z := Ex.size hE252
      obtain ⟨lo254, hh255, _, hx253, hr256, hr257, hr258, A222_259, c222_260, lo222_261, hi222_262, rfl, h263, h264, hrn265⟩ := hi251.dep 1 55 rfl rfl
      exact os rfl ((yA rfl hx253 ⟨fun _ _ => ⟨A222_259, c222_260, rfl, (OwnL.more h263 oM oM)⟩, rfl⟩))
     ·intro fl269 fh270 L266 w267 hp268
      have hE271 := hp268.ex
      have hE271z := Ex.size hE271
      have hx272 := hp268.old 9 _ rfl rfl
      have hr274 := hp268.rng 1 rfl
      obtain ⟨_, hx273, A222_275, c222_276, lo222_277, hi222_278, rfl, h279, h280, hrn281⟩ := hp268.new 1 55 rfl rfl
      obtain ⟨_, hx283, A222_284, c222_285, rfl, h286⟩ := hp268.new 3 8 rfl rfl
      refine SeqR.u rfl rfl (yl_storeA (vs := [.string (bs (x72)), .bool (decide (x71 = ((g_slices_DeleteFunc_task (g_slices_Clone_task p_tasks) (fun y0 => i_piece_c1 y0 p_f)).length : Int)))]) ty56 rfl hx272 (hp268.nt 2 56 rfl rfl rfl) rfl rfl rfl (Box.ex (Box.only (Box.ex hf96 hE110) hO218 oM) hE271) rfl ?_)
      intro w290 hB291 hO292
      have hO292z := hO292.size
      refine dn (CW.sub (sC 8 hx283 (sC 9 hx272 (Sub.nil _))) (CW.ret (rr rfl (.cons rfl (.cons ⟨_, rfl, run_loadN ty56 (cs := [.string (bs (x72)), .bool (decide (x71 = ((g_slices_DeleteFunc_task (g_slices_Clone_task p_tasks) (fun y0 => i_piece_c1 y0 p_f)).length : Int)))]) rfl (hB291.cells (n := 2) rfl)⟩ .nil)) ?_)))
      rw [show (i_piece p_tasks ps p_f p_many) = (((g_slices_Clone_Write x68), (⟨x72, decide (x71 = ((g_slices_DeleteFunc_task (g_slices_Clone_task p_tasks) (fun y0 => i_piece_c1 y0 p_f)).length : Int))⟩ : DFill))) by simp only [i_piece, hb103, hb113, hb132, hL129, cL]]
      exact ⟨A222_284, c222_285, w216.heap.size, w267.heap.size, rfl, (OwnL.only gW h286 hO292 oM), h280, hok100, oM, (Below.only (Ex.trans (Below.only (Ex.trans hf98 hE110) hO218 oM) hE271) hO292 oM)⟩
  ·refine CW.cond_f rfl hb103 (CW.exit (tx (tx ?_)))
   have hB300 : B_i_piece_0 p_tasks ps p_f p_many (x68, x71, x72) = .brk (x68, x71, x72) := by simp only [B_i_piece_0, hb103, cL]
   have hL299 : loopW (B_i_piece_0 p_tasks ps p_f p_many) (((((g_slices_DeleteFunc_task (g_slices_Clone_task p_tasks) (fun y0 => i_piece_c1 y0 p_f)).length : Int) - 0).toNat) + 1) (ps, 0, p_f.Last) = .done (x68, x71, x72) := hI91.symm.trans (loopW.brk hk90 hB300)
   refine bx (tn (cR (sd rfl (yl_fieldAddr fd56_1 rfl rfl (sd rfl (yl_load1 ty4 rfl rfl ((hf95.cell 1).trans rfl) (sM rfl (bcase (p_f.Over) (fun hb301 => ?_) (fun hb301 => ?_)))))))))
   ·refine sz rfl rfl hb301 (sz rfl rfl hb301 (sz rfl rfl hb301 (sz rfl rfl hb301 (sd rfl (yl_pick_t rfl rfl hb301 rfl (sd rfl (yl_fieldAddr fd56_1 rfl rfl (SeqR.u rfl rfl (yl_store (vs := [.bool (true)]) ty4 rfl rfl rfl rfl rfl rfl hf95 (nb rfl) ?_)))))))))
    intro w302 hB303 hO304
    have hB303 : Box w302 b9 56 [.string (bs (x72)), .bool (true)] := hB303
    have hO304z := hO304.size
    refine dn (CW.seq ?_)
    have hrf310 := clone_len x68
    refine CW.drawsI 4 (vgetI [DetI (.slice A69 x68.length c70), fun lo hi v wq => ∃ A307 c307 lo307 hi307, v = .slice A307 ((g_slices_Clone_Write x68).length) c307 ∧ OwnL wq lo307 hi307 80 3 (RF e_Write) A307 ((g_slices_Clone_Write x68).length) c307 (g_slices_Clone_Write x68) ∧ (okL ok_Write) (g_slices_Clone_Write x68) ∧ (lo ≤ lo307 ∧ lo307 ≤ hi307 ∧ hi307 ≤ hi), DetI (.agg #[.string (bs (x72)), .bool (true)]), fun lo hi v wq => ∃ A307 c307, v = .slice A307 ((g_slices_Clone_Write x68).length) c307 ∧ OwnL wq w302.heap.size wq.heap.size 80 3 (RF e_Write) A307 ((g_slices_Clone_Write x68).length) c307 (g_slices_Clone_Write x68)]) Tryz.follows rfl rfl rfl rfl rfl rfl (vgetI_stable ⟨StableI.det _, (fun _ _ _ _ _ ⟨A307, c307, lo307, hi307, hv, h307, ho308, hr0⟩ e => ⟨A307, c307, lo307, hi307, hv, OwnL.ex gW h307 e, ho308, hr0⟩), StableI.det _, (fun _ _ _ _ _ ⟨A307, c307, hv, h309⟩ e => ⟨A307, c307, hv, OwnL.more (OwnL.ex gW h309 e) (Nat.le_refl _) (Ex.size e)⟩), trivial⟩) ⟨?_, ?_, ?_, ?_, trivial⟩ ?_
    ·exact oI rfl fun h => yM rfl (h.old 1 _ rfl rfl) kI
    ·intro L316 w317 hi318
     have hE319 := hi318.ex
     have hE319z := Ex.size hE319
     refine OpR.op' rfl (yC en68 rfl (oc (hi318.dt 0 54 rfl rfl rfl) oz) (Cal.mono (c_g_slices_Clone_Write x68 (RdS.up (RdS.ex gW (RdS.only gW hf94 hO304 iV) hE319) gW) hok99) ?_))
     rintro v325 w322 ⟨A323, c323, lo323, hi323, rfl, h323, ho324, hrn327, hE326⟩
     exact ⟨⟨A323, c323, lo323, hi323, rfl, h323, ho324, hrn327⟩, hE326⟩
    ·exact oI rfl fun h => yl_loadN ty56 rfl (h.old 6 _ rfl rfl) ((Box.ex hB303 h.ex).cells (n := 2) rfl) rfl kI
    ·intro L334 w335 hi336
     have hE337 := hi336.ex
     have hE337z := Ex.size hE337
     obtain ⟨lo339, hh340, _, hx338, hr341, hr342, hr343, A307_344, c307_345, lo307_346, hi307_347, rfl, h348, h349, hrn350⟩ := hi336.dep 1 55 rfl rfl
     exact os rfl ((yA rfl hx338 ⟨fun _ _ => ⟨A307_344, c307_345, rfl, (OwnL.more h348 oM oM)⟩, rfl⟩))
    ·intro fl354 fh355 L351 w352 hp353
     have hE356 := hp353.ex
     have hE356z := Ex.size hE356
     have hx357 := hp353.old 9 _ rfl rfl
     have hr359 := hp353.rng 1 rfl
     obtain ⟨_, hx358, A307_360, c307_361, lo307_362, hi307_363, rfl, h364, h365, hrn366⟩ := hp353.new 1 55 rfl rfl
     obtain ⟨_, hx368, A307_369, c307_370, rfl, h371⟩ := hp353.new 3 8 rfl rfl
     refine SeqR.u rfl rfl (yl_storeA (vs := [.string (bs (x72)), .bool (true)]) ty56 rfl hx357 (hp353.nt 2 56 rfl rfl rfl) rfl rfl rfl (Box.ex (Box.only hf96 hO304 oM) hE356) rfl ?_)
     intro w374 hB375 hO376
     have hO376z := hO376.size
     refine dn (CW.sub (sC 8 hx368 (sC 9 hx357 (Sub.nil _))) (CW.ret (rr rfl (.cons rfl (.cons ⟨_, rfl, run_loadN ty56 (cs := [.string (bs (x72)), .bool (true)]) rfl (hB375.cells (n := 2) rfl)⟩ .nil)) ?_)))
     rw [show (i_piece p_tasks ps p_f p_many) = (((g_slices_Clone_Write x68), (⟨x72, true⟩ : DFill))) by simp only [i_piece, hb103, hb301, hL299, cL]]
     exact ⟨A307_369, c307_370, w302.heap.size, w352.heap.size, rfl, (OwnL.only gW h371 hO376 oM), h365, hok100, oM, (Below.only (Ex.trans (Below.only hf98 hO304 oM) hE356) hO376 oM)⟩
   ·refine sy rfl rfl hb301 (yM rfl rfl (sy rfl rfl hb301 (yM rfl rfl (sy rfl rfl hb301 (yL un97 rfl rfl (sy rfl rfl hb301 (yl_eql rfl rfl rfl (sd rfl (yl_pick_f rfl rfl hb301 rfl (sd rfl (yl_fieldAddr fd56_1 rfl rfl (SeqR.u rfl rfl (yl_store (vs := [.bool (decide (x71 = ((g_slices_DeleteFunc_task (g_slices_Clone_task p_tasks) (fun y0 => i_piece_c1 y0 p_f)).length : Int)))]) ty4 rfl rfl rfl rfl rfl rfl hf95 (nb rfl) ?_)))))))))))))
    intro w382 hB383 hO384
    have hB383 : Box w382 b9 56 [.string (bs (x72)), .bool (decide (x71 = ((g_slices_DeleteFunc_task (g_slices_Clone_task p_tasks) (fun y0 => i_piece_c1 y0 p_f)).length : Int)))] := hB383
    have hO384z := hO384.size
    refine dn (CW.seq ?_)
    have hrf390 := clone_len x68
    refine CW.drawsI 4 (vgetI [DetI (.slice A69 x68.length c70), fun lo hi v wq => ∃ A387 c387 lo387 hi387, v = .slice A387 ((g_slices_Clone_Write x68).length) c387 ∧ OwnL wq lo387 hi387 80 3 (RF e_Write) A387 ((g_slices_Clone_Write x68).length) c387 (g_slices_Clone_Write x68) ∧ (okL ok_Write) (g_slices_Clone_Write x68) ∧ (lo ≤ lo387 ∧ lo387 ≤ hi387 ∧ hi387 ≤ hi), DetI (.agg #[.string (bs (x72)), .bool (decide (x71 = ((g_slices_DeleteFunc_task (g_slices_Clone_task p_tasks) (fun y0 => i_piece_c1 y0 p_f)).length : Int)))]), fun lo hi v wq => ∃ A387 c387, v = .slice A387 ((g_slices_Clone_Write x68).length) c387 ∧ OwnL wq w382.heap.size wq.heap.size 80 3 (RF e_Write) A387 ((g_slices_Clone_Write x68).length) c387 (g_slices_Clone_Write x68)]) Tryz.follows rfl rfl rfl rfl rfl rfl (vgetI_stable ⟨StableI.det _, (fun _ _ _ _ _ ⟨A387, c387, lo387, hi387, hv, h387, ho388, hr0⟩ e => ⟨A387, c387, lo387, hi387, hv, OwnL.ex gW h387 e, ho388, hr0⟩), StableI.det _, (fun _ _ _ _ _ ⟨A387, c387, hv, h389⟩ e => ⟨A387, c387, hv, OwnL.more (OwnL.ex gW h389 e) (Nat.le_refl _) (Ex.size e)⟩), trivial⟩) ⟨?_, ?_, ?_, ?_, trivial⟩ ?_
    ·exact oI rfl fun h => yM rfl (h.old 1 _ rfl rfl) kI
    ·intro L396 w397 hi398
     have hE399 := hi398.ex
     have hE399z := Ex.size hE399
     refine OpR.op' rfl (yC en68 rfl (oc (hi398.dt 0 54 rfl rfl rfl) oz) (Cal.mono (c_g_slices_Clone_Write x68 (RdS.up (RdS.ex gW (RdS.only gW hf94 hO384 iV) hE399) gW) hok99) ?_))
     rintro v405 w402 ⟨A403, c403, lo403, hi403, rfl, h403, ho404, hrn407, hE406⟩
     exact ⟨⟨A403, c403, lo403, hi403, rfl, h403, ho404, hrn407⟩, hE406⟩
    ·exact oI rfl fun h => yl_loadN ty56 rfl (h.old 6 _ rfl rfl) ((Box.ex hB383 h.ex).cells (n := 2) rfl) rfl kI
    ·intro L414 w415 hi416
     have hE417 := hi416.ex
     have hE417z := Ex.size hE417
     obtain ⟨lo419, hh420, _, hx418, hr421, hr422, hr423, A387_424, c387_425, lo387_426, hi387_427, rfl, h428, h429, hrn430⟩ := hi416.dep 1 55 rfl rfl
     exact os rfl ((yA rfl hx418 ⟨fun _ _ => ⟨A387_424, c387_425, rfl, (OwnL.more h428 oM oM)⟩, rfl⟩))
    ·intro fl434 fh435 L431 w432 hp433
     have hE436 := hp433.ex
     have hE436z := Ex.size hE436
     have hx437 := hp433.old 9 _ rfl rfl
     have hr439 := hp433.rng 1 rfl
     obtain ⟨_, hx438, A387_440, c387_441, lo387_442, hi387_443, rfl, h444, h445, hrn446⟩ := hp433.new 1 55 rfl rfl
     obtain ⟨_, hx448, A387_449, c387_450, rfl, h451⟩ := hp433.new 3 8 rfl rfl
     refine SeqR.u rfl rfl (yl_storeA (vs := [.string (bs (x72)), .bool (decide (x71 = ((g_slices_DeleteFunc_task (g_slices_Clone_task p_tasks) (fun y0 => i_piece_c1 y0 p_f)).length : Int)))]) ty56 rfl hx437 (hp433.nt 2 56 rfl rfl rfl) rfl rfl rfl (Box.ex (Box.only hf96 hO384 oM) hE436) rfl ?_)
     intro w454 hB455 hO456
     have hO456z := hO456.size
     refine dn (CW.sub (sC 8 hx448 (sC 9 hx437 (Sub.nil _))) (CW.ret (rr rfl (.cons rfl (.cons ⟨_, rfl, run_loadN ty56 (cs := [.string (bs (x72)), .bool (decide (x71 = ((g_slices_DeleteFunc_task (g_slices_Clone_task p_tasks) (fun y0 => i_piece_c1 y0 p_f)).length : Int)))]) rfl (hB455.cells (n := 2) rfl)⟩ .nil)) ?_)))
     rw [show (i_piece p_tasks ps p_f p_many) = (((g_slices_Clone_Write x68), (⟨x72, decide (x71 = ((g_slices_DeleteFunc_task (g_slices_Clone_task p_tasks) (fun y0 => i_piece_c1 y0 p_f)).length : Int))⟩ : DFill))) by simp only [i_piece, hb103, hb301, hL299, cL]]
     exact ⟨A387_449, c387_450, w382.heap.size, w432.heap.size, rfl, (OwnL.only gW h451 hO456 oM), h445, hok100, oM, (Below.only (Ex.trans (Below.only hf98 hO384 oM) hE436) hO456 oM)⟩
theorem c_i_Table_idxHead {A1 : Option Addr} {c1 : Nat} {A2 : Option Addr} {c2 : Nat} {w : World} (p_t : DTable) (pn : Str) (h1 : RdS w (Iv 0 w.heap.size) (RF e_Str) 1 A1 p_t.Cols.length c1 p_t.Cols) (h2 : RdS w (Iv 0 w.heap.size) (RF e_Idx) 3 A2 p_t.Idxs.length c2 p_t.Idxs) (o3 : ok_Table p_t) (o4 : okS pn) : Cal Tryz.prog 137 #[.agg #[.string (bs (p_t.Name)), .slice A1 p_t.Cols.length c1, .slice A2 p_t.Idxs.length c2], .string (bs (pn))] w fun v w' => v = .string (bs ((i_Table_idxHead p_t pn))) ∧ Ex w w' := by
 have hol5 : p_t.Name.length ≤ 1073741824 := o3.1
 have hol6 := o3.2.1.1
 have hol7 := o3.2.2.1
 have hol8 : pn.length ≤ 1073741824 := o4
 refine Cal.of func137 rfl ntmps137 rfl (cR (sd rfl (yl_box rfl rfl rfl ?_)))
 intro b9 w10 hs11 hz12 hB13 hE14
 refine sA rfl (dn (cR (sd rfl (yl_fieldAddr fd39_0 rfl rfl (sd rfl (yl_load1 ty9 rfl rfl ((hB13.cell 0).trans rfl) ?_))))))
 have hol15 : p_t.Name.length ≤ 1073741824 := o3.1
 refine sd rfl (yl_sadd (a := p_t.Name) (b := ([46] : Str)) rfl rfl rfl Bl (sM rfl ?_))
 have hol16 : p_t.Name.length ≤ 1073741824 := o3.1
 have hol17 : pn.length ≤ 1073741824 := o4
 refine sd rfl (yl_sadd (a := (p_t.Name ++ ([46] : Str))) (b := pn) rfl rfl rfl Bl ?_)
 have hol18 : p_t.Name.length ≤ 1073741824 := o3.1
 have hol19 : pn.length ≤ 1073741824 := o4
 refine sd rfl (yl_sadd (a := ((p_t.Name ++ ([46] : Str)) ++ pn)) (b := ([47] : Str)) rfl rfl rfl Bl (sA rfl (dn (CW.ret (rr rfl (.cons rfl .nil) ?_)))))
 rw [show (i_Table_idxHead p_t pn) = (((p_t.Name ++ ([46] : Str)) ++ pn) ++ ([47] : Str)) by simp only [i_Table_idxHead, cL]]
 exact ⟨rfl, (Ex.trans (Ex.refl w) hE14)⟩
theorem c_i_isField {w : World} (p_s : Str) (o1 : okS p_s) : Cal Tryz.prog 175 #[.string (bs (p_s))] w fun v w' => v = .bool ((i_isField p_s)) ∧ Ex w w' := by
 refine Cal.of func175 rfl ntmps175 rfl (cR (sA rfl (dn (cR (sM rfl ?_)))))
 refine sd rfl (yl_slen un9 (a := p_s) rfl rfl (sd rfl (yC en96 rfl (oc rfl (oc rfl (oc rfl oz))) (Cal.mono (c_i_within (p_s.length : Int) 1 3) ?_))))
 rintro v4 w3 ⟨rfl, hE5⟩
 refine sM rfl (bcase (i_within (p_s.length : Int) 1 3) (fun hb6 => ?_) (fun hb6 => ?_))
 ·have hb6p := f_within hb6
  refine sy rfl rfl hb6 (yM rfl rfl (sy rfl rfl hb6 (yC en184 rfl (oc rfl (oc rfl oz)) (Cal.mono (c_i_hasBytes p_s ([] : Str) o1 (okS.lit rfl)) ?_))))
  rintro v8 w7 ⟨rfl, hE9⟩
  refine sd rfl (yl_pick_t rfl rfl hb6 rfl (sA rfl (dn (CW.ret (rr rfl (.cons rfl .nil) ?_)))))
  rw [show (i_isField p_s) = ((i_hasBytes p_s ([] : Str))) by simp only [i_isField, hb6, cL]]
  exact ⟨rfl, (Ex.trans (Ex.trans (Ex.refl w) hE5) hE9)⟩
 ·refine sz rfl rfl hb6 (sz rfl rfl hb6 (sd rfl (yl_pick_f rfl rfl hb6 rfl (sA rfl (dn (CW.ret (rr rfl (.cons rfl .nil) ?_)))))))
  rw [show (i_isField p_s) = (false) by simp only [i_isField, hb6, cL]]
  exact ⟨rfl, (Ex.trans (Ex.refl w) hE5)⟩
theorem c_g_internal_stringslite_HasPrefix {w : World} (p_s : Str) (p_prefix : Str) (o1 : okS p_s) (o2 : okS p_prefix) : Cal Tryz.prog 237 #[.string (bs (p_s)), .string (bs (p_prefix))] w fun v w' => v = .bool ((g_internal_stringslite_HasPrefix p_s p_prefix)) ∧ Ex w w' := by
 have hol3 : p_s.length ≤ 1073741824 := o1
 have hol4 : p_prefix.length ≤ 1073741824 := o2
 refine Cal.of func237 rfl ntmps237 rfl (cR (sA rfl (dn (cR (sM rfl ?_)))))
 refine sd rfl (yl_slen un9 (a := p_s) rfl rfl (sM rfl (sd rfl (yl_slen un9 (a := p_prefix) rfl rfl (sd rfl (yl_geq rfl rfl rfl (sM rfl (bcD (q := (p_prefix.length : Int) ≤ (p_s.length : Int)) (fun hb5 hb5p => ?_) (fun hb5 hb5p => ?_)))))))))
 ·refine sy rfl rfl hb5 (yM rfl rfl (sy rfl rfl hb5 (yM rfl rfl (sy rfl rfl hb5 (yl_slen un9 (a := p_prefix) rfl rfl (sy rfl rfl hb5 (yl_sslice_hi un9 (a := p_s) (h := p_prefix.length) rfl rfl rfl oM (sy rfl rfl hb5 (yM rfl rfl (sy rfl rfl hb5 (yl_seql (a := (p_s.take p_prefix.length)) (b := p_prefix) rfl rfl rfl (sd rfl (yl_pick_t rfl rfl hb5 rfl (sA rfl (SeqR.done ?_)))))))))))))))
  refine tn (CW.ret (rr rfl (.cons rfl .nil) ?_))
  rw [show (g_internal_stringslite_HasPrefix p_s p_prefix) = ((p_s.take p_prefix.length) == p_prefix) by simp only [g_internal_stringslite_HasPrefix, hb5, cL]]
  exact ⟨rfl, (Ex.refl w)⟩
 ·refine sz rfl rfl hb5 (sz rfl rfl hb5 (sz rfl rfl hb5 (sz rfl rfl hb5 (sz rfl rfl hb5 (sz rfl rfl hb5 (sd rfl (yl_pick_f rfl rfl hb5 rfl (sA rfl (SeqR.done ?_)))))))))
  refine tn (CW.ret (rr rfl (.cons rfl .nil) ?_))
  rw [show (g_internal_stringslite_HasPrefix p_s p_prefix) = (false) by simp only [g_internal_stringslite_HasPrefix, hb5, cL]]
  exact ⟨rfl, (Ex.refl w)⟩
theorem c_g_internal_stringslite_CutPrefix {w : World} (p_s : Str) (p_prefix : Str) (o1 : okS p_s) (o2 : okS p_prefix) : Cal Tryz.prog 214 #[.string (bs (p_s)), .string (bs (p_prefix))] w fun v w' => v = .tuple #[.string (bs ((g_internal_stringslite_CutPrefix p_s p_prefix).1)), .bool ((g_internal_stringslite_CutPrefix p_s p_prefix).2)] ∧ okS ((g_internal_stringslite_CutPrefix p_s p_prefix).1) ∧ Ex w w' := by
 have hol3 : p_s.length ≤ 1073741824 := o1
 have hol4 : p_prefix.length ≤ 1073741824 := o2
 refine Cal.of func214 rfl ntmps214 rfl (cR (sA rfl (sA rfl (dn (CW.seq (CW.seq ?_))))))
 refine CW.region (sM rfl (sM rfl (sd rfl (yC en237 rfl (oc rfl (oc rfl oz)) (Cal.mono (c_g_internal_stringslite_HasPrefix p_s p_prefix o1 o2) ?_)))))
 rintro v6 w5 ⟨rfl, hE7⟩
 have hE7z := Ex.size hE7
 refine sd rfl (yl_not rfl rfl (dn (bcase (g_internal_stringslite_HasPrefix p_s p_prefix) (fun hb8 => ?_) (fun hb8 => ?_))))
 ·have hb8p := f_HasPrefix hb8
  refine CW.cond_f rfl (not_t hb8) (CW.skip (tn (cR (sM rfl (sM rfl (sd rfl (yl_slen un9 (a := p_prefix) rfl rfl (sd rfl (yl_sslice_lo un9 (a := p_s) (l := p_prefix.length) rfl rfl rfl oM ?_)))))))))
  refine sA rfl (sA rfl (dn (CW.ret (rr rfl (.cons rfl (.cons rfl .nil)) ?_))))
  rw [show (g_internal_stringslite_CutPrefix p_s p_prefix) = (((p_s.drop p_prefix.length), true)) by simp only [g_internal_stringslite_CutPrefix, hb8, cL]]
  exact ⟨rfl, (okS.drop o1 _), (Ex.trans (Ex.refl w) hE7)⟩
 ·refine CW.cond_t rfl (not_f hb8) (cR (sM rfl (sA rfl (sA rfl (dn (CW.ret ?_))))))
  refine tr (rr rfl (.cons rfl (.cons rfl .nil)) ?_)
  rw [show (g_internal_stringslite_CutPrefix p_s p_prefix) = ((p_s, false)) by simp only [g_internal_stringslite_CutPrefix, hb8, cL]]
  exact ⟨rfl, o1, (Ex.trans (Ex.refl w) hE7)⟩
theorem c_g_strings_CutPrefix {w : World} (p_s : Str) (p_prefix : Str) (o1 : okS p_s) (o2 : okS p_prefix) : Cal Tryz.prog 185 #[.string (bs (p_s)), .string (bs (p_prefix))] w fun v w' => v = .tuple #[.string (bs ((g_strings_CutPrefix p_s p_prefix).1)), .bool ((g_strings_CutPrefix p_s p_prefix).2)] ∧ okS ((g_strings_CutPrefix p_s p_prefix).1) ∧ Ex w w' := by
 refine Cal.of func185 rfl ntmps185 rfl (cR (sA rfl (sA rfl (dn (cR ?_)))))
 refine sM rfl (sM rfl (sd rfl (yC en214 rfl (oc rfl (oc rfl oz)) (Cal.mono (c_g_internal_stringslite_CutPrefix p_s p_prefix o1 o2) ?_))))
 rintro v7 w5 ⟨rfl, ho6, hE8⟩
 refine sd rfl (yl_extract rfl rfl rfl (sd rfl (yl_extract rfl rfl rfl (sA rfl (sA rfl (dn (CW.ret (rr rfl (.cons rfl (.cons rfl .nil)) ?_))))))))
 rw [show (g_strings_CutPrefix p_s p_prefix) = (((g_internal_stringslite_CutPrefix p_s p_prefix).1, (g_internal_stringslite_CutPrefix p_s p_prefix).2)) by simp only [g_strings_CutPrefix, cL]]
 exact ⟨rfl, ho6, (Ex.trans (Ex.refl w) hE8)⟩
theorem c_g_internal_bytealg_Cutover {w : World} (p_n : Int) : Cal Tryz.prog 256 #[.int .i64 (p_n)] w fun v w' => v = .int .i64 ((g_internal_bytealg_Cutover p_n)) ∧ Ex w w' := by
 refine Cal.of func256 rfl ntmps256 rfl (cR (sA rfl (dn (cR (sM rfl ?_)))))
 refine sd rfl (yl_add rfl rfl rfl (sd rfl (yl_quo rfl rfl rfl (by decide) (sA rfl (dn (CW.ret (rr rfl (.cons rfl .nil) ?_)))))))
 rw [show (g_internal_bytealg_Cutover p_n) = (IntKind.wrap .i64 (Int.tdiv (IntKind.wrap .i64 (p_n + 16)) 8)) by simp only [g_internal_bytealg_Cutover, cL]]
 exact ⟨rfl, (Ex.refl w)⟩
theorem c_g_internal_stringslite_Index {w : World} (p_0 : Str) (p_1 : Str) (o1 : okS p_0) (o2 : okS p_1) (pre0 : p_1.length = 1) : Cal Tryz.prog 238 #[.string (bs (p_0)), .string (bs (p_1))] w fun v w' => v = .int .i64 ((g_internal_stringslite_Index p_0 p_1)) ∧ Ex w w' := by
 have hol3 : p_0.length ≤ 1073741824 := o1
 have hol4 : p_1.length ≤ 1073741824 := o2
 refine Cal.of func238 rfl ntmps238 rfl (cR (sA rfl (dn (cR (sM rfl ?_)))))
 refine sd rfl (yl_slen un9 (a := p_1) rfl rfl (sA rfl (dn (CW.seq (CW.block (cR (sM rfl ?_)))))))
 refine sd rfl (yl_eql rfl rfl rfl (sM rfl (sy rfl rfl (decide_eq_false oM) (yM rfl rfl (sy rfl rfl (decide_eq_false oM) (yM rfl rfl (sy rfl rfl (decide_eq_false oM) (yl_seql (a := p_1) (b := p_0) rfl rfl rfl (sd rfl (yl_pick_f rfl rfl (decide_eq_false oM) rfl (sA rfl (dn ?_))))))))))))
 refine bcase (p_1 == p_0) (fun hb5 => ?_) (fun hb5 => ?_)
 ·refine CW.cond_t rfl hb5 (cR (sA rfl (dn (CW.ret (br (tr ?_))))))
  refine rr rfl (.cons rfl .nil) ?_
  rw [show (g_internal_stringslite_Index p_0 p_1) = (0) by simp only [g_internal_stringslite_Index, hb5, cL]]
  exact ⟨rfl, (Ex.refl w)⟩
 ·refine CW.cond_f rfl hb5 (cR (sM rfl (sd rfl (yl_eql rfl rfl rfl (sA rfl (dn (CW.cond_t rfl (decide_eq_true oM) ?_)))))))
  refine cR (sM rfl (sM rfl (sd rfl (yl_sindexN un9 (a := p_1) rfl rfl rfl Bo (sd rfl (yC en236 rfl (oc rfl (oc rfl oz)) (Cal.mono (c_g_internal_stringslite_IndexByte p_0 ((p_1.getD 0 0).toNat : Int) o1) ?_)))))))
  rintro v8 w7 ⟨rfl, hE9⟩
  have hE9z := Ex.size hE9
  refine sA rfl (dn (CW.ret (br (tr (rr rfl (.cons rfl .nil) ?_)))))
  rw [show (g_internal_stringslite_Index p_0 p_1) = ((g_internal_stringslite_IndexByte p_0 ((p_1.getD 0 0).toNat : Int))) by simp only [g_internal_stringslite_Index, hb5, cL]]
  exact ⟨rfl, (Ex.trans (Ex.refl w) hE9)⟩
theorem c_g_internal_stringslite_Cut {w : World} (p_s : Str) (p_sep : Str) (o1 : okS p_s) (o2 : okS p_sep) (pre0 : p_sep.length = 1) : Cal Tryz.prog 215 #[.string (bs (p_s)), .string (bs (p_sep))] w fun v w' => v = .tuple #[.string (bs ((g_internal_stringslite_Cut p_s p_sep).1)), .string (bs ((g_internal_stringslite_Cut p_s p_sep).2.1)), .bool ((g_internal_stringslite_Cut p_s p_sep).2.2)] ∧ okS ((g_internal_stringslite_Cut p_s p_sep).1) ∧ okS ((g_internal_stringslite_Cut p_s p_sep).2.1) ∧ Ex w w' := by
 have hol3 : p_s.length ≤ 1073741824 := o1
 have hol4 : p_sep.length ≤ 1073741824 := o2
 refine Cal.of func215 rfl ntmps215 rfl (cR (sA rfl (sA rfl (sA rfl (dn (CW.seq ?_))))))
 refine cR (sM rfl (sM rfl (sd rfl (yC en238 rfl (oc rfl (oc rfl oz)) (Cal.mono (c_g_internal_stringslite_Index p_s p_sep o1 o2 Bo) ?_)))))
 rintro v6 w5 ⟨rfl, hE7⟩
 have hE7z := Ex.size hE7
 have hrf8 := rf_Index (s := p_s) (sub := p_sep) Bo
 refine sA rfl (dn (cR (sM rfl (sd rfl (yl_geq rfl rfl rfl (dn ?_))))))
 refine bcD (q := 0 ≤ (g_internal_stringslite_Index p_s p_sep)) (fun hb9 hb9p => ?_) (fun hb9 hb9p => ?_)
 ·have hb9q := f_Cut o1 pre0 hb9
  refine CW.cond_t rfl hb9 (CW.seq (drJ 12 [.string (bs (p_s)), .int .i64 ((g_internal_stringslite_Index p_s p_sep)), .string (bs ((p_s.take (((g_internal_stringslite_Index p_s p_sep)).toNat)))), .string (bs (p_s)), .int .i64 ((g_internal_stringslite_Index p_s p_sep)), .string (bs (p_sep)), .int .i64 ((p_sep.length : Int)), .int .i64 (IntKind.wrap .i64 ((g_internal_stringslite_Index p_s p_sep) + (p_sep.length : Int))), .string (bs ((p_s.drop ((IntKind.wrap .i64 ((g_internal_stringslite_Index p_s p_sep) + (p_sep.length : Int))).toNat)))), .string (bs ((p_s.take (((g_internal_stringslite_Index p_s p_sep)).toNat)))), .string (bs ((p_s.drop ((IntKind.wrap .i64 ((g_internal_stringslite_Index p_s p_sep) + (p_sep.length : Int))).toNat)))), .bool (true)] Tryz.follows rfl ⟨?_, ?_, ?_, ?_, ?_, ?_, ?_, ?_, ?_, ?_, ?_, ?_, trivial⟩ ?_))
  ·exact oI rfl fun h => yM rfl (h.g 0 rfl) kI
  ·exact oI rfl fun h => yM rfl (h.g 7 rfl) kI
  ·intro L20 w21 hi22
   have hE23 := hi22.ex
   have hE23z := Ex.size hE23
   exact os rfl ((yl_sslice_hi un9 (a := p_s) (h := ((g_internal_stringslite_Index p_s p_sep)).toNat) rfl (hi22.g 13 rfl) (toNat_op (hi22.g 14 rfl) oM) oM kI))
  ·exact oI rfl fun h => yM rfl (h.g 0 rfl) kI
  ·exact oI rfl fun h => yM rfl (h.g 7 rfl) kI
  ·exact oI rfl fun h => yM rfl (h.g 1 rfl) kI
  ·exact oI rfl fun h => yl_slen un9 (a := p_sep) rfl (h.g 18 rfl) kI
  ·exact oI rfl fun h => yl_add rfl (h.g 17 rfl) (h.g 19 rfl) kI
  ·intro L52 w53 hi54
   have hE55 := hi54.ex
   have hE55z := Ex.size hE55
   exact os rfl ((yl_sslice_lo un9 (a := p_s) (l := (IntKind.wrap .i64 ((g_internal_stringslite_Index p_s p_sep) + (p_sep.length : Int))).toNat) rfl (hi54.g 16 rfl) (toNat_op (hi54.g 20 rfl) oM) oM kI))
  ·exact oI rfl fun h => yA rfl (h.g 15 rfl) kI
  ·exact oI rfl fun h => yA rfl (h.g 21 rfl) kI
  ·exact oI rfl fun _ => yA rfl rfl kI
  ·intro fl75 fh76 L72 w73 hp74
   have hE77 := hp74.ex
   have hE77z := Ex.size hE77
   refine dn (CW.sub (hp74.ss [4, 5, 6] rfl) (CW.ret (tr (rr rfl (.cons rfl (.cons rfl (.cons rfl .nil))) ?_))))
   rw [show (g_internal_stringslite_Cut p_s p_sep) = (((p_s.take (((g_internal_stringslite_Index p_s p_sep)).toNat)), (p_s.drop ((IntKind.wrap .i64 ((g_internal_stringslite_Index p_s p_sep) + (p_sep.length : Int))).toNat)), true)) by simp only [g_internal_stringslite_Cut, hb9, cL]]
   exact ⟨rfl, (okS.take o1 _), (okS.drop o1 _), (Ex.trans (Ex.trans (Ex.refl w) hE7) hE77)⟩
 ·refine CW.cond_f rfl hb9 (CW.skip (tn (cR (sM rfl (sA rfl (sA rfl (sA rfl ?_)))))))
  refine dn (CW.ret (rr rfl (.cons rfl (.cons rfl (.cons rfl .nil))) ?_))
  rw [show (g_internal_stringslite_Cut p_s p_sep) = ((p_s, ([] : Str), false)) by simp only [g_internal_stringslite_Cut, hb9, cL]]
  exact ⟨rfl, o1, (okS.lit rfl), (Ex.trans (Ex.refl w) hE7)⟩
theorem c_g_strings_Cut {w : World} (p_s : Str) (p_sep : Str) (o1 : okS p_s) (o2 : okS p_sep) (pre0 : p_sep.length = 1) : Cal Tryz.prog 186 #[.string (bs (p_s)), .string (bs (p_sep))] w fun v w' => v = .tuple #[.string (bs ((g_strings_Cut p_s p_sep).1)), .string (bs ((g_strings_Cut p_s p_sep).2.1)), .bool ((g_strings_Cut p_s p_sep).2.2)] ∧ okS ((g_strings_Cut p_s p_sep).1) ∧ okS ((g_strings_Cut p_s p_sep).2.1) ∧ Ex w w' := by
 have hol3 : p_s.length ≤ 1073741824 := o1
 have hol4 : p_sep.length ≤ 1073741824 := o2
 refine Cal.of func186 rfl ntmps186 rfl (cR (sA rfl (sA rfl (sA rfl (dn (CW.seq ?_))))))
 refine CW.region (sM rfl (sM rfl (sd rfl (yC en215 rfl (oc rfl (oc rfl oz)) (Cal.mono (c_g_internal_stringslite_Cut p_s p_sep o1 o2 Bo) ?_)))))
 rintro v8 w5 ⟨rfl, ho6, ho7, hE9⟩
 have hE9z := Ex.size hE9
 refine sd rfl (yl_extract rfl rfl rfl (sd rfl (yl_extract rfl rfl rfl (sd rfl (yl_extract rfl rfl rfl (sA rfl (sA rfl (sA rfl (dn (CW.ret ?_))))))))))
 refine rr rfl (.cons rfl (.cons rfl (.cons rfl .nil))) ?_
 rw [show (g_strings_Cut p_s p_sep) = (((g_internal_stringslite_Cut p_s p_sep).1, (g_internal_stringslite_Cut p_s p_sep).2.1, (g_internal_stringslite_Cut p_s p_sep).2.2)) by simp only [g_strings_Cut, cL]]
 exact ⟨rfl, ho6, ho7, (Ex.trans (Ex.refl w) hE9)⟩
end Go.Proofs.YtoimdjojffkefaaGreatDoor
