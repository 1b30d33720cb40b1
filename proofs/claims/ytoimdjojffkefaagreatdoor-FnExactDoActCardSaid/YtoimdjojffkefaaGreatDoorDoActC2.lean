/- Do Act: what each call returns, part 2. -/
import Derived.Test.YtoimdjojffkefaaGreatDoorDoActC1
set_option maxRecDepth 100000
set_option maxHeartbeats 2000000
open Go.Proofs.Tryz Go.Proofs.YtoimdjojffkefaaGreatDoor.Tryz
set_option linter.unusedVariables false
set_option linter.unusedSimpArgs false
namespace Go.Proofs.YtoimdjojffkefaaGreatDoor
open Go.RowKit Go.X
theorem c_s_l5Step {A1 : Option Addr} {c1 : Nat} {A3 : Option Addr} {c3 : Nat} {w : World} (p_0 : List DOp) (p_1 : List DGot) (h1 : RdS w (Iv 0 w.heap.size) (RF e_Op) 4 A1 p_0.length c1 p_0) (h3 : RdS w (Iv 0 w.heap.size) (RF e_Got) 3 A3 p_1.length c3 p_1) (o2 : (okL ok_Op) p_0) (o4 : (okL ok_Got) p_1) (pre0 : ∀ y ∈ p_0, y.Kind ≠ 4) (pre1 : p_0.length ≤ 100) : Cal Tryz.prog 170 #[.slice A1 p_0.length c1, .slice A3 p_1.length c3] w fun v w' => ∃ A_1 c_1 lo_1 hi_1, v = .tuple #[.int .i64 ((s_l5Step p_0 p_1).1), .string (bs ((s_l5Step p_0 p_1).2.1)), .slice A_1 (((s_l5Step p_0 p_1).2.2).length) c_1] ∧ OwnL w' lo_1 hi_1 80 3 (RF e_Write) A_1 (((s_l5Step p_0 p_1).2.2).length) c_1 ((s_l5Step p_0 p_1).2.2) ∧ okS ((s_l5Step p_0 p_1).2.1) ∧ (okL ok_Write) ((s_l5Step p_0 p_1).2.2) ∧ ((s_l5Step p_0 p_1).2.2).length ≤ p_0.length ∧ (w.heap.size ≤ lo_1 ∧ lo_1 ≤ hi_1 ∧ hi_1 ≤ w'.heap.size) ∧ Ex w w' := by
 have hol5 := o2.1
 have hol6 := o4.1
 refine Cal.of func170 rfl ntmps170 rfl (cR (sA rfl (sA rfl (sA rfl (dn (CW.seq ?_))))))
 refine CW.region (sA rfl (dn (CW.seq (cR (sM rfl (sd rfl (yL un77 rfl rfl ?_)))))))
 refine sM rfl (dn (CW.block (CW.loop (fun m181 L182 w183 => ∃ (k7 : Nat) (x176 : List DWrite) (A177 : Option Addr) (c178 : Nat) (u179 : Nat) (lo180 : Nat), m181 = p_0.length - k7 ∧ k7 ≤ p_0.length ∧ w.heap.size ≤ w183.heap.size ∧ Sub [(1, .slice A3 p_1.length c3), (7, .slice A177 x176.length c178), (15, .slice A1 p_0.length c1), (16, .int .i64 ((p_0.length : Int))), (17, .int .i64 ((k7 : Int)))] L182 ∧ RdS w183 (Iv 0 w.heap.size) (RF e_Got) 3 A3 p_1.length c3 p_1 ∧ OwnL w183 lo180 u179 80 3 (RF e_Write) A177 x176.length c178 x176 ∧ RdS w183 (Iv 0 w.heap.size) (RF e_Op) 4 A1 p_0.length c1 p_0 ∧ Ex w w183 ∧ (w.heap.size ≤ lo180 ∧ lo180 ≤ u179 ∧ u179 ≤ w183.heap.size) ∧ x176.length ≤ 0 + 1 * (k7 - 0) ∧ (∀ y ∈ x176, ok_Write y) ∧ loopM (B_s_l5Step_0 p_0 p_1) (p_0.length - k7) k7 (x176) = loopM (B_s_l5Step_0 p_0 p_1) (p_0.length - 0) 0 (([] : List DWrite))) (p_0.length - 0) ?_ ?_)))
 ·exact ⟨0, ([] : List DWrite), none, 0, w.heap.size, w.heap.size, rfl, oM, Nat.le_refl _, (sR rfl), h3, (OwnL.nil w w.heap.size w.heap.size 80 3 (RF e_Write)), h1, (Ex.refl w), oM, (by first | (simp; done) | (first | omega | (simp only [lN, toS_length]; omega))), okE.nil, rfl⟩
 ·rintro m184 L185 w186 ⟨k7, x176, A177, c178, u179, lo180, rfl, hk187, hsz189, hl190, hf191, hf192, hf193, hf194, hu195, hln196, hok197, hI188⟩
  refine CW.sub hl190 ?_
  have hf194z := Ex.size hf194
  have hbg198 := RdS.big hf193
  rcases Nat.lt_or_ge k7 p_0.length with hlt199 | hlt199
  ·have hkd := pre0 _ (getD_mem (d := d_Op) hlt199)
   refine cR (sd rfl (yl_lss rfl rfl rfl (dn (CW.seq (CW.cond_t rfl (lt_t hlt199) (CW.skip (tn ?_)))))))
   refine CW.seq (CW.block (cR ?_))
   obtain ⟨_, _, _, eA200, _, ebl200, _, eR200, eC200⟩ := RdS.atD hf193 d_Op (i := k7) Bo
   obtain rfl := eR200
   refine sd rfl (yl_ixN un77 ty122 rfl rfl rfl eA200 (sd rfl (yl_loadN ty122 rfl rfl eC200 rfl (sd rfl (yB ty122 (cs := [.int .i64 (0), .string (bs (([] : Str))), .string (bs (([] : Str))), .int .i64 (0)]) rfl rfl ?_)))))
   intro b201 w202 hs203 hz204 hB205 hE206
   refine SeqR.u rfl rfl (yl_storeA (vs := [.int .i64 ((p_0.getD k7 d_Op).Kind), .string (bs ((p_0.getD k7 d_Op).Key)), .string (bs ((p_0.getD k7 d_Op).Val)), .int .i64 ((p_0.getD k7 d_Op).By)]) ty122 rfl rfl rfl rfl rfl rfl hB205 rfl ?_)
   intro w207 hB208 hO209
   have hO209z := hO209.size
   refine dn (cR (sM rfl (sM rfl (sd rfl (yl_fieldAddr fd122_1 rfl rfl (sd rfl (yl_load1 ty9 rfl rfl ((hB208.cell 1).trans rfl) ?_)))))))
   have q212 := OwnL.only gW (OwnL.ex gW hf192 hE206) hO209 oM
   have q214 := RdS.only good_Got (RdS.ex good_Got hf191 hE206) hO209 iV
   refine sd rfl (yC en199 rfl (oc rfl (oc rfl (oc rfl oz))) (Cal.mono (c_s_l5Stands x176 p_1 ((p_0.getD k7 d_Op).Key) (RdS.up (OwnL.rd gW q212) gW) (RdS.up q214 good_Got) (okL.mk (xs := x176) Bl hok197) o4 ((okL.getD o2 ok_d_Op _).1)) ?_))
   rintro v217 w215 ⟨rfl, ho216, hE218⟩
   have hE218z := Ex.size hE218
   have y1 := RdS.ex good_Op (RdS.only good_Op (RdS.ex good_Op hf193 hE206) hO209 iV) hE218
   have y0 := Ex.trans (Below.only (Ex.trans hf194 hE206) hO209 oM) hE218
   refine sM rfl (sd rfl (yl_extract rfl rfl rfl (sd rfl (yl_extract rfl rfl rfl (sd rfl (yl_extract rfl rfl rfl (sA rfl (sA rfl (sA rfl (dn ?_))))))))))
   refine CW.seq (cR (sM rfl (sd rfl (yl_not rfl rfl (sM rfl (bcase ((s_l5Stands x176 p_1 ((p_0.getD k7 d_Op).Key)).2.2) (fun hb219 => ?_) (fun hb219 => ?_)))))))
   ·refine sz rfl rfl (not_t hb219) (sz rfl rfl (not_t hb219) (sz rfl rfl (not_t hb219) (sd rfl (yl_pick_f rfl rfl (not_t hb219) rfl (sM rfl (sz rfl rfl rfl (sz rfl rfl rfl (sz rfl rfl rfl (sd rfl (yl_pick_f rfl rfl rfl rfl ?_))))))))))
    refine dn (CW.cond_f rfl rfl (CW.skip (tn (CW.seq (cR ?_)))))
    have q220 := Box.ex hB208 hE218
    refine sd rfl (yl_loadN ty122 rfl rfl (q220.cells (n := 4) rfl) rfl (sM rfl (sM rfl (sd rfl (yC en200 rfl (oc rfl (oc rfl (oc rfl oz))) (Cal.mono (c_s_l5Gives (p_0.getD k7 d_Op) ((s_l5Stands x176 p_1 ((p_0.getD k7 d_Op).Key)).1) ((s_l5Stands x176 p_1 ((p_0.getD k7 d_Op).Key)).2.1) (okL.getD o2 ok_d_Op _) ho216) ?_))))))
    rintro v222 w221 ⟨rfl, hE223⟩
    have hE223z := Ex.size hE223
    refine dn (bcase (s_l5Gives (p_0.getD k7 d_Op) ((s_l5Stands x176 p_1 ((p_0.getD k7 d_Op).Key)).1) ((s_l5Stands x176 p_1 ((p_0.getD k7 d_Op).Key)).2.1)) (fun hb224 => ?_) (fun hb224 => ?_))
    ·refine CW.cond_t rfl hb224 (cR (sA rfl (sA rfl (sA rfl (dn (CW.ret ?_))))))
     refine tr (br (tr (tr ?_)))
     have hB226 : B_s_l5Step_0 p_0 p_1 k7 (x176) = .ret (2, ([] : Str), ([] : List DWrite)) := by simp only [B_s_l5Step_0, hb219, hb224, cL]
     have hL225 : loopM (B_s_l5Step_0 p_0 p_1) (p_0.length - 0) 0 (([] : List DWrite)) = .ret (2, ([] : Str), ([] : List DWrite)) := hI188.symm.trans (loopM.ret hlt199 hB226)
     refine br (tr (rr rfl (.cons rfl (.cons rfl (.cons rfl .nil))) ?_))
     rw [show (s_l5Step p_0 p_1) = ((2, ([] : Str), ([] : List DWrite))) by simp only [s_l5Step, hb219, hb224, hL225, cL]]
     exact ⟨none, 0, w221.heap.size, w221.heap.size, rfl, (OwnL.nil _ _ _ _ _ _), (okS.lit rfl), (okL.nil _), (by (try dsimp only); first | omega | exact Nat.zero_le _ | (simp only [List.length_nil]; omega)), oM, (Ex.trans y0 hE223)⟩
    ·refine CW.cond_f rfl hb224 (CW.skip (tn (cR (sd rfl (yl_fieldAddr fd122_0 rfl rfl ?_)))))
     have q232 := Box.ex q220 hE223
     refine sd rfl (yl_load1 ty3 rfl rfl ((q232.cell 0).trans rfl) (dn (CW.block (cR (sd rfl (yl_eql rfl rfl rfl (sA rfl (SeqR.done ?_))))))))
     refine tn (bcD (q := ((p_0.getD k7 d_Op).Kind) = 2) (fun hb233 hb233p => ?_) (fun hb233 hb233p => ?_))
     ·refine CW.cond_t rfl hb233 (CW.region (sM rfl (sd rfl (yl_fieldAddr fd122_1 rfl rfl (sd rfl (yl_load1 ty9 rfl rfl ((q232.cell 1).trans rfl) (sd rfl (yl_fieldAddr fd122_2 rfl rfl (sd rfl (yl_load1 ty9 rfl rfl ((q232.cell 2).trans rfl) (sd rfl (yl_build (cs := [.string (bs ((p_0.getD k7 d_Op).Key)), .string (bs ((p_0.getD k7 d_Op).Val)), .bool (false)]) rfl (oc rfl (oc rfl oz)) (by kernel_rfl) (sd rfl (yC en172 rfl (oc rfl (oc rfl oz)) (Cal.mono (c_s_l5PutW x176 (⟨(p_0.getD k7 d_Op).Key, (p_0.getD k7 d_Op).Val, false⟩ : DWrite) (RdS.up (OwnL.rd gW (OwnL.ex gW (OwnL.ex gW q212 hE218) hE223)) gW) (okL.mk (xs := x176) Bl hok197) (⟨(okL.getD o2 ok_d_Op _).1, (okL.getD o2 ok_d_Op _).2⟩) Bo) ?_)))))))))))))))
      rintro v241 w237 ⟨A238, c238, lo238, hi238, rfl, h238, ho239, hp240, hrn243, hE242⟩
      have hE242z := Ex.size hE242
      refine sA rfl (SeqR.done (bn (bn (tn (CW.region (sd rfl (yl_inc rfl rfl rfl oM (sM rfl (SeqR.done ?_)))))))))
      refine tn ?_
      have hB244 : B_s_l5Step_0 p_0 p_1 k7 (x176) = .cont ((s_l5PutW x176 (⟨(p_0.getD k7 d_Op).Key, (p_0.getD k7 d_Op).Val, false⟩ : DWrite))) := by simp only [B_s_l5Step_0, hb219, hb224, hb233, cL]
      exact ⟨p_0.length - (k7 + 1), oM, k7 + 1, (s_l5PutW x176 (⟨(p_0.getD k7 d_Op).Key, (p_0.getD k7 d_Op).Val, false⟩ : DWrite)), A238, c238, hi238, lo238, rfl, hlt199, oM, (sR rfl), (RdS.ex good_Got (RdS.ex good_Got (RdS.ex good_Got q214 hE218) hE223) hE242), h238, (RdS.ex good_Op (RdS.ex good_Op y1 hE223) hE242), (Ex.trans (Ex.trans y0 hE223) hE242), oM, Bl, (ho239).2, (loopM.cont hlt199 hB244).symm.trans hI188⟩
     ·refine CW.cond_f rfl hb233 (cR (sd rfl (yl_eql rfl rfl rfl (sA rfl (dn (bcD (q := ((p_0.getD k7 d_Op).Kind) = 3) (fun hb258 hb258p => ?_) (fun hb258 hb258p => ?_)))))))
      ·refine CW.cond_t rfl hb258 (CW.region (sM rfl (sd rfl (yl_fieldAddr fd122_1 rfl rfl (sd rfl (yl_load1 ty9 rfl rfl ((q232.cell 1).trans rfl) (sd rfl (yl_build (cs := [.string (bs ((p_0.getD k7 d_Op).Key)), .string (bs (([] : Str))), .bool (true)]) rfl (oc rfl (oc rfl oz)) (by kernel_rfl) (sd rfl (yC en172 rfl (oc rfl (oc rfl oz)) (Cal.mono (c_s_l5PutW x176 (⟨(p_0.getD k7 d_Op).Key, ([] : Str), true⟩ : DWrite) (RdS.up (OwnL.rd gW (OwnL.ex gW (OwnL.ex gW q212 hE218) hE223)) gW) (okL.mk (xs := x176) Bl hok197) (⟨(okL.getD o2 ok_d_Op _).1, (okS.lit rfl)⟩) Bo) ?_)))))))))))
       rintro v266 w262 ⟨A263, c263, lo263, hi263, rfl, h263, ho264, hp265, hrn268, hE267⟩
       have hE267z := Ex.size hE267
       refine sA rfl (SeqR.done (bn (bn (tn (CW.region (sd rfl (yl_inc rfl rfl rfl oM (sM rfl (SeqR.done ?_)))))))))
       refine tn ?_
       have hB269 : B_s_l5Step_0 p_0 p_1 k7 (x176) = .cont ((s_l5PutW x176 (⟨(p_0.getD k7 d_Op).Key, ([] : Str), true⟩ : DWrite))) := by simp only [B_s_l5Step_0, hb219, hb224, hb233, hb258, cL]
       exact ⟨p_0.length - (k7 + 1), oM, k7 + 1, (s_l5PutW x176 (⟨(p_0.getD k7 d_Op).Key, ([] : Str), true⟩ : DWrite)), A263, c263, hi263, lo263, rfl, hlt199, oM, (sR rfl), (RdS.ex good_Got (RdS.ex good_Got (RdS.ex good_Got q214 hE218) hE223) hE267), h263, (RdS.ex good_Op (RdS.ex good_Op y1 hE223) hE267), (Ex.trans (Ex.trans y0 hE223) hE267), oM, Bl, (ho264).2, (loopM.cont hlt199 hB269).symm.trans hI188⟩
      ·refine CW.cond_f rfl hb258 (cR (sd rfl (yl_eql rfl rfl rfl (sA rfl (dn (bcD (q := ((p_0.getD k7 d_Op).Kind) = 4) (fun hb283 hb283p => ?_) (fun hb283 hb283p => ?_)))))))
       ·refine CW.cond_t rfl hb283 (cR (sM rfl (sd rfl (yC en201 rfl (oc rfl oz) (Cal.mono (c_s_l5Num ((s_l5Stands x176 p_1 ((p_0.getD k7 d_Op).Key)).1) ho216) ?_)))))
        rintro v285 w284 ⟨rfl, hE286⟩
        have hE286z := Ex.size hE286
        refine sM rfl (sd rfl (yl_extract rfl rfl rfl (sd rfl (yl_extract rfl rfl rfl (sA rfl (sA rfl (dn (CW.seq (CW.seq ?_)))))))))
        refine CW.region (sM rfl (sd rfl (yl_not rfl rfl (dn (bcase ((s_l5Stands x176 p_1 ((p_0.getD k7 d_Op).Key)).2.1) (fun hb287 => ?_) (fun hb287 => ?_))))))
        ·refine CW.cond_f rfl (not_t hb287) (CW.skip (tn ?_))
         have q288 := Box.ex q232 hE286
         have hrf290 := rf_l5Text (IntKind.wrap .i64 (((s_l5Num ((s_l5Stands x176 p_1 ((p_0.getD k7 d_Op).Key)).1)).1) + ((p_0.getD k7 d_Op).By)))
         refine drJ 9 [.slice A177 x176.length c178, .pointer (some ⟨b201, 0 + 1, none⟩), .string (bs ((p_0.getD k7 d_Op).Key)), .int .i64 ((s_l5Num ((s_l5Stands x176 p_1 ((p_0.getD k7 d_Op).Key)).1)).1), .pointer (some ⟨b201, 0 + 3, none⟩), .int .i64 ((p_0.getD k7 d_Op).By), .int .i64 (IntKind.wrap .i64 (((s_l5Num ((s_l5Stands x176 p_1 ((p_0.getD k7 d_Op).Key)).1)).1) + ((p_0.getD k7 d_Op).By))), .string (bs ((s_l5Text (IntKind.wrap .i64 (((s_l5Num ((s_l5Stands x176 p_1 ((p_0.getD k7 d_Op).Key)).1)).1) + ((p_0.getD k7 d_Op).By)))))), .agg #[.string (bs ((p_0.getD k7 d_Op).Key)), .string (bs ((s_l5Text (IntKind.wrap .i64 (((s_l5Num ((s_l5Stands x176 p_1 ((p_0.getD k7 d_Op).Key)).1)).1) + ((p_0.getD k7 d_Op).By)))))), .bool (false)]] Tryz.follows rfl ⟨oI rfl fun h => yM rfl (h.g 7 rfl) kI, oI rfl fun h => yl_fieldAddr fd122_1 rfl (h.g 9 rfl) kI, oI rfl fun h => yl_load1 ty9 rfl (h.g 76 rfl) (((Box.ex q288 h.ex).cell 1).trans rfl) kI, oI rfl fun h => yM rfl (h.g 13 rfl) kI, oI rfl fun h => yl_fieldAddr fd122_3 rfl (h.g 9 rfl) kI, oI rfl fun h => yl_load1 ty3 rfl (h.g 79 rfl) (((Box.ex q288 h.ex).cell 3).trans rfl) kI, oI rfl fun h => yl_add rfl (h.g 78 rfl) (h.g 80 rfl) kI, ?_, oI rfl fun h => yl_build (cs := [.string (bs ((p_0.getD k7 d_Op).Key)), .string (bs ((s_l5Text (IntKind.wrap .i64 (((s_l5Num ((s_l5Stands x176 p_1 ((p_0.getD k7 d_Op).Key)).1)).1) + ((p_0.getD k7 d_Op).By)))))), .bool (false)]) rfl (oc (h.g 77 rfl) (oc (h.g 82 rfl) oz)) (by kernel_rfl) kI, trivial⟩ ?_
         ·intro L329 w330 hi331
          have hE332 := hi331.ex
          have hE332z := Ex.size hE332
          exact OpR.op' rfl (yC en202 rfl (oc (hi331.g 81 rfl) oz) (Cal.mono (c_s_l5Text (IntKind.wrap .i64 (((s_l5Num ((s_l5Stands x176 p_1 ((p_0.getD k7 d_Op).Key)).1)).1) + ((p_0.getD k7 d_Op).By))) Bo) fun _ _ h => h))
         ·intro fl346 fh347 L343 w344 hp345
          have hE348 := hp345.ex
          have hE348z := Ex.size hE348
          refine sd rfl (yC en172 rfl (oc (hp345.nt 0 75 rfl rfl rfl) (oc (hp345.nt 8 83 rfl rfl rfl) oz)) (Cal.mono (c_s_l5PutW x176 (⟨(p_0.getD k7 d_Op).Key, (s_l5Text (IntKind.wrap .i64 (((s_l5Num ((s_l5Stands x176 p_1 ((p_0.getD k7 d_Op).Key)).1)).1) + ((p_0.getD k7 d_Op).By)))), false⟩ : DWrite) (RdS.up (OwnL.rd gW (OwnL.ex gW (OwnL.ex gW (OwnL.ex gW (OwnL.ex gW q212 hE218) hE223) hE286) hE348)) gW) (okL.mk (xs := x176) Bl hok197) (⟨(okL.getD o2 ok_d_Op _).1, (ok_l5Text _)⟩) Bo) ?_))
          rintro v364 w360 ⟨A361, c361, lo361, hi361, rfl, h361, ho362, hp363, hrn366, hE365⟩
          have hE365z := Ex.size hE365
          refine sA rfl (SeqR.done (bn (bn (tn (CW.sub (sC 1 (hp345.old 1 _ rfl rfl) (sC 7 rfl (sC 15 (hp345.old 15 _ rfl rfl) (sC 16 (hp345.old 16 _ rfl rfl) (sC 17 (hp345.old 17 _ rfl rfl) (Sub.nil _)))))) (CW.region (sd rfl (yl_inc rfl rfl rfl oM (sM rfl ?_)))))))))
          refine dn ?_
          have hB367 : B_s_l5Step_0 p_0 p_1 k7 (x176) = .cont ((s_l5PutW x176 (⟨(p_0.getD k7 d_Op).Key, (s_l5Text (IntKind.wrap .i64 (((s_l5Num ((s_l5Stands x176 p_1 ((p_0.getD k7 d_Op).Key)).1)).1) + ((p_0.getD k7 d_Op).By)))), false⟩ : DWrite))) := by first | (simp only [B_s_l5Step_0, hb219, hb224, hb233, hb258, hb283, hb287, cL]; done) | (simp only [B_s_l5Step_0, hb224, cL] <;> simp only [hb219, hb233, hb258, hb283, hb287, cL])
          exact ⟨p_0.length - (k7 + 1), oM, k7 + 1, (s_l5PutW x176 (⟨(p_0.getD k7 d_Op).Key, (s_l5Text (IntKind.wrap .i64 (((s_l5Num ((s_l5Stands x176 p_1 ((p_0.getD k7 d_Op).Key)).1)).1) + ((p_0.getD k7 d_Op).By)))), false⟩ : DWrite)), A361, c361, hi361, lo361, rfl, hlt199, oM, (sR rfl), (RdS.ex good_Got (RdS.ex good_Got (RdS.ex good_Got (RdS.ex good_Got (RdS.ex good_Got q214 hE218) hE223) hE286) hE348) hE365), h361, (RdS.ex good_Op (RdS.ex good_Op (RdS.ex good_Op (RdS.ex good_Op y1 hE223) hE286) hE348) hE365), (Ex.trans (Ex.trans (Ex.trans (Ex.trans y0 hE223) hE286) hE348) hE365), oM, Bl, (ho362).2, (loopM.cont hlt199 hB367).symm.trans hI188⟩
        ·refine CW.cond_t rfl (not_f hb287) (CW.region (sA rfl (dn ?_)))
         have q387 := Box.ex q232 hE286
         have hrf389 := rf_l5Text (IntKind.wrap .i64 (0 + ((p_0.getD k7 d_Op).By)))
         refine drJ 9 [.slice A177 x176.length c178, .pointer (some ⟨b201, 0 + 1, none⟩), .string (bs ((p_0.getD k7 d_Op).Key)), .int .i64 (0), .pointer (some ⟨b201, 0 + 3, none⟩), .int .i64 ((p_0.getD k7 d_Op).By), .int .i64 (IntKind.wrap .i64 (0 + ((p_0.getD k7 d_Op).By))), .string (bs ((s_l5Text (IntKind.wrap .i64 (0 + ((p_0.getD k7 d_Op).By)))))), .agg #[.string (bs ((p_0.getD k7 d_Op).Key)), .string (bs ((s_l5Text (IntKind.wrap .i64 (0 + ((p_0.getD k7 d_Op).By)))))), .bool (false)]] Tryz.follows rfl ⟨oI rfl fun h => yM rfl (h.g 7 rfl) kI, oI rfl fun h => yl_fieldAddr fd122_1 rfl (h.g 9 rfl) kI, oI rfl fun h => yl_load1 ty9 rfl (h.g 76 rfl) (((Box.ex q387 h.ex).cell 1).trans rfl) kI, oI rfl fun h => yM rfl (h.g 13 rfl) kI, oI rfl fun h => yl_fieldAddr fd122_3 rfl (h.g 9 rfl) kI, oI rfl fun h => yl_load1 ty3 rfl (h.g 79 rfl) (((Box.ex q387 h.ex).cell 3).trans rfl) kI, oI rfl fun h => yl_add rfl (h.g 78 rfl) (h.g 80 rfl) kI, ?_, oI rfl fun h => yl_build (cs := [.string (bs ((p_0.getD k7 d_Op).Key)), .string (bs ((s_l5Text (IntKind.wrap .i64 (0 + ((p_0.getD k7 d_Op).By)))))), .bool (false)]) rfl (oc (h.g 77 rfl) (oc (h.g 82 rfl) oz)) (by kernel_rfl) kI, trivial⟩ ?_
         ·intro L428 w429 hi430
          have hE431 := hi430.ex
          have hE431z := Ex.size hE431
          exact OpR.op' rfl (yC en202 rfl (oc (hi430.g 81 rfl) oz) (Cal.mono (c_s_l5Text (IntKind.wrap .i64 (0 + ((p_0.getD k7 d_Op).By))) Bo) fun _ _ h => h))
         ·intro fl445 fh446 L442 w443 hp444
          have hE447 := hp444.ex
          have hE447z := Ex.size hE447
          refine sd rfl (yC en172 rfl (oc (hp444.nt 0 75 rfl rfl rfl) (oc (hp444.nt 8 83 rfl rfl rfl) oz)) (Cal.mono (c_s_l5PutW x176 (⟨(p_0.getD k7 d_Op).Key, (s_l5Text (IntKind.wrap .i64 (0 + ((p_0.getD k7 d_Op).By)))), false⟩ : DWrite) (RdS.up (OwnL.rd gW (OwnL.ex gW (OwnL.ex gW (OwnL.ex gW (OwnL.ex gW q212 hE218) hE223) hE286) hE447)) gW) (okL.mk (xs := x176) Bl hok197) (⟨(okL.getD o2 ok_d_Op _).1, (ok_l5Text _)⟩) Bo) ?_))
          rintro v463 w459 ⟨A460, c460, lo460, hi460, rfl, h460, ho461, hp462, hrn465, hE464⟩
          have hE464z := Ex.size hE464
          refine sA rfl (SeqR.done (bn (bn (tn (CW.sub (sC 1 (hp444.old 1 _ rfl rfl) (sC 7 rfl (sC 15 (hp444.old 15 _ rfl rfl) (sC 16 (hp444.old 16 _ rfl rfl) (sC 17 (hp444.old 17 _ rfl rfl) (Sub.nil _)))))) (CW.region (sd rfl (yl_inc rfl rfl rfl oM (sM rfl ?_)))))))))
          refine dn ?_
          have hB466 : B_s_l5Step_0 p_0 p_1 k7 (x176) = .cont ((s_l5PutW x176 (⟨(p_0.getD k7 d_Op).Key, (s_l5Text (IntKind.wrap .i64 (0 + ((p_0.getD k7 d_Op).By)))), false⟩ : DWrite))) := by first | (simp only [B_s_l5Step_0, hb219, hb224, hb233, hb258, hb283, hb287, cL]; done) | (simp only [B_s_l5Step_0, hb224, cL] <;> simp only [hb219, hb233, hb258, hb283, hb287, cL])
          exact ⟨p_0.length - (k7 + 1), oM, k7 + 1, (s_l5PutW x176 (⟨(p_0.getD k7 d_Op).Key, (s_l5Text (IntKind.wrap .i64 (0 + ((p_0.getD k7 d_Op).By)))), false⟩ : DWrite)), A460, c460, hi460, lo460, rfl, hlt199, oM, (sR rfl), (RdS.ex good_Got (RdS.ex good_Got (RdS.ex good_Got (RdS.ex good_Got (RdS.ex good_Got q214 hE218) hE223) hE286) hE447) hE464), h460, (RdS.ex good_Op (RdS.ex good_Op (RdS.ex good_Op (RdS.ex good_Op y1 hE223) hE286) hE447) hE464), (Ex.trans (Ex.trans (Ex.trans (Ex.trans y0 hE223) hE286) hE447) hE464), oM, Bl, (ho461).2, (loopM.cont hlt199 hB466).symm.trans hI188⟩
       ·refine CW.cond_f rfl hb283 (CW.skip (bn (bn (tn (CW.region (sd rfl (yl_inc rfl rfl rfl oM (sM rfl (SeqR.done ?_)))))))))
        refine tn ?_
        have hB486 : B_s_l5Step_0 p_0 p_1 k7 (x176) = .cont (x176) := by simp only [B_s_l5Step_0, hb219, hb224, hb233, hb258, hb283, cL]
        exact ⟨p_0.length - (k7 + 1), oM, k7 + 1, x176, A177, c178, u179, lo180, rfl, hlt199, oM, (sR rfl), (RdS.ex good_Got (RdS.ex good_Got q214 hE218) hE223), (OwnL.ex gW (OwnL.ex gW q212 hE218) hE223), (RdS.ex good_Op y1 hE223), (Ex.trans y0 hE223), oM, Bl, hok197, (loopM.cont hlt199 hB486).symm.trans hI188⟩
   ·refine sy rfl rfl (not_f hb219) (yl_fieldAddr fd122_0 rfl rfl ?_)
    have q499 := Box.ex hB208 hE218
    refine sy rfl rfl (not_f hb219) (yl_load1 ty3 rfl rfl ((q499.cell 0).trans rfl) (sy rfl rfl (not_f hb219) (yl_neq rfl rfl rfl (sd rfl (yl_pick_t rfl rfl (not_f hb219) rfl (sM rfl (bcD (q := ((p_0.getD k7 d_Op).Kind) = 2) (fun hb500 hb500p => ?_) (fun hb500 hb500p => ?_))))))))
    ·refine sz rfl rfl (not_t hb500) (sz rfl rfl (not_t hb500) (sz rfl rfl (not_t hb500) (sd rfl (yl_pick_f rfl rfl (not_t hb500) rfl (dn (CW.cond_f rfl rfl (CW.skip (tn ?_))))))))
     refine CW.seq (cR (sd rfl (yl_loadN ty122 rfl rfl (q499.cells (n := 4) rfl) rfl (sM rfl (sM rfl (sd rfl (yC en200 rfl (oc rfl (oc rfl (oc rfl oz))) (Cal.mono (c_s_l5Gives (p_0.getD k7 d_Op) ((s_l5Stands x176 p_1 ((p_0.getD k7 d_Op).Key)).1) ((s_l5Stands x176 p_1 ((p_0.getD k7 d_Op).Key)).2.1) (okL.getD o2 ok_d_Op _) ho216) ?_))))))))
     rintro v502 w501 ⟨rfl, hE503⟩
     have hE503z := Ex.size hE503
     refine dn (bcase (s_l5Gives (p_0.getD k7 d_Op) ((s_l5Stands x176 p_1 ((p_0.getD k7 d_Op).Key)).1) ((s_l5Stands x176 p_1 ((p_0.getD k7 d_Op).Key)).2.1)) (fun hb504 => ?_) (fun hb504 => ?_))
     ·refine CW.cond_t rfl hb504 (cR (sA rfl (sA rfl (sA rfl (dn (CW.ret ?_))))))
      refine tr (br (tr (tr ?_)))
      have hB506 : B_s_l5Step_0 p_0 p_1 k7 (x176) = .ret (2, ([] : Str), ([] : List DWrite)) := by simp only [B_s_l5Step_0, hb219, hb500, hb504, cL]
      have hL505 : loopM (B_s_l5Step_0 p_0 p_1) (p_0.length - 0) 0 (([] : List DWrite)) = .ret (2, ([] : Str), ([] : List DWrite)) := hI188.symm.trans (loopM.ret hlt199 hB506)
      refine br (tr (rr rfl (.cons rfl (.cons rfl (.cons rfl .nil))) ?_))
      rw [show (s_l5Step p_0 p_1) = ((2, ([] : Str), ([] : List DWrite))) by simp only [s_l5Step, hb219, hb500, hb504, hL505, cL]]
      exact ⟨none, 0, w501.heap.size, w501.heap.size, rfl, (OwnL.nil _ _ _ _ _ _), (okS.lit rfl), (okL.nil _), (by (try dsimp only); first | omega | exact Nat.zero_le _ | (simp only [List.length_nil]; omega)), oM, (Ex.trans y0 hE503)⟩
     ·refine CW.cond_f rfl hb504 (CW.skip (tn (cR (sd rfl (yl_fieldAddr fd122_0 rfl rfl ?_)))))
      have q512 := Box.ex q499 hE503
      refine sd rfl (yl_load1 ty3 rfl rfl ((q512.cell 0).trans rfl) (dn (CW.block (cR (sd rfl (yl_eql rfl rfl rfl (sA rfl (SeqR.done ?_))))))))
      refine tn (CW.cond_t rfl hb500 (CW.region (sM rfl (sd rfl (yl_fieldAddr fd122_1 rfl rfl (sd rfl (yl_load1 ty9 rfl rfl ((q512.cell 1).trans rfl) (sd rfl (yl_fieldAddr fd122_2 rfl rfl (sd rfl (yl_load1 ty9 rfl rfl ((q512.cell 2).trans rfl) (sd rfl (yl_build (cs := [.string (bs ((p_0.getD k7 d_Op).Key)), .string (bs ((p_0.getD k7 d_Op).Val)), .bool (false)]) rfl (oc rfl (oc rfl oz)) (by kernel_rfl) ?_)))))))))))))
      refine sd rfl (yC en172 rfl (oc rfl (oc rfl oz)) (Cal.mono (c_s_l5PutW x176 (⟨(p_0.getD k7 d_Op).Key, (p_0.getD k7 d_Op).Val, false⟩ : DWrite) (RdS.up (OwnL.rd gW (OwnL.ex gW (OwnL.ex gW q212 hE218) hE503)) gW) (okL.mk (xs := x176) Bl hok197) (⟨(okL.getD o2 ok_d_Op _).1, (okL.getD o2 ok_d_Op _).2⟩) Bo) ?_))
      rintro v520 w516 ⟨A517, c517, lo517, hi517, rfl, h517, ho518, hp519, hrn522, hE521⟩
      have hE521z := Ex.size hE521
      refine sA rfl (SeqR.done (bn (bn (tn (CW.region (sd rfl (yl_inc rfl rfl rfl oM (sM rfl (SeqR.done ?_)))))))))
      refine tn ?_
      have hB523 : B_s_l5Step_0 p_0 p_1 k7 (x176) = .cont ((s_l5PutW x176 (⟨(p_0.getD k7 d_Op).Key, (p_0.getD k7 d_Op).Val, false⟩ : DWrite))) := by simp only [B_s_l5Step_0, hb219, hb500, hb504, cL]
      exact ⟨p_0.length - (k7 + 1), oM, k7 + 1, (s_l5PutW x176 (⟨(p_0.getD k7 d_Op).Key, (p_0.getD k7 d_Op).Val, false⟩ : DWrite)), A517, c517, hi517, lo517, rfl, hlt199, oM, (sR rfl), (RdS.ex good_Got (RdS.ex good_Got (RdS.ex good_Got q214 hE218) hE503) hE521), h517, (RdS.ex good_Op (RdS.ex good_Op y1 hE503) hE521), (Ex.trans (Ex.trans y0 hE503) hE521), oM, Bl, (ho518).2, (loopM.cont hlt199 hB523).symm.trans hI188⟩
    ·refine sy rfl rfl (not_f hb500) (yl_fieldAddr fd122_0 rfl rfl (sy rfl rfl (not_f hb500) (yl_load1 ty3 rfl rfl ((q499.cell 0).trans rfl) (sy rfl rfl (not_f hb500) (yl_neq rfl rfl rfl (sd rfl (yl_pick_t rfl rfl (not_f hb500) rfl (dn (bcD (q := ((p_0.getD k7 d_Op).Kind) = 3) (fun hb537 hb537p => ?_) (fun hb537 hb537p => ?_))))))))))
     ·refine CW.cond_f rfl (not_t hb537) (CW.skip (tn (CW.seq (cR (sd rfl (yl_loadN ty122 rfl rfl (q499.cells (n := 4) rfl) rfl (sM rfl (sM rfl ?_))))))))
      refine sd rfl (yC en200 rfl (oc rfl (oc rfl (oc rfl oz))) (Cal.mono (c_s_l5Gives (p_0.getD k7 d_Op) ((s_l5Stands x176 p_1 ((p_0.getD k7 d_Op).Key)).1) ((s_l5Stands x176 p_1 ((p_0.getD k7 d_Op).Key)).2.1) (okL.getD o2 ok_d_Op _) ho216) ?_))
      rintro v539 w538 ⟨rfl, hE540⟩
      have hE540z := Ex.size hE540
      refine dn (bcase (s_l5Gives (p_0.getD k7 d_Op) ((s_l5Stands x176 p_1 ((p_0.getD k7 d_Op).Key)).1) ((s_l5Stands x176 p_1 ((p_0.getD k7 d_Op).Key)).2.1)) (fun hb541 => ?_) (fun hb541 => ?_))
      ·refine CW.cond_t rfl hb541 (cR (sA rfl (sA rfl (sA rfl (dn (CW.ret ?_))))))
       refine tr (br (tr (tr ?_)))
       have hB543 : B_s_l5Step_0 p_0 p_1 k7 (x176) = .ret (2, ([] : Str), ([] : List DWrite)) := by simp only [B_s_l5Step_0, hb219, hb500, hb537, hb541, cL]
       have hL542 : loopM (B_s_l5Step_0 p_0 p_1) (p_0.length - 0) 0 (([] : List DWrite)) = .ret (2, ([] : Str), ([] : List DWrite)) := hI188.symm.trans (loopM.ret hlt199 hB543)
       refine br (tr (rr rfl (.cons rfl (.cons rfl (.cons rfl .nil))) ?_))
       rw [show (s_l5Step p_0 p_1) = ((2, ([] : Str), ([] : List DWrite))) by simp only [s_l5Step, hb219, hb500, hb537, hb541, hL542, cL]]
       exact ⟨none, 0, w538.heap.size, w538.heap.size, rfl, (OwnL.nil _ _ _ _ _ _), (okS.lit rfl), (okL.nil _), (by (try dsimp only); first | omega | exact Nat.zero_le _ | (simp only [List.length_nil]; omega)), oM, (Ex.trans y0 hE540)⟩
      ·refine CW.cond_f rfl hb541 (CW.skip (tn (cR (sd rfl (yl_fieldAddr fd122_0 rfl rfl ?_)))))
       have q549 := Box.ex q499 hE540
       refine sd rfl (yl_load1 ty3 rfl rfl ((q549.cell 0).trans rfl) (dn (CW.block (cR (sd rfl (yl_eql rfl rfl rfl (sA rfl (SeqR.done ?_))))))))
       refine tn (CW.cond_f rfl hb500 (cR (sd rfl (yl_eql rfl rfl rfl (sA rfl (dn (CW.cond_t rfl hb537 ?_)))))))
       refine CW.region (sM rfl (sd rfl (yl_fieldAddr fd122_1 rfl rfl (sd rfl (yl_load1 ty9 rfl rfl ((q549.cell 1).trans rfl) (sd rfl (yl_build (cs := [.string (bs ((p_0.getD k7 d_Op).Key)), .string (bs (([] : Str))), .bool (true)]) rfl (oc rfl (oc rfl oz)) (by kernel_rfl) (sd rfl (yC en172 rfl (oc rfl (oc rfl oz)) (Cal.mono (c_s_l5PutW x176 (⟨(p_0.getD k7 d_Op).Key, ([] : Str), true⟩ : DWrite) (RdS.up (OwnL.rd gW (OwnL.ex gW (OwnL.ex gW q212 hE218) hE540)) gW) (okL.mk (xs := x176) Bl hok197) (⟨(okL.getD o2 ok_d_Op _).1, (okS.lit rfl)⟩) Bo) ?_))))))))))
       rintro v557 w553 ⟨A554, c554, lo554, hi554, rfl, h554, ho555, hp556, hrn559, hE558⟩
       have hE558z := Ex.size hE558
       refine sA rfl (SeqR.done (bn (bn (tn (CW.region (sd rfl (yl_inc rfl rfl rfl oM (sM rfl (SeqR.done ?_)))))))))
       refine tn ?_
       have hB560 : B_s_l5Step_0 p_0 p_1 k7 (x176) = .cont ((s_l5PutW x176 (⟨(p_0.getD k7 d_Op).Key, ([] : Str), true⟩ : DWrite))) := by simp only [B_s_l5Step_0, hb219, hb500, hb537, hb541, cL]
       exact ⟨p_0.length - (k7 + 1), oM, k7 + 1, (s_l5PutW x176 (⟨(p_0.getD k7 d_Op).Key, ([] : Str), true⟩ : DWrite)), A554, c554, hi554, lo554, rfl, hlt199, oM, (sR rfl), (RdS.ex good_Got (RdS.ex good_Got (RdS.ex good_Got q214 hE218) hE540) hE558), h554, (RdS.ex good_Op (RdS.ex good_Op y1 hE540) hE558), (Ex.trans (Ex.trans y0 hE540) hE558), oM, Bl, (ho555).2, (loopM.cont hlt199 hB560).symm.trans hI188⟩
     ·refine CW.cond_t rfl (not_f hb537) (CW.seq (drJ 3 [.pointer (some ⟨b201, 0 + 1, none⟩), .string (bs ((p_0.getD k7 d_Op).Key)), .int .i64 (1)] Tryz.follows rfl ⟨?_, ?_, ?_, trivial⟩ ?_))
      ·exact oI rfl fun h => yl_fieldAddr fd122_1 rfl (h.g 9 rfl) kI
      ·exact oI rfl fun h => yl_load1 ty9 rfl (h.g 42 rfl) (((Box.ex q499 h.ex).cell 1).trans rfl) kI
      ·exact oI rfl fun _ => yA rfl rfl kI
      ·intro fl592 fh593 L589 w590 hp591
       have hE594 := hp591.ex
       have hE594z := Ex.size hE594
       refine sd rfl (yA rfl (hp591.nt 1 43 rfl rfl rfl) (sA rfl (dn (CW.sub (sC 4 (hp591.nt 2 4 rfl rfl rfl) (sC 5 rfl (sC 6 rfl (Sub.nil _)))) (CW.ret (tr (br (tr ?_))))))))
       refine tr ?_
       have hB598 : B_s_l5Step_0 p_0 p_1 k7 (x176) = .ret (1, (p_0.getD k7 d_Op).Key, ([] : List DWrite)) := by simp only [B_s_l5Step_0, hb219, hb500, hb537, cL]
       have hL597 : loopM (B_s_l5Step_0 p_0 p_1) (p_0.length - 0) 0 (([] : List DWrite)) = .ret (1, (p_0.getD k7 d_Op).Key, ([] : List DWrite)) := hI188.symm.trans (loopM.ret hlt199 hB598)
       refine br (tr (rr rfl (.cons rfl (.cons rfl (.cons rfl .nil))) ?_))
       rw [show (s_l5Step p_0 p_1) = ((1, (p_0.getD k7 d_Op).Key, ([] : List DWrite))) by simp only [s_l5Step, hb219, hb500, hb537, hL597, cL]]
       exact ⟨none, 0, w590.heap.size, w590.heap.size, rfl, (OwnL.nil _ _ _ _ _ _), (okL.getD o2 ok_d_Op _).1, (okL.nil _), (by (try dsimp only); first | omega | exact Nat.zero_le _ | (simp only [List.length_nil]; omega)), oM, (Ex.trans y0 hE594)⟩
  ·refine cR (sd rfl (yl_lss rfl rfl rfl (dn (CW.seq (CW.cond_f rfl (lt_f hlt199) (CW.exit (tx ?_)))))))
   refine tx ?_
   have hL604 : loopM (B_s_l5Step_0 p_0 p_1) (p_0.length - 0) 0 (([] : List DWrite)) = .done (x176) := hI188.symm.trans (loopM.stop hlt199)
   refine bx (tn (cR (sM rfl (sA rfl (sA rfl (sA rfl (SeqR.done ?_)))))))
   refine tn (CW.ret (rr rfl (.cons rfl (.cons rfl (.cons rfl .nil))) ?_))
   rw [show (s_l5Step p_0 p_1) = ((3, ([] : Str), x176)) by simp only [s_l5Step, hL604, cL]]
   exact ⟨A177, c178, lo180, u179, rfl, hf192, (okS.lit rfl), (okL.mk (xs := x176) Bl hok197), (by (try dsimp only); first | omega | exact Nat.zero_le _ | (simp only [List.length_nil]; omega)), oM, hf194⟩
theorem c_s_l5Tell {A1 : Option Addr} {c1 : Nat} {w : World} (p_rows : List DWrite) (p_key : Str) (h1 : RdS w (Iv 0 w.heap.size) (RF e_Write) 3 A1 p_rows.length c1 p_rows) (o2 : (okL ok_Write) p_rows) (o3 : okS p_key) : Cal Tryz.prog 171 #[.slice A1 p_rows.length c1, .string (bs (p_key))] w fun v w' => v = .agg #[.string (bs ((s_l5Tell p_rows p_key).Key)), .string (bs ((s_l5Tell p_rows p_key).Val)), .bool ((s_l5Tell p_rows p_key).There)] ∧ ok_Got (s_l5Tell p_rows p_key) ∧ Ex w w' := by
 have hol4 := o2.1
 have hol5 : p_key.length ≤ 1073741824 := o3
 refine Cal.of func171 rfl ntmps171 rfl (cR (sd rfl (yB ty170 (cs := [.string (bs (([] : Str))), .string (bs (([] : Str))), .bool (false)]) rfl rfl ?_)))
 intro b6 w7 hs8 hz9 hB10 hE11
 refine dn (CW.seq (cR (sM rfl (sd rfl (yL un34 rfl rfl (sM rfl (SeqR.done ?_)))))))
 refine tn (CW.block (CW.loop (fun m27 L28 w29 => ∃ (k12 : Nat), m27 = p_rows.length - k12 ∧ k12 ≤ p_rows.length ∧ w7.heap.size ≤ w29.heap.size ∧ Sub [(1, .string (bs (p_key))), (4, .pointer (some ⟨b6, 0, none⟩)), (7, .slice A1 p_rows.length c1), (8, .int .i64 ((p_rows.length : Int))), (9, .int .i64 ((k12 : Int)))] L28 ∧ Box w29 b6 170 [.string (bs (([] : Str))), .string (bs (([] : Str))), .bool (false)] ∧ RdS w29 (Iv 0 w.heap.size) (RF e_Write) 3 A1 p_rows.length c1 p_rows ∧ Ex w w29 ∧ loopM (B_s_l5Tell_0 p_rows p_key) (p_rows.length - k12) k12 () = loopM (B_s_l5Tell_0 p_rows p_key) (p_rows.length - 0) 0 ()) (p_rows.length - 0) ?_ ?_))
 ·exact ⟨0, rfl, oM, Nat.le_refl _, (sR rfl), hB10, (RdS.ex gW h1 hE11), (Ex.trans (Ex.refl w) hE11), rfl⟩
 ·rintro m32 L33 w34 ⟨k12, rfl, hk35, hsz37, hl38, hf39, hf40, hf41, hI36⟩
  refine CW.sub hl38 ?_
  have hf39z := Box.lt hf39
  have hf41z := Ex.size hf41
  have hbg42 := RdS.big hf40
  rcases Nat.lt_or_ge k12 p_rows.length with hlt43 | hlt43
  ·refine cR (sd rfl (yl_lss rfl rfl rfl (dn (CW.seq (CW.cond_t rfl (lt_t hlt43) (CW.skip (tn ?_)))))))
   refine CW.seq (CW.block (cR ?_))
   obtain ⟨_, _, _, eA44, _, ebl44, _, eR44, eC44⟩ := RdS.aD hf40 d_Write (i := k12)
   obtain rfl := eR44
   refine sd rfl (yl_ixN un34 ty80 rfl rfl rfl eA44 (sd rfl (yl_loadN ty80 rfl rfl eC44 rfl (sd rfl (yB ty80 (cs := [.string (bs (([] : Str))), .string (bs (([] : Str))), .bool (false)]) rfl rfl ?_)))))
   intro b45 w46 hs47 hz48 hB49 hE50
   refine SeqR.u rfl rfl (yl_storeA (vs := [.string (bs ((p_rows.getD k12 d_Write).Key)), .string (bs ((p_rows.getD k12 d_Write).Val)), .bool ((p_rows.getD k12 d_Write).Gone)]) ty80 rfl rfl rfl rfl rfl rfl hB49 rfl ?_)
   intro w51 hB52 hO53
   have hO53z := hO53.size
   refine dn (cR (sd rfl (yl_fieldAddr fd80_0 rfl rfl (sd rfl (yl_load1 ty9 rfl rfl ((hB52.cell 0).trans rfl) (sM rfl (sd rfl (yl_seql (a := ((p_rows.getD k12 d_Write).Key)) (b := p_key) rfl rfl rfl (SeqR.done ?_)))))))))
   refine tn (bcase (((p_rows.getD k12 d_Write).Key) == p_key) (fun hb54 => ?_) (fun hb54 => ?_))
   ·refine CW.cond_t rfl hb54 (cR (sM rfl (sd rfl (yl_fieldAddr fd80_1 rfl rfl (sd rfl (yl_load1 ty9 rfl rfl ((hB52.cell 1).trans rfl) (sd rfl (yl_build (cs := [.string (bs (p_key)), .string (bs ((p_rows.getD k12 d_Write).Val)), .bool (true)]) rfl (oc rfl (oc rfl (oc rfl oz))) (by kernel_rfl) (SeqR.u rfl rfl (yl_storeA (vs := [.string (bs (p_key)), .string (bs ((p_rows.getD k12 d_Write).Val)), .bool (true)]) ty170 rfl rfl rfl rfl rfl rfl (Box.only (Box.ex hf39 hE50) hO53 oM) rfl ?_))))))))))
    intro w57 hB58 hO59
    have hO59z := hO59.size
    refine dn (CW.ret (br (tr (tr ?_))))
    have hB61 : B_s_l5Tell_0 p_rows p_key k12 () = .ret (⟨p_key, (p_rows.getD k12 d_Write).Val, true⟩ : DGot) := by simp only [B_s_l5Tell_0, hb54, cL]
    have hL60 : loopM (B_s_l5Tell_0 p_rows p_key) (p_rows.length - 0) 0 () = .ret (⟨p_key, (p_rows.getD k12 d_Write).Val, true⟩ : DGot) := hI36.symm.trans (loopM.ret hlt43 hB61)
    refine br (tr (rr rfl (.cons ⟨_, rfl, run_loadN ty170 (cs := [.string (bs (p_key)), .string (bs ((p_rows.getD k12 d_Write).Val)), .bool (true)]) rfl (hB58.cells (n := 3) rfl)⟩ .nil) ?_))
    rw [show (s_l5Tell p_rows p_key) = ((⟨p_key, (p_rows.getD k12 d_Write).Val, true⟩ : DGot)) by simp only [s_l5Tell, hb54, hL60, cL]]
    exact ⟨rfl, ⟨o3, (okL.getD o2 ok_d_Write _).2⟩, (Below.only (Below.only (Ex.trans hf41 hE50) hO53 oM) hO59 oM)⟩
   ·refine CW.cond_f rfl hb54 (CW.skip (bn (tn (CW.region (sd rfl (yl_inc rfl rfl rfl oM (sM rfl (dn ?_))))))))
    have hB66 : B_s_l5Tell_0 p_rows p_key k12 () = .cont () := by simp only [B_s_l5Tell_0, hb54, cL]
    exact ⟨p_rows.length - (k12 + 1), oM, k12 + 1, rfl, hlt43, oM, (sR rfl), (Box.only (Box.ex hf39 hE50) hO53 oM), (RdS.only gW (RdS.ex gW hf40 hE50) hO53 iV), (Below.only (Ex.trans hf41 hE50) hO53 oM), (loopM.cont hlt43 hB66).symm.trans hI36⟩
  ·refine cR (sd rfl (yl_lss rfl rfl rfl (dn (CW.seq (CW.cond_f rfl (lt_f hlt43) (CW.exit (tx ?_)))))))
   refine tx ?_
   have hL73 : loopM (B_s_l5Tell_0 p_rows p_key) (p_rows.length - 0) 0 () = .done () := hI36.symm.trans (loopM.stop hlt43)
   refine bx (tn (cR (sM rfl (sd rfl (yl_build (cs := [.string (bs (p_key)), .string (bs (([] : Str))), .bool (false)]) rfl (oc rfl oz) (by kernel_rfl) (SeqR.u rfl rfl (yl_storeA (vs := [.string (bs (p_key)), .string (bs (([] : Str))), .bool (false)]) ty170 rfl rfl rfl rfl rfl rfl hf39 rfl ?_)))))))
   intro w74 hB75 hO76
   have hO76z := hO76.size
   refine dn (CW.ret (rr rfl (.cons ⟨_, rfl, run_loadN ty170 (cs := [.string (bs (p_key)), .string (bs (([] : Str))), .bool (false)]) rfl (hB75.cells (n := 3) rfl)⟩ .nil) ?_))
   rw [show (s_l5Tell p_rows p_key) = ((⟨p_key, ([] : Str), false⟩ : DGot)) by simp only [s_l5Tell, hL73, cL]]
   exact ⟨rfl, ⟨o3, (okS.lit rfl)⟩, (Below.only hf41 hO76 oM)⟩
theorem c_s_l5Alone {A1 : Option Addr} {c1 : Nat} {A3 : Option Addr} {c3 : Nat} {w : World} (p_rows : List DWrite) (p_l : List DOp) (h1 : RdS w (Iv 0 w.heap.size) (RF e_Write) 3 A1 p_rows.length c1 p_rows) (h3 : RdS w (Iv 0 w.heap.size) (RF e_Op) 4 A3 p_l.length c3 p_l) (o2 : (okL ok_Write) p_rows) (o4 : (okL ok_Op) p_l) (pre0 : ∀ y ∈ p_l, y.Kind ≠ 4) (pre1 : p_l.length ≤ 100) : Cal Tryz.prog 123 #[.slice A1 p_rows.length c1, .slice A3 p_l.length c3] w fun v w' => ∃ A_1 c_1 A_2 c_2, v = .tuple #[.slice A_1 (((s_l5Alone p_rows p_l).1).length) c_1, .slice A_2 (((s_l5Alone p_rows p_l).2.1).length) c_2, .bool ((s_l5Alone p_rows p_l).2.2)] ∧ RdS w' (Iv w.heap.size w'.heap.size) (RF e_Got) 3 A_1 ((s_l5Alone p_rows p_l).1).length c_1 ((s_l5Alone p_rows p_l).1) ∧ RdS w' (Iv w.heap.size w'.heap.size) (RF e_Write) 3 A_2 ((s_l5Alone p_rows p_l).2.1).length c_2 ((s_l5Alone p_rows p_l).2.1) ∧ (okL ok_Got) ((s_l5Alone p_rows p_l).1) ∧ (okL ok_Write) ((s_l5Alone p_rows p_l).2.1) ∧ ((s_l5Alone p_rows p_l).2.1).length ≤ p_l.length ∧ Ex w w' := by
 have hol5 := o2.1
 have hol6 := o4.1
 refine Cal.of func123 rfl ntmps123 rfl (cR (sA rfl (sA rfl (sA rfl (dn (CW.seq ?_))))))
 refine CW.region (sA rfl (dn (CW.block (CW.loop (fun m45 L46 w47 => ∃ (x40 : List DGot) (A41 : Option Addr) (c42 : Nat) (u43 : Nat) (lo44 : Nat), ((p_l.filter fun o => !((x40 : List DGot).any fun g => g.Key == o.Key)).length) < m45 ∧ w.heap.size ≤ w47.heap.size ∧ Sub [(0, .slice A1 p_rows.length c1), (1, .slice A3 p_l.length c3), (7, .slice A41 x40.length c42)] L46 ∧ RdS w47 (Iv 0 w.heap.size) (RF e_Write) 3 A1 p_rows.length c1 p_rows ∧ RdS w47 (Iv 0 w.heap.size) (RF e_Op) 4 A3 p_l.length c3 p_l ∧ OwnL w47 lo44 u43 170 3 (RF e_Got) A41 x40.length c42 x40 ∧ Ex w w47 ∧ (w.heap.size ≤ lo44 ∧ lo44 ≤ u43 ∧ u43 ≤ w47.heap.size) ∧ x40.length + 1 * ((p_l.filter fun o => !((x40 : List DGot).any fun g => g.Key == o.Key)).length) ≤ 0 + 1 * ((p_l.filter fun o => !(([] : List DGot).any fun g => g.Key == o.Key)).length) ∧ (∀ y ∈ x40, ok_Got y) ∧ (x40.length + ((p_l.filter fun o => !((x40 : List DGot).any fun g => g.Key == o.Key)).length) ≤ p_l.length) ∧ loopW (B_s_l5Alone_0 p_rows p_l) m45 (x40) = loopW (B_s_l5Alone_0 p_rows p_l) (((p_l.filter fun o => !(([] : List DGot).any fun g => g.Key == o.Key)).length) + 1) (([] : List DGot))) (((p_l.filter fun o => !(([] : List DGot).any fun g => g.Key == o.Key)).length) + 1) ?_ ?_))))
 ·exact ⟨([] : List DGot), none, 0, w.heap.size, w.heap.size, Nat.lt_succ_self _, Nat.le_refl _, (sR rfl), h1, h3, (OwnL.nil w w.heap.size w.heap.size 170 3 (RF e_Got)), (Ex.refl w), oM, (by first | (simp; done) | (first | omega | (simp only [lN, toS_length]; omega))), okE.nil, (by first | exact asks_0 _ | omega), rfl⟩
 ·rintro m48 L49 w50 ⟨x40, A41, c42, u43, lo44, hk51, hsz53, hl54, hf55, hf56, hf57, hf58, hu59, hln60, hok61, hv62, hI52⟩
  refine CW.sub hl54 ?_
  have hf58z := Ex.size hf58
  refine CW.block (cR (sM rfl (sM rfl (sd rfl (yC en170 rfl (oc rfl (oc rfl oz)) (Cal.mono (c_s_l5Step p_l x40 (RdS.up hf56 good_Op) (RdS.up (OwnL.rd good_Got hf57) good_Got) o4 (okL.mk (xs := x40) Bl hok61) Bo Bo) ?_))))))
  rintro v69 w64 ⟨A65, c65, lo65, hi65, rfl, h65, ho66, ho67, hp68, hrn71, hE70⟩
  have hE70z := Ex.size hE70
  refine sM rfl (sd rfl (yl_extract rfl rfl rfl (sd rfl (yl_extract rfl rfl rfl (sd rfl (yl_extract rfl rfl rfl (sA rfl (sA rfl (sA rfl (dn ?_))))))))))
  refine CW.seq (cR (sM rfl (sd rfl (yl_neq rfl rfl rfl (dn (bcD (q := ((s_l5Step p_l x40).1) = 1) (fun hb72 hb72p => ?_) (fun hb72 hb72p => ?_)))))))
  ·refine CW.cond_f rfl (not_t hb72) (CW.skip (tn (CW.region (sM rfl (sM rfl (sM rfl ?_))))))
   have q73 := RdS.ex gW hf55 hE70
   refine sd rfl (yC en171 rfl (oc rfl (oc rfl oz)) (Cal.mono (c_s_l5Tell p_rows ((s_l5Step p_l x40).2.1) (RdS.up q73 gW) o2 ho66) ?_))
   rintro v76 w74 ⟨rfl, ho75, hE77⟩
   have hE77z := Ex.size hE77
   refine sd rfl (yl_buildSlice (cs := [.string (bs ((s_l5Tell p_rows ((s_l5Step p_l x40).2.1)).Key)), .string (bs ((s_l5Tell p_rows ((s_l5Step p_l x40).2.1)).Val)), .bool ((s_l5Tell p_rows ((s_l5Step p_l x40).2.1)).There)]) un117 ty170 (by decide) rfl (oc rfl oz) (by kernel_rfl) ?_)
   intro b78 w79 hs80 hz81 hB82 hE83
   have hO84 : OwnL w79 b78 (b78 + 1) 170 3 (RF e_Got) (some ⟨b78, 0, none⟩) 1 1 ([(s_l5Tell p_rows ((s_l5Step p_l x40).2.1))] : List DGot) := OwnL.of_box (S := fun _ => False) hB82 (Nat.le_refl _) (Nat.lt_succ_self _) (EncL.cons (c := [.string (bs ((s_l5Tell p_rows ((s_l5Step p_l x40).2.1)).Key)), .string (bs ((s_l5Tell p_rows ((s_l5Step p_l x40).2.1)).Val)), .bool ((s_l5Tell p_rows ((s_l5Step p_l x40).2.1)).There)]) rfl rfl EncL.nil) (nb rfl) (fun h => h) (fun _ h => False.elim h)
   refine sd rfl (yl_appendP (S := fun _ => False) (lo := lo44) (hi := u43) (xs := x40) (ys := ([(s_l5Tell p_rows ((s_l5Step p_l x40).2.1))] : List DGot)) un117 ty170 rfl (nb rfl) (fun _ => rfl) rfl rfl rfl (OwnL.ex good_Got (OwnL.ex good_Got (OwnL.ex good_Got hf57 hE70) hE77) hE83) (EncL.cons (c := [.string (bs ((s_l5Tell p_rows ((s_l5Step p_l x40).2.1)).Key)), .string (bs ((s_l5Tell p_rows ((s_l5Step p_l x40).2.1)).Val)), .bool ((s_l5Tell p_rows ((s_l5Step p_l x40).2.1)).There)]) rfl rfl EncL.nil) (Or.inr ⟨_, _, rfl, rfl, hB82.cells (o := 0) (n := 3) rfl⟩) rfl Bl Bl oM oM oM ?_)
   intro A88 c89 w90 row91 lp92 hp93 hO94 hG95 hrg96 hdj97
   have hG95z := hG95.size
   refine sA rfl (SeqR.done (bn (tn ?_)))
   have hB98 : B_s_l5Alone_0 p_rows p_l (x40) = .cont ((x40 ++ ([(s_l5Tell p_rows ((s_l5Step p_l x40).2.1))] : List DGot))) := by simp only [B_s_l5Alone_0, hb72, cL]
   have hmu110 : ((p_l.filter fun o => !(((x40 ++ ([(s_l5Tell p_rows ((s_l5Step p_l x40).2.1))] : List DGot)) : List DGot).any fun g => g.Key == o.Key)).length) < ((p_l.filter fun o => !((x40 : List DGot).any fun g => g.Key == o.Key)).length) := by (have hq := ask_less (rows := p_rows) (l := p_l) (got := x40) (by first | assumption | exact of_decide_eq_true (by assumption) | omega); first | exact hq | (simp only [lN]; omega))
   exact ⟨m48 - 1, oM, (x40 ++ ([(s_l5Tell p_rows ((s_l5Step p_l x40).2.1))] : List DGot)), A88, c89, hp93, lp92, oM, oM, (sR rfl), (RdS.grown gW (RdS.ex gW (RdS.ex gW q73 hE77) hE83) hG95 (hV hrg96)), (RdS.grown good_Op (RdS.ex good_Op (RdS.ex good_Op (RdS.ex good_Op hf56 hE70) hE77) hE83) hG95 (hV hrg96)), hO94, (Below.grown (Ex.trans (Ex.trans (Ex.trans hf58 hE70) hE77) hE83) hG95 oM (hW hrg96)), oM, Bl, (okE.append hok61 ((okL.mk (nb rfl) (okE.cons ho75 okE.nil))).2), (by (have hq := ask_less (rows := p_rows) (l := p_l) (got := x40) (by first | assumption | exact of_decide_eq_true (by assumption) | omega); first | exact hq | (simp only [lN]; omega))), (loopW.cont hk51 hB98).symm.trans hI52⟩
  ·refine CW.cond_t rfl (not_f hb72) (cR (sM rfl (sM rfl (sM rfl (sd rfl (yl_eql rfl rfl rfl (sA rfl (sA rfl ?_))))))))
   refine sA rfl (dn (CW.ret (tr (br (tr ?_)))))
   have hB112 : B_s_l5Alone_0 p_rows p_l (x40) = .ret (x40, (s_l5Step p_l x40).2.2, decide (((s_l5Step p_l x40).1) = 3)) := by simp only [B_s_l5Alone_0, hb72, cL]
   have hL111 : loopW (B_s_l5Alone_0 p_rows p_l) (((p_l.filter fun o => !(([] : List DGot).any fun g => g.Key == o.Key)).length) + 1) (([] : List DGot)) = .ret (x40, (s_l5Step p_l x40).2.2, decide (((s_l5Step p_l x40).1) = 3)) := hI52.symm.trans (loopW.ret hk51 hB112)
   refine br (rr rfl (.cons rfl (.cons rfl (.cons rfl .nil))) ?_)
   rw [show (s_l5Alone p_rows p_l) = ((x40, (s_l5Step p_l x40).2.2, decide (((s_l5Step p_l x40).1) = 3))) by simp only [s_l5Alone, hb72, hL111, cL]]
   exact ⟨A41, c42, A65, c65, rfl, (RdS.wideI good_Got (OwnL.rd good_Got (OwnL.ex good_Got hf57 hE70)) oM), (RdS.wideI gW (OwnL.rd gW h65) oM), (okL.mk (xs := x40) Bl hok61), ho67, (by (try dsimp only); first | omega | assumption), (Ex.trans hf58 hE70)⟩
theorem c_s_l5PutRows {A1 : Option Addr} {c1 : Nat} {A3 : Option Addr} {c3 : Nat} {w : World} (p_rows : List DWrite) (p_w : List DWrite) (h1 : RdS w (Iv 0 w.heap.size) (RF e_Write) 3 A1 p_rows.length c1 p_rows) (h3 : RdS w (Iv 0 w.heap.size) (RF e_Write) 3 A3 p_w.length c3 p_w) (o2 : (okL ok_Write) p_rows) (o4 : (okL ok_Write) p_w) (pre0 : p_rows.length ≤ 100) (pre1 : p_w.length ≤ 100) : Cal Tryz.prog 124 #[.slice A1 p_rows.length c1, .slice A3 p_w.length c3] w fun v w' => ∃ A_1 c_1 lo_1 hi_1, v = .slice A_1 ((s_l5PutRows p_rows p_w).length) c_1 ∧ OwnL w' lo_1 hi_1 80 3 (RF e_Write) A_1 ((s_l5PutRows p_rows p_w).length) c_1 (s_l5PutRows p_rows p_w) ∧ (okL ok_Write) (s_l5PutRows p_rows p_w) ∧ (w.heap.size ≤ lo_1 ∧ lo_1 ≤ hi_1 ∧ hi_1 ≤ w'.heap.size) ∧ Ex w w' := by
 have hol5 := o2.1
 have hol6 := o4.1
 refine Cal.of func124 rfl ntmps124 rfl (cR (sA rfl (dn (cR (sd rfl (yl_buildSlice (cs := []) un34 ty80 (by decide) rfl opvs_nil (by kernel_rfl) ?_))))))
 intro b7 w8 hs9 hz10 hB11 hE12
 have hO13 : OwnL w8 b7 (b7 + 1) 80 3 (RF e_Write) (some ⟨b7, 0, none⟩) 0 0 ([] : List DWrite) := oB hB11
 refine sM rfl ?_
 obtain ⟨nw15, he16, hs17⟩ := RdS.src (RdS.ex gW h1 hE12)
 have hol18 : p_rows.length ≤ 2147483648 := o2.1
 refine sd rfl (yl_appendP (S := fun _ => False) (lo := b7) (hi := (b7 + 1)) (xs := ([] : List DWrite)) (ys := p_rows) un34 ty80 rfl (nb rfl) (fun _ => rfl) rfl rfl rfl hO13 he16 hs17 rfl Bl Bl oM oM oM ?_)
 intro A19 c20 w21 row22 lp23 hp24 hO25 hG26 hrg27 hdj28
 have hG26z := hG26.size
 refine sA rfl (dn (CW.seq (cR (sM rfl (sd rfl (yL un34 rfl rfl (sM rfl ?_)))))))
 refine dn (CW.block (CW.loop (fun m73 L74 w75 => ∃ (k29 : Nat) (x68 : List DWrite) (A69 : Option Addr) (c70 : Nat) (u71 : Nat) (lo72 : Nat), m73 = p_w.length - k29 ∧ k29 ≤ p_w.length ∧ w21.heap.size ≤ w75.heap.size ∧ Sub [(5, .slice A69 x68.length c70), (14, .slice A3 p_w.length c3), (15, .int .i64 ((p_w.length : Int))), (16, .int .i64 ((k29 : Int)))] L74 ∧ OwnL w75 lo72 u71 80 3 (RF e_Write) A69 x68.length c70 x68 ∧ RdS w75 (Iv 0 w.heap.size) (RF e_Write) 3 A3 p_w.length c3 p_w ∧ Ex w w75 ∧ (lp23 ≤ lo72 ∧ lo72 ≤ u71 ∧ u71 ≤ w75.heap.size) ∧ x68.length ≤ 0 + p_rows.length + 1 * (k29 - 0) ∧ (∀ y ∈ x68, ok_Write y) ∧ loopM (B_s_l5PutRows_0 p_rows p_w) (p_w.length - k29) k29 (x68) = loopM (B_s_l5PutRows_0 p_rows p_w) (p_w.length - 0) 0 ((([] : List DWrite) ++ p_rows))) (p_w.length - 0) ?_ ?_))
 ·exact ⟨0, (([] : List DWrite) ++ p_rows), A19, c20, hp24, lp23, rfl, oM, Nat.le_refl _, (sR rfl), hO25, (RdS.grown gW (RdS.ex gW h3 hE12) hG26 (hV hrg27)), (Below.grown (Ex.trans (Ex.refl w) hE12) hG26 oM (hW hrg27)), oM, (by first | (simp; done) | (first | omega | (simp only [lN, toS_length]; omega))), (okE.append okE.nil (o2).2), rfl⟩
 ·rintro m80 L81 w82 ⟨k29, x68, A69, c70, u71, lo72, rfl, hk83, hsz85, hl86, hf87, hf88, hf89, hu90, hln91, hok92, hI84⟩
  refine CW.sub hl86 ?_
  have hf89z := Ex.size hf89
  have hbg93 := RdS.big hf88
  rcases Nat.lt_or_ge k29 p_w.length with hlt94 | hlt94
  ·refine cR (sd rfl (yl_lss rfl rfl rfl (dn (CW.seq (CW.cond_t rfl (lt_t hlt94) (CW.skip (tn ?_)))))))
   refine CW.seq (CW.block (cR ?_))
   obtain ⟨_, _, _, eA95, _, ebl95, _, eR95, eC95⟩ := RdS.atD hf88 d_Write (i := k29) Bq
   obtain rfl := eR95
   refine sd rfl (yl_indexAddrN un34 ty80 rfl rfl rfl eA95 Bq (sd rfl (yl_loadN ty80 rfl rfl eC95 rfl (sd rfl (yB ty80 (cs := [.string (bs (([] : Str))), .string (bs (([] : Str))), .bool (false)]) rfl rfl ?_)))))
   intro b96 w97 hs98 hz99 hB100 hE101
   refine SeqR.u rfl rfl (yl_storeA (vs := [.string (bs ((p_w.getD k29 d_Write).Key)), .string (bs ((p_w.getD k29 d_Write).Val)), .bool ((p_w.getD k29 d_Write).Gone)]) ty80 rfl rfl rfl rfl rfl rfl hB100 rfl ?_)
   intro w102 hB103 hO104
   have hO104z := hO104.size
   refine dn (CW.region (sM rfl (sd rfl (yl_loadN ty80 rfl rfl (hB103.cells (n := 3) rfl) rfl (sd rfl (yC en172 rfl (oc rfl (oc rfl oz)) (Cal.mono (c_s_l5PutW x68 (p_w.getD k29 d_Write) (RdS.up (OwnL.rd gW (OwnL.only gW (OwnL.ex gW hf87 hE101) hO104 oM)) gW) (okL.mk (xs := x68) Bl hok92) (okL.getD o4 ok_d_Write _) Bq) ?_)))))))
   rintro v112 w108 ⟨A109, c109, lo109, hi109, rfl, h109, ho110, hp111, hrn114, hE113⟩
   have hE113z := Ex.size hE113
   refine sA rfl (SeqR.done (bn (tn (CW.region (sd rfl (yl_inc rfl rfl rfl oM (sM rfl (dn ?_))))))))
   have hB115 : B_s_l5PutRows_0 p_rows p_w k29 (x68) = .cont ((s_l5PutW x68 (p_w.getD k29 d_Write))) := by simp only [B_s_l5PutRows_0, cL]
   exact ⟨p_w.length - (k29 + 1), oM, k29 + 1, (s_l5PutW x68 (p_w.getD k29 d_Write)), A109, c109, hi109, lo109, rfl, hlt94, oM, (sR rfl), h109, (RdS.ex gW (RdS.only gW (RdS.ex gW hf88 hE101) hO104 iV) hE113), (Ex.trans (Below.only (Ex.trans hf89 hE101) hO104 oM) hE113), oM, Bl, (ho110).2, (loopM.cont hlt94 hB115).symm.trans hI84⟩
  ·refine cR (sd rfl (yl_lss rfl rfl rfl (dn (CW.seq (CW.cond_f rfl (lt_f hlt94) (CW.exit (tx ?_)))))))
   refine tx ?_
   have hL122 : loopM (B_s_l5PutRows_0 p_rows p_w) (p_w.length - 0) 0 ((([] : List DWrite) ++ p_rows)) = .done (x68) := hI84.symm.trans (loopM.stop hlt94)
   refine bx (tn (cR (sA rfl (dn (CW.seq (CW.seq ?_))))))
   refine CW.region (sM rfl (sd rfl (yL un34 rfl rfl (sM rfl (dn (CW.block (CW.loop (fun m185 L186 w187 => ∃ (k123 : Nat) (x180 : List DWrite) (A181 : Option Addr) (c182 : Nat) (u183 : Nat) (lo184 : Nat), m185 = x68.length - k123 ∧ k123 ≤ x68.length ∧ w82.heap.size ≤ w187.heap.size ∧ Sub [(8, .slice A181 x180.length c182), (24, .slice A69 x68.length c70), (25, .int .i64 ((x68.length : Int))), (26, .int .i64 ((k123 : Int)))] L186 ∧ OwnL w187 lo184 u183 80 3 (RF e_Write) A181 x180.length c182 x180 ∧ OwnL w187 lo72 u71 80 3 (RF e_Write) A69 x68.length c70 x68 ∧ Ex w w187 ∧ (w82.heap.size ≤ lo184 ∧ lo184 ≤ u183 ∧ u183 ≤ w187.heap.size ∧ (u71 ≤ lo184 ∨ u183 ≤ lo72)) ∧ x180.length ≤ 0 + 1 * (k123 - 0) ∧ (∀ y ∈ x180, ok_Write y) ∧ loopM (B_s_l5PutRows_1 p_rows p_w x68) (x68.length - k123) k123 (x180) = loopM (B_s_l5PutRows_1 p_rows p_w x68) (x68.length - 0) 0 (([] : List DWrite))) (x68.length - 0) ?_ ?_)))))))
   ·exact ⟨0, ([] : List DWrite), none, 0, w82.heap.size, w82.heap.size, rfl, oM, Nat.le_refl _, (sR rfl), (OwnL.nil w82 w82.heap.size w82.heap.size 80 3 (RF e_Write)), hf87, hf89, oM, (by first | (simp; done) | (first | omega | (simp only [lN, toS_length]; omega))), okE.nil, rfl⟩
   ·rintro m188 L189 w190 ⟨k123, x180, A181, c182, u183, lo184, rfl, hk191, hsz193, hl194, hf195, hf196, hf197, hu198, hln199, hok200, hI192⟩
    refine CW.sub hl194 ?_
    have hf197z := Ex.size hf197
    have hbg201 := RdS.big (OwnL.rd gW hf196)
    rcases Nat.lt_or_ge k123 x68.length with hlt203 | hlt203
    ·refine cR (sd rfl (yl_lss rfl rfl rfl (dn (CW.seq (CW.cond_t rfl (lt_t hlt203) (CW.skip (tn ?_)))))))
     refine CW.seq (CW.block (cR ?_))
     obtain ⟨_, _, _, eA205, _, ebl205, _, eR205, eC205⟩ := RdS.atD (OwnL.rd gW hf196) d_Write (i := k123) Bq
     obtain rfl := eR205
     refine sd rfl (yl_indexAddrN un34 ty80 rfl rfl rfl eA205 Bq (sd rfl (yl_loadN ty80 rfl rfl eC205 rfl (sd rfl (yB ty80 (cs := [.string (bs (([] : Str))), .string (bs (([] : Str))), .bool (false)]) rfl rfl ?_)))))
     intro b206 w207 hs208 hz209 hB210 hE211
     refine SeqR.u rfl rfl (yl_storeA (vs := [.string (bs ((x68.getD k123 d_Write).Key)), .string (bs ((x68.getD k123 d_Write).Val)), .bool ((x68.getD k123 d_Write).Gone)]) ty80 rfl rfl rfl rfl rfl rfl hB210 rfl ?_)
     intro w212 hB213 hO214
     have hO214z := hO214.size
     refine dn (cR (sd rfl (yl_fieldAddr fd80_2 rfl rfl (sd rfl (yl_load1 ty4 rfl rfl ((hB213.cell 2).trans rfl) (sd rfl (yl_not rfl rfl (dn ?_))))))))
     refine bcase ((x68.getD k123 d_Write).Gone) (fun hb215 => ?_) (fun hb215 => ?_)
     ·refine CW.cond_f rfl (not_t hb215) (CW.skip (bn (tn (CW.region (sd rfl (yl_inc rfl rfl rfl oM (sM rfl (dn ?_))))))))
      have hB216 : B_s_l5PutRows_1 p_rows p_w x68 k123 (x180) = .cont (x180) := by simp only [B_s_l5PutRows_1, hb215, hL122, cL]
      exact ⟨x68.length - (k123 + 1), oM, k123 + 1, x180, A181, c182, u183, lo184, rfl, hlt203, oM, (sR rfl), (OwnL.only gW (OwnL.ex gW hf195 hE211) hO214 oM), (OwnL.only gW (OwnL.ex gW hf196 hE211) hO214 oM), (Below.only (Ex.trans hf197 hE211) hO214 oM), oM, Bl, hok200, (loopM.cont hlt203 hB216).symm.trans hI192⟩
     ·refine CW.cond_t rfl (not_f hb215) (CW.region (sM rfl (sd rfl (yl_loadN ty80 rfl rfl (hB213.cells (n := 3) rfl) rfl (sd rfl (yl_buildSlice (cs := [.string (bs ((x68.getD k123 d_Write).Key)), .string (bs ((x68.getD k123 d_Write).Val)), .bool ((x68.getD k123 d_Write).Gone)]) un34 ty80 (by decide) rfl (oc rfl oz) (by kernel_rfl) ?_))))))
      intro b223 w224 hs225 hz226 hB227 hE228
      have hO229 : OwnL w224 b223 (b223 + 1) 80 3 (RF e_Write) (some ⟨b223, 0, none⟩) 1 1 ([(x68.getD k123 d_Write)] : List DWrite) := OwnL.of_box (S := fun _ => False) hB227 (Nat.le_refl _) (Nat.lt_succ_self _) (EncL.cons (c := [.string (bs ((x68.getD k123 d_Write).Key)), .string (bs ((x68.getD k123 d_Write).Val)), .bool ((x68.getD k123 d_Write).Gone)]) rfl rfl EncL.nil) (nb rfl) (fun h => h) (fun _ h => False.elim h)
      refine sd rfl (yl_appendP (S := fun _ => False) (lo := lo184) (hi := u183) (xs := x180) (ys := ([(x68.getD k123 d_Write)] : List DWrite)) un34 ty80 rfl (nb rfl) (fun _ => rfl) rfl rfl rfl (OwnL.ex gW (OwnL.only gW (OwnL.ex gW hf195 hE211) hO214 oM) hE228) (EncL.cons (c := [.string (bs ((x68.getD k123 d_Write).Key)), .string (bs ((x68.getD k123 d_Write).Val)), .bool ((x68.getD k123 d_Write).Gone)]) rfl rfl EncL.nil) (Or.inr ⟨_, _, rfl, rfl, hB227.cells (o := 0) (n := 3) rfl⟩) rfl Bl Bl oM oM oM ?_)
      intro A233 c234 w235 row236 lp237 hp238 hO239 hG240 hrg241 hdj242
      have hG240z := hG240.size
      refine sA rfl (SeqR.done (bn (tn (CW.region (sd rfl (yl_inc rfl rfl rfl oM (sM rfl (dn ?_))))))))
      have hB243 : B_s_l5PutRows_1 p_rows p_w x68 k123 (x180) = .cont ((x180 ++ ([(x68.getD k123 d_Write)] : List DWrite))) := by simp only [B_s_l5PutRows_1, hb215, hL122, cL]
      exact ⟨x68.length - (k123 + 1), oM, k123 + 1, (x180 ++ ([(x68.getD k123 d_Write)] : List DWrite)), A233, c234, hp238, lp237, rfl, hlt203, oM, (sR rfl), hO239, (OwnL.grown gW (OwnL.ex gW (OwnL.only gW (OwnL.ex gW hf196 hE211) hO214 oM) hE228) hG240 (hW hrg241)), (Below.grown (Ex.trans (Below.only (Ex.trans hf197 hE211) hO214 oM) hE228) hG240 oM (hW hrg241)), oM, Bl, (okE.append hok200 ((okL.mk (nb rfl) (okE.cons (okL.getD (okL.mk (xs := x68) Bl hok92) ok_d_Write _) okE.nil))).2), (loopM.cont hlt203 hB243).symm.trans hI192⟩
    ·refine cR (sd rfl (yl_lss rfl rfl rfl (dn (CW.seq (CW.cond_f rfl (lt_f hlt203) (CW.exit (tx ?_)))))))
     refine tx ?_
     have hL252 : loopM (B_s_l5PutRows_1 p_rows p_w x68) (x68.length - 0) 0 (([] : List DWrite)) = .done (x180) := hI192.symm.trans (loopM.stop hlt203)
     refine bx (tn (cR (sM rfl (sA rfl (dn (CW.ret ?_))))))
     refine rr rfl (.cons rfl .nil) ?_
     rw [show (s_l5PutRows p_rows p_w) = (x180) by simp only [s_l5PutRows, hL122, hL252, cL]]
     exact ⟨A181, c182, lo184, u183, rfl, hf195, (okL.mk (xs := x180) Bl hok200), oM, hf197⟩
theorem c_s_RunInTurn {A1 : Option Addr} {c1 : Nat} {A3 : Option Addr} {c3 : Nat} {w : World} (p_0 : List DWrite) (p_1 : List (List DOp)) (h1 : RdS w (Iv 0 w.heap.size) (RF e_Write) 3 A1 p_0.length c1 p_0) (h3 : RdS w (Iv 0 w.heap.size) R_LOp 1 A3 p_1.length c3 p_1) (o2 : (okL ok_Write) p_0) (o4 : (okL (okL ok_Op)) p_1) (pre0 : ∀ x ∈ p_1, x.length ≤ 100 ∧ ∀ y ∈ x, y.Kind ≠ 4) : Cal Tryz.prog 73 #[.slice A1 p_0.length c1, .slice A3 p_1.length c3] w fun v w' => ∃ A_1 c_1 lo_1 hi_1 A_2 c_2 lo_2 hi_2, v = .tuple #[.slice A_1 (((s_RunInTurn p_0 p_1).1).length) c_1, .slice A_2 (((s_RunInTurn p_0 p_1).2.1).length) c_2, .bool ((s_RunInTurn p_0 p_1).2.2)] ∧ OwnL w' lo_1 hi_1 80 3 (RF e_Write) A_1 (((s_RunInTurn p_0 p_1).1).length) c_1 ((s_RunInTurn p_0 p_1).1) ∧ OwnL w' lo_2 hi_2 4 1 (RF e_Bool) A_2 (((s_RunInTurn p_0 p_1).2.1).length) c_2 ((s_RunInTurn p_0 p_1).2.1) ∧ (okL ok_Write) ((s_RunInTurn p_0 p_1).1) ∧ (okL okT) ((s_RunInTurn p_0 p_1).2.1) ∧ (w.heap.size ≤ lo_1 ∧ lo_1 ≤ hi_1 ∧ hi_1 ≤ w'.heap.size) ∧ (w.heap.size ≤ lo_2 ∧ lo_2 ≤ hi_2 ∧ hi_2 ≤ w'.heap.size) ∧ (hi_1 ≤ lo_2 ∨ hi_2 ≤ lo_1) ∧ Ex w w' := by
 have hol5 := o2.1
 have hol6 := o4.1
 refine Cal.of func73 rfl ntmps73 rfl (cR (sA rfl (sA rfl (sA rfl (dn (CW.seq ?_))))))
 refine cR (sM rfl (sd rfl (yC en40 rfl (oc rfl oz) (Cal.mono (c_s_l5Rows p_0 (RdS.up h1 gW) o2) ?_))))
 rintro v8 w7 ⟨rfl, hE9⟩
 have hE9z := Ex.size hE9
 refine sd rfl (yl_not rfl rfl (sM rfl (bcase (s_l5Rows p_0) (fun hb10 => ?_) (fun hb10 => ?_))))
 ·have hb10p := l5Rows_len hb10
  refine sy rfl rfl (not_t hb10) (yM rfl rfl (sy rfl rfl (not_t hb10) (yL un110 rfl rfl (sy rfl rfl (not_t hb10) (yl_gtr rfl rfl rfl (sd rfl (yl_pick_f rfl rfl (not_t hb10) rfl (dn (bcD (q := 20 < (p_1.length : Int)) (fun hb11 hb11p => ?_) (fun hb11 hb11p => ?_))))))))))
  ·refine CW.cond_t rfl hb11 (cR (sA rfl (sA rfl (sA rfl (dn (CW.ret ?_))))))
   refine tr (rr rfl (.cons rfl (.cons rfl (.cons rfl .nil))) ?_)
   rw [show (s_RunInTurn p_0 p_1) = ((([] : List DWrite), ([] : List Bool), false)) by simp only [s_RunInTurn, hb10, hb11, cL]]
   exact ⟨none, 0, w7.heap.size, w7.heap.size, none, 0, w7.heap.size, w7.heap.size, rfl, (OwnL.nil _ _ _ _ _ _), (OwnL.nil _ _ _ _ _ _), (okL.nil _), (okL.nil _), oM, oM, oM, (Ex.trans (Ex.refl w) hE9)⟩
  ·refine CW.cond_f rfl hb11 (CW.skip (tn (CW.seq (cR (sM rfl (sd rfl (yL un110 rfl rfl (sM rfl ?_))))))))
   refine dn (CW.block (CW.loop (fun m15 L16 w17 => ∃ (k14 : Nat), m15 = p_1.length - k14 ∧ k14 ≤ p_1.length ∧ w7.heap.size ≤ w17.heap.size ∧ Sub [(0, .slice A1 p_0.length c1), (1, .slice A3 p_1.length c3), (25, .slice A3 p_1.length c3), (26, .int .i64 ((p_1.length : Int))), (27, .int .i64 ((k14 : Int)))] L16 ∧ RdS w17 (Iv 0 w.heap.size) (RF e_Write) 3 A1 p_0.length c1 p_0 ∧ RdS w17 (Iv 0 w.heap.size) R_LOp 1 A3 p_1.length c3 p_1 ∧ Ex w w17 ∧ loopM (B_s_RunInTurn_0 p_0 p_1) (p_1.length - k14) k14 () = loopM (B_s_RunInTurn_0 p_0 p_1) (p_1.length - 0) 0 ()) (p_1.length - 0) ?_ ?_))
   ·exact ⟨0, rfl, oM, Nat.le_refl _, (sR rfl), (RdS.ex gW h1 hE9), (RdS.ex good_LOp h3 hE9), (Ex.trans (Ex.refl w) hE9), rfl⟩
   ·rintro m21 L22 w23 ⟨k14, rfl, hk24, hsz26, hl27, hf28, hf29, hf30, hI25⟩
    refine CW.sub hl27 ?_
    have hf30z := Ex.size hf30
    have hbg31 := RdS.big hf29
    rcases Nat.lt_or_ge k14 p_1.length with hlt32 | hlt32
    ·refine cR (sd rfl (yl_lss rfl rfl rfl (dn (CW.seq (CW.cond_t rfl (lt_t hlt32) (CW.skip (tn ?_)))))))
     refine CW.seq (CW.block (cR ?_))
     obtain ⟨_, _, _, eA33, _, ebl33, _, eR33, eC33⟩ := RdS.atD hf29 d_LOp (i := k14) Bo
     obtain ⟨A34, c34, rfl, h34⟩ := eR33
     refine sd rfl (yl_ixN un110 ty77 rfl rfl rfl eA33 (sd rfl (yl_load1 ty77 rfl rfl (eC33 0 _ rfl) (sA rfl (dn (cR (sM rfl (sd rfl (yC en122 rfl (oc rfl oz) (Cal.mono (c_s_l5Good (p_1.getD k14 d_LOp) (RdS.up h34 good_Op) (okL.getD o4 ok_d_LOp _)) ?_))))))))))
     rintro v36 w35 ⟨rfl, hE37⟩
     have hE37z := Ex.size hE37
     refine sd rfl (yl_not rfl rfl (dn (bcase (s_l5Good (p_1.getD k14 d_LOp)) (fun hb38 => ?_) (fun hb38 => ?_))))
     ·refine CW.cond_f rfl (not_t hb38) (CW.skip (bn (tn (CW.region (sd rfl (yl_inc rfl rfl rfl oM (sM rfl (dn ?_))))))))
      have hB39 : B_s_RunInTurn_0 p_0 p_1 k14 () = .cont () := by simp only [B_s_RunInTurn_0, hb10, hb11, hb38, cL]
      exact ⟨p_1.length - (k14 + 1), oM, k14 + 1, rfl, hlt32, oM, (sR rfl), (RdS.ex gW hf28 hE37), (RdS.ex good_LOp hf29 hE37), (Ex.trans hf30 hE37), (loopM.cont hlt32 hB39).symm.trans hI25⟩
     ·refine CW.cond_t rfl (not_f hb38) (cR (sA rfl (sA rfl (sA rfl (dn (CW.ret ?_))))))
      refine br (tr (tr ?_))
      have hB44 : B_s_RunInTurn_0 p_0 p_1 k14 () = .ret (([] : List DWrite), ([] : List Bool), false) := by simp only [B_s_RunInTurn_0, hb10, hb11, hb38, cL]
      have hL43 : loopM (B_s_RunInTurn_0 p_0 p_1) (p_1.length - 0) 0 () = .ret (([] : List DWrite), ([] : List Bool), false) := hI25.symm.trans (loopM.ret hlt32 hB44)
      refine br (tr (rr rfl (.cons rfl (.cons rfl (.cons rfl .nil))) ?_))
      rw [show (s_RunInTurn p_0 p_1) = ((([] : List DWrite), ([] : List Bool), false)) by simp only [s_RunInTurn, hb10, hb11, hb38, hL43, cL]]
      exact ⟨none, 0, w35.heap.size, w35.heap.size, none, 0, w35.heap.size, w35.heap.size, rfl, (OwnL.nil _ _ _ _ _ _), (OwnL.nil _ _ _ _ _ _), (okL.nil _), (okL.nil _), oM, oM, oM, (Ex.trans hf30 hE37)⟩
    ·refine cR (sd rfl (yl_lss rfl rfl rfl (dn (CW.seq (CW.cond_f rfl (lt_f hlt32) (CW.exit (tx ?_)))))))
     refine tx ?_
     have hL47 : loopM (B_s_RunInTurn_0 p_0 p_1) (p_1.length - 0) 0 () = .done () := hI25.symm.trans (loopM.stop hlt32)
     refine bx (tn (cR (sd rfl (yl_buildSlice (cs := []) un34 ty80 (by decide) rfl opvs_nil (by kernel_rfl) ?_))))
     intro b48 w49 hs50 hz51 hB52 hE53
     have hO54 : OwnL w49 b48 (b48 + 1) 80 3 (RF e_Write) (some ⟨b48, 0, none⟩) 0 0 ([] : List DWrite) := oB hB52
     refine sM rfl ?_
     obtain ⟨nw56, he57, hs58⟩ := RdS.src (RdS.ex gW hf28 hE53)
     have hol59 : p_0.length ≤ 2147483648 := o2.1
     refine sd rfl (yl_appendP (S := fun _ => False) (lo := b48) (hi := (b48 + 1)) (xs := ([] : List DWrite)) (ys := p_0) un34 ty80 rfl (nb rfl) (fun _ => rfl) rfl rfl rfl hO54 he57 hs58 rfl Bl Bl oM oM oM ?_)
     intro A60 c61 w62 row63 lp64 hp65 hO66 hG67 hrg68 hdj69
     have hG67z := hG67.size
     refine sA rfl (dn (cR (sA rfl (dn (CW.seq ?_)))))
     refine cR (sM rfl (sd rfl (yL un110 rfl rfl (sM rfl (dn (CW.block (CW.loop (fun m161 L162 w163 => ∃ (k70 : Nat) (x151 : List DWrite) (x156 : List Bool) (A152 : Option Addr) (c153 : Nat) (u154 : Nat) (lo155 : Nat) (A157 : Option Addr) (c158 : Nat) (u159 : Nat) (lo160 : Nat), m161 = p_1.length - k70 ∧ k70 ≤ p_1.length ∧ w62.heap.size ≤ w163.heap.size ∧ Sub [(9, .slice A152 x151.length c153), (10, .slice A157 x156.length c158), (38, .slice A3 p_1.length c3), (39, .int .i64 ((p_1.length : Int))), (40, .int .i64 ((k70 : Int)))] L162 ∧ OwnL w163 lo155 u154 80 3 (RF e_Write) A152 x151.length c153 x151 ∧ OwnL w163 lo160 u159 4 1 (RF e_Bool) A157 x156.length c158 x156 ∧ RdS w163 (Iv 0 w.heap.size) R_LOp 1 A3 p_1.length c3 p_1 ∧ Ex w w163 ∧ (lp64 ≤ lo155 ∧ lo155 ≤ u154 ∧ u154 ≤ w163.heap.size ∧ (u159 ≤ lo155 ∨ u154 ≤ lo160)) ∧ (w62.heap.size ≤ lo160 ∧ lo160 ≤ u159 ∧ u159 ≤ w163.heap.size ∧ (u154 ≤ lo160 ∨ u159 ≤ lo155)) ∧ x151.length ≤ 0 + p_0.length + 24 * (k70 - 0) ∧ x156.length ≤ 0 + 24 * (k70 - 0) ∧ (∀ y ∈ x151, ok_Write y) ∧ x151.length ≤ 24 ∧ loopM (B_s_RunInTurn_1 p_0 p_1) (p_1.length - k70) k70 (x151, x156) = loopM (B_s_RunInTurn_1 p_0 p_1) (p_1.length - 0) 0 ((([] : List DWrite) ++ p_0), ([] : List Bool))) (p_1.length - 0) ?_ ?_)))))))
     ·exact ⟨0, (([] : List DWrite) ++ p_0), ([] : List Bool), A60, c61, hp65, lp64, none, 0, w62.heap.size, w62.heap.size, rfl, oM, Nat.le_refl _, (sR rfl), hO66, (OwnL.nil w62 w62.heap.size w62.heap.size 4 1 (RF e_Bool)), (RdS.grown good_LOp (RdS.ex good_LOp hf29 hE53) hG67 (hV hrg68)), (Below.grown (Ex.trans hf30 hE53) hG67 oM (hW hrg68)), oM, oM, (by first | (simp; done) | (first | omega | (simp only [lN, toS_length]; omega))), (by first | (simp; done) | (first | omega | (simp only [lN, toS_length]; omega))), (okE.append okE.nil (o2).2), (by first | omega | (simp only [List.length_append, List.length_nil]; omega)), rfl⟩
     ·rintro m168 L169 w170 ⟨k70, x151, x156, A152, c153, u154, lo155, A157, c158, u159, lo160, rfl, hk171, hsz173, hl174, hf175, hf176, hf177, hf178, hu179, hu180, hln181, hln182, hok183, hv184, hI172⟩
      refine CW.sub hl174 ?_
      have hf178z := Ex.size hf178
      have hbg185 := RdS.big hf177
      rcases Nat.lt_or_ge k70 p_1.length with hlt186 | hlt186
      ·have hkd := pre0 _ (getD_mem (d := d_LOp) hlt186)
       have hkd1 := hkd.1
       have hkd2 := hkd.2
       refine cR (sd rfl (yl_lss rfl rfl rfl (dn (CW.seq (CW.cond_t rfl (lt_t hlt186) (CW.skip (tn ?_)))))))
       refine CW.seq (CW.block (cR ?_))
       obtain ⟨_, _, _, eA187, _, ebl187, _, eR187, eC187⟩ := RdS.atD hf177 d_LOp (i := k70) Bo
       obtain ⟨A188, c188, rfl, h188⟩ := eR187
       refine sd rfl (yl_ixN un110 ty77 rfl rfl rfl eA187 (sd rfl (yl_load1 ty77 rfl rfl (eC187 0 _ rfl) (sA rfl (dn (cR (sM rfl (sM rfl ?_))))))))
       refine sd rfl (yC en123 rfl (oc rfl (oc rfl oz)) (Cal.mono (c_s_l5Alone x151 (p_1.getD k70 d_LOp) (RdS.up (OwnL.rd gW hf175) gW) (RdS.up h188 good_Op) (okL.mk (xs := x151) Bl hok183) (okL.getD o4 ok_d_LOp _) Bo Bo) ?_))
       rintro v196 w190 ⟨A191, c191, A192, c192, rfl, h191, h192, ho193, ho194, hp195, hE197⟩
       have hE197z := Ex.size hE197
       refine sM rfl (sd rfl (yl_extract rfl rfl rfl (sd rfl (yl_extract rfl rfl rfl (sd rfl (yl_extract rfl rfl rfl (sA rfl (sA rfl (sA rfl (dn ?_))))))))))
       refine cR (sM rfl (sM rfl ?_))
       have q199 := OwnL.ex gW hf175 hE197
       refine sd rfl (yC en124 rfl (oc rfl (oc rfl oz)) (Cal.mono (c_s_l5PutRows x151 ((s_l5Alone x151 (p_1.getD k70 d_LOp)).2.1) (RdS.up (OwnL.rd gW q199) gW) (RdS.up h192 gW) (okL.mk (xs := x151) Bl hok183) ho194 Bo Bo) ?_))
       rintro v203 w200 ⟨A201, c201, lo201, hi201, rfl, h201, ho202, hrn205, hE204⟩
       have hE204z := Ex.size hE204
       refine sA rfl (dn (cR (sM rfl (sM rfl (bcase ((s_l5Alone x151 (p_1.getD k70 d_LOp)).2.2) (fun hb206 => ?_) (fun hb206 => ?_))))))
       ·refine sy rfl rfl hb206 (yM rfl rfl (sy rfl rfl hb206 (yC en40 rfl (oc rfl oz) (Cal.mono (c_s_l5Rows (s_l5PutRows x151 ((s_l5Alone x151 (p_1.getD k70 d_LOp)).2.1)) (RdS.up (OwnL.rd gW h201) gW) ho202) ?_))))
        rintro v209 w208 ⟨rfl, hE210⟩
        have hE210z := Ex.size hE210
        refine sd rfl (yl_pick_t rfl rfl hb206 rfl (sA rfl (dn (CW.seq (cR (sM rfl (SeqR.done ?_)))))))
        refine tn (bcase (s_l5Rows (s_l5PutRows x151 ((s_l5Alone x151 (p_1.getD k70 d_LOp)).2.1))) (fun hb211 => ?_) (fun hb211 => ?_))
        ·have hb211p := l5Rows_len hb211
         refine CW.cond_t rfl hb211 (CW.region (sM rfl (sA rfl (dn (CW.region (sM rfl (sM rfl ?_)))))))
         refine sd rfl (yl_buildSlice (cs := [.bool ((s_l5Rows (s_l5PutRows x151 ((s_l5Alone x151 (p_1.getD k70 d_LOp)).2.1))))]) un107 ty4 (by decide) rfl (oc rfl oz) (by kernel_rfl) ?_)
         intro b212 w213 hs214 hz215 hB216 hE217
         have hO218 : OwnL w213 b212 (b212 + 1) 4 1 (RF e_Bool) (some ⟨b212, 0, none⟩) 1 1 ([(s_l5Rows (s_l5PutRows x151 ((s_l5Alone x151 (p_1.getD k70 d_LOp)).2.1)))] : List Bool) := OwnL.of_box (S := fun _ => False) hB216 (Nat.le_refl _) (Nat.lt_succ_self _) (EncL.cons (c := [.bool ((s_l5Rows (s_l5PutRows x151 ((s_l5Alone x151 (p_1.getD k70 d_LOp)).2.1))))]) rfl rfl EncL.nil) (nb rfl) (fun h => h) (fun _ h => False.elim h)
         refine sd rfl (yl_appendP (S := fun _ => False) (lo := lo160) (hi := u159) (xs := x156) (ys := ([(s_l5Rows (s_l5PutRows x151 ((s_l5Alone x151 (p_1.getD k70 d_LOp)).2.1)))] : List Bool)) un107 ty4 rfl (nb rfl) (fun _ => rfl) rfl rfl rfl (OwnL.ex good_Bool (OwnL.ex good_Bool (OwnL.ex good_Bool (OwnL.ex good_Bool hf176 hE197) hE204) hE210) hE217) (EncL.cons (c := [.bool ((s_l5Rows (s_l5PutRows x151 ((s_l5Alone x151 (p_1.getD k70 d_LOp)).2.1))))]) rfl rfl EncL.nil) (Or.inr ⟨_, _, rfl, rfl, hB216.cells (o := 0) (n := 1) rfl⟩) rfl Bl Bl oM oM oM ?_)
         intro A223 c224 w225 row226 lp227 hp228 hO229 hG230 hrg231 hdj232
         have hG230z := hG230.size
         refine sA rfl (SeqR.done (bn (tn (CW.region (sd rfl (yl_inc rfl rfl rfl oM (sM rfl (dn ?_))))))))
         have hB233 : B_s_RunInTurn_1 p_0 p_1 k70 (x151, x156) = .cont ((s_l5PutRows x151 ((s_l5Alone x151 (p_1.getD k70 d_LOp)).2.1)), (x156 ++ ([(s_l5Rows (s_l5PutRows x151 ((s_l5Alone x151 (p_1.getD k70 d_LOp)).2.1)))] : List Bool))) := by simp only [B_s_RunInTurn_1, hb10, hb11, hb206, hb211, hL47, cL]
         exact ⟨p_1.length - (k70 + 1), oM, k70 + 1, (s_l5PutRows x151 ((s_l5Alone x151 (p_1.getD k70 d_LOp)).2.1)), (x156 ++ ([(s_l5Rows (s_l5PutRows x151 ((s_l5Alone x151 (p_1.getD k70 d_LOp)).2.1)))] : List Bool)), A201, c201, hi201, lo201, A223, c224, hp228, lp227, rfl, hlt186, oM, (sR rfl), (OwnL.grown gW (OwnL.ex gW (OwnL.ex gW h201 hE210) hE217) hG230 (hW hrg231)), hO229, (RdS.grown good_LOp (RdS.ex good_LOp (RdS.ex good_LOp (RdS.ex good_LOp (RdS.ex good_LOp hf177 hE197) hE204) hE210) hE217) hG230 (hV hrg231)), (Below.grown (Ex.trans (Ex.trans (Ex.trans (Ex.trans hf178 hE197) hE204) hE210) hE217) hG230 oM (hW hrg231)), oM, oM, Bl, Bl, (ho202).2, (by first | omega | (simp only [List.length_append, List.length_nil]; omega)), (loopM.cont hlt186 hB233).symm.trans hI172⟩
        ·refine CW.cond_f rfl hb211 (CW.skip (tn (CW.region (sM rfl (sM rfl (sd rfl (yl_buildSlice (cs := [.bool ((s_l5Rows (s_l5PutRows x151 ((s_l5Alone x151 (p_1.getD k70 d_LOp)).2.1))))]) un107 ty4 (by decide) rfl (oc rfl oz) (by kernel_rfl) ?_)))))))
         intro b247 w248 hs249 hz250 hB251 hE252
         have hO253 : OwnL w248 b247 (b247 + 1) 4 1 (RF e_Bool) (some ⟨b247, 0, none⟩) 1 1 ([(s_l5Rows (s_l5PutRows x151 ((s_l5Alone x151 (p_1.getD k70 d_LOp)).2.1)))] : List Bool) := OwnL.of_box (S := fun _ => False) hB251 (Nat.le_refl _) (Nat.lt_succ_self _) (EncL.cons (c := [.bool ((s_l5Rows (s_l5PutRows x151 ((s_l5Alone x151 (p_1.getD k70 d_LOp)).2.1))))]) rfl rfl EncL.nil) (nb rfl) (fun h => h) (fun _ h => False.elim h)
         refine sd rfl (yl_appendP (S := fun _ => False) (lo := lo160) (hi := u159) (xs := x156) (ys := ([(s_l5Rows (s_l5PutRows x151 ((s_l5Alone x151 (p_1.getD k70 d_LOp)).2.1)))] : List Bool)) un107 ty4 rfl (nb rfl) (fun _ => rfl) rfl rfl rfl (OwnL.ex good_Bool (OwnL.ex good_Bool (OwnL.ex good_Bool (OwnL.ex good_Bool hf176 hE197) hE204) hE210) hE252) (EncL.cons (c := [.bool ((s_l5Rows (s_l5PutRows x151 ((s_l5Alone x151 (p_1.getD k70 d_LOp)).2.1))))]) rfl rfl EncL.nil) (Or.inr ⟨_, _, rfl, rfl, hB251.cells (o := 0) (n := 1) rfl⟩) rfl Bl Bl oM oM oM ?_)
         intro A258 c259 w260 row261 lp262 hp263 hO264 hG265 hrg266 hdj267
         have hG265z := hG265.size
         refine sA rfl (SeqR.done (bn (tn (CW.region (sd rfl (yl_inc rfl rfl rfl oM (sM rfl (dn ?_))))))))
         have hB268 : B_s_RunInTurn_1 p_0 p_1 k70 (x151, x156) = .cont (x151, (x156 ++ ([(s_l5Rows (s_l5PutRows x151 ((s_l5Alone x151 (p_1.getD k70 d_LOp)).2.1)))] : List Bool))) := by simp only [B_s_RunInTurn_1, hb10, hb11, hb206, hb211, hL47, cL]
         exact ⟨p_1.length - (k70 + 1), oM, k70 + 1, x151, (x156 ++ ([(s_l5Rows (s_l5PutRows x151 ((s_l5Alone x151 (p_1.getD k70 d_LOp)).2.1)))] : List Bool)), A152, c153, u154, lo155, A258, c259, hp263, lp262, rfl, hlt186, oM, (sR rfl), (OwnL.grown gW (OwnL.ex gW (OwnL.ex gW (OwnL.ex gW q199 hE204) hE210) hE252) hG265 (hW hrg266)), hO264, (RdS.grown good_LOp (RdS.ex good_LOp (RdS.ex good_LOp (RdS.ex good_LOp (RdS.ex good_LOp hf177 hE197) hE204) hE210) hE252) hG265 (hV hrg266)), (Below.grown (Ex.trans (Ex.trans (Ex.trans (Ex.trans hf178 hE197) hE204) hE210) hE252) hG265 oM (hW hrg266)), oM, oM, Bl, Bl, hok183, (by first | omega | (simp only [List.length_append, List.length_nil]; omega)), (loopM.cont hlt186 hB268).symm.trans hI172⟩
       ·refine sz rfl rfl hb206 (sz rfl rfl hb206 (sd rfl (yl_pick_f rfl rfl hb206 rfl (sA rfl (dn (CW.seq (cR ?_)))))))
        refine sM rfl (dn (CW.cond_f rfl rfl (CW.skip (tn (CW.region (sM rfl (sM rfl ?_)))))))
        refine sd rfl (yl_buildSlice (cs := [.bool (false)]) un107 ty4 (by decide) rfl (oc rfl oz) (by kernel_rfl) ?_)
        intro b283 w284 hs285 hz286 hB287 hE288
        have hO289 : OwnL w284 b283 (b283 + 1) 4 1 (RF e_Bool) (some ⟨b283, 0, none⟩) 1 1 ([false] : List Bool) := OwnL.of_box (S := fun _ => False) hB287 (Nat.le_refl _) (Nat.lt_succ_self _) (EncL.cons (c := [.bool (false)]) rfl rfl EncL.nil) (nb rfl) (fun h => h) (fun _ h => False.elim h)
        refine sd rfl (yl_appendP (S := fun _ => False) (lo := lo160) (hi := u159) (xs := x156) (ys := ([false] : List Bool)) un107 ty4 rfl (nb rfl) (fun _ => rfl) rfl rfl rfl (OwnL.ex good_Bool (OwnL.ex good_Bool (OwnL.ex good_Bool hf176 hE197) hE204) hE288) (EncL.cons (c := [.bool (false)]) rfl rfl EncL.nil) (Or.inr ⟨_, _, rfl, rfl, hB287.cells (o := 0) (n := 1) rfl⟩) rfl Bl Bl oM oM oM ?_)
        intro A293 c294 w295 row296 lp297 hp298 hO299 hG300 hrg301 hdj302
        have hG300z := hG300.size
        refine sA rfl (SeqR.done (bn (tn (CW.region (sd rfl (yl_inc rfl rfl rfl oM (sM rfl (dn ?_))))))))
        have hB303 : B_s_RunInTurn_1 p_0 p_1 k70 (x151, x156) = .cont (x151, (x156 ++ ([false] : List Bool))) := by simp only [B_s_RunInTurn_1, hb10, hb11, hb206, hL47, cL]
        exact ⟨p_1.length - (k70 + 1), oM, k70 + 1, x151, (x156 ++ ([false] : List Bool)), A152, c153, u154, lo155, A293, c294, hp298, lp297, rfl, hlt186, oM, (sR rfl), (OwnL.grown gW (OwnL.ex gW (OwnL.ex gW q199 hE204) hE288) hG300 (hW hrg301)), hO299, (RdS.grown good_LOp (RdS.ex good_LOp (RdS.ex good_LOp (RdS.ex good_LOp hf177 hE197) hE204) hE288) hG300 (hV hrg301)), (Below.grown (Ex.trans (Ex.trans (Ex.trans hf178 hE197) hE204) hE288) hG300 oM (hW hrg301)), oM, oM, Bl, Bl, hok183, (by first | omega | (simp only [List.length_append, List.length_nil]; omega)), (loopM.cont hlt186 hB303).symm.trans hI172⟩
      ·refine cR (sd rfl (yl_lss rfl rfl rfl (dn (CW.seq (CW.cond_f rfl (lt_f hlt186) (CW.exit (tx ?_)))))))
       refine tx ?_
       have hL315 : loopM (B_s_RunInTurn_1 p_0 p_1) (p_1.length - 0) 0 ((([] : List DWrite) ++ p_0), ([] : List Bool)) = .done (x151, x156) := hI172.symm.trans (loopM.stop hlt186)
       refine bx (tn (cR (sM rfl (sM rfl (sA rfl (sA rfl (sA rfl ?_)))))))
       refine dn (CW.ret (rr rfl (.cons rfl (.cons rfl (.cons rfl .nil))) ?_))
       rw [show (s_RunInTurn p_0 p_1) = ((x151, x156, true)) by simp only [s_RunInTurn, hb10, hb11, hL47, hL315, cL]]
       exact ⟨A152, c153, lo155, u154, A157, c158, lo160, u159, rfl, hf175, hf176, (okL.mk (xs := x151) Bl hok183), (okL.mk (xs := x156) (by first | omega | (simp only [lN]; omega)) fun _ _ => trivial), oM, oM, oM, hf178⟩
 ·refine sz rfl rfl (not_f hb10) (sz rfl rfl (not_f hb10) (sz rfl rfl (not_f hb10) (sd rfl (yl_pick_t rfl rfl (not_f hb10) rfl (dn (CW.cond_t rfl rfl (cR ?_)))))))
  refine sA rfl (sA rfl (sA rfl (dn (CW.ret (tr (rr rfl (.cons rfl (.cons rfl (.cons rfl .nil))) ?_))))))
  rw [show (s_RunInTurn p_0 p_1) = ((([] : List DWrite), ([] : List Bool), false)) by simp only [s_RunInTurn, hb10, cL]]
  exact ⟨none, 0, w7.heap.size, w7.heap.size, none, 0, w7.heap.size, w7.heap.size, rfl, (OwnL.nil _ _ _ _ _ _), (OwnL.nil _ _ _ _ _ _), (okL.nil _), (okL.nil _), oM, oM, oM, (Ex.trans (Ex.refl w) hE9)⟩
theorem c_s_l26Do {A1 : Option Addr} {c1 : Nat} {A3 : Option Addr} {c3 : Nat} {w : World} (ps : List DWrite) (p_ops : List DOp) (h1 : RdS w (Iv 0 w.heap.size) (RF e_Write) 3 A1 ps.length c1 ps) (h3 : RdS w (Iv 0 w.heap.size) (RF e_Op) 4 A3 p_ops.length c3 p_ops) (o2 : (okL ok_Write) ps) (o4 : (okL ok_Op) p_ops) (pre0 : p_ops.length ≤ 100) (pre1 : ∀ y ∈ p_ops, y.Kind ≠ 4) : Cal Tryz.prog 41 #[.slice A1 ps.length c1, .slice A3 p_ops.length c3] w fun v w' => ∃ A_1 c_1 lo_1 hi_1, v = .tuple #[.slice A_1 (((s_l26Do ps p_ops).1).length) c_1, .bool ((s_l26Do ps p_ops).2)] ∧ OwnL w' lo_1 hi_1 80 3 (RF e_Write) A_1 (((s_l26Do ps p_ops).1).length) c_1 ((s_l26Do ps p_ops).1) ∧ (okL ok_Write) ((s_l26Do ps p_ops).1) ∧ (w.heap.size ≤ lo_1 ∧ lo_1 ≤ hi_1 ∧ hi_1 ≤ w'.heap.size) ∧ Ex w w' := by
 have hol5 := o2.1
 have hol6 := o4.1
 refine Cal.of func41 rfl ntmps41 rfl (cR (sA rfl (sA rfl (dn (cR ?_)))))
 refine sM rfl (sM rfl (sd rfl (yl_buildSlice (cs := [.slice A3 p_ops.length c3]) un110 ty77 (by decide) rfl (oc rfl oz) (by kernel_rfl) ?_)))
 intro b7 w8 hs9 hz10 hB11 hE12
 have hO13 : OwnL w8 0 (b7 + 1) 77 1 R_LOp (some ⟨b7, 0, none⟩) 1 1 ([p_ops] : List (List DOp)) := OwnL.of_box (S := Iv 0 b7) hB11 oM (Nat.lt_succ_self _) (EncL.cons (c := [.slice A3 p_ops.length c3]) rfl ⟨A3, c3, rfl, (RdS.ex good_Op (RdS.wide good_Op h3 (fun b hh hl => ⟨by first | exact Nat.zero_le _ | (have := hh.1; omega), by omega⟩)) hE12)⟩ EncL.nil) (nb rfl) (fun h => Nat.lt_irrefl _ h.2) (fun _ h => ⟨h.1, Nat.lt_succ_of_lt h.2⟩)
 have hle15 := OwnL.len hO13
 refine sd rfl (yC en73 rfl (oc rfl (oc rfl oz)) (Cal.mono (Cal.args (by rw [← hle15] <;> rfl) (c_s_RunInTurn ps ([p_ops] : List (List DOp)) (RdS.up (RdS.ex gW h1 hE12) gW) (RdS.fix (RdS.up (OwnL.rd good_LOp hO13) good_LOp)) o2 (okL.mk (nb rfl) (okE.cons o4 okE.nil)) (noadd_100 pre0 pre1))) ?_))
 rintro v22 w17 ⟨A18, c18, lo18, hi18, A19, c19, lo19, hi19, rfl, h18, h19, ho20, ho21, hrn24, hrn25, hrn26, hE23⟩
 have hE23z := Ex.size hE23
 refine sM rfl (sd rfl (yl_extract rfl rfl rfl (sd rfl (yl_extract rfl rfl rfl (sd rfl (yl_extract rfl rfl rfl (sA rfl (sA rfl (sA rfl (dn ?_))))))))))
 refine CW.seq (bcD (q := (((s_RunInTurn ps ([p_ops] : List (List DOp))).2.1).length : Int) = 1) (fun hb27 hb27p => ?_) (fun hb27 hb27p => ?_))
 ·obtain ⟨eb29, eo29, _, eA29, _, ebl29, _, eR29, eC29⟩ := RdS.aD (OwnL.rd good_Bool h19) d_Bool (i := 0)
  obtain rfl := eR29
  refine drJ 11 [.slice A18 (((s_RunInTurn ps ([p_ops] : List (List DOp))).1).length) c18, .slice A19 (((s_RunInTurn ps ([p_ops] : List (List DOp))).2.1).length) c19, .int .i64 ((((s_RunInTurn ps ([p_ops] : List (List DOp))).2.1).length : Int)), .bool (decide ((((s_RunInTurn ps ([p_ops] : List (List DOp))).2.1).length : Int) = 1)), .bool (decide ((((s_RunInTurn ps ([p_ops] : List (List DOp))).2.1).length : Int) = 1)), .slice A19 (((s_RunInTurn ps ([p_ops] : List (List DOp))).2.1).length) c19, .pointer (some ⟨eb29, eo29 + 0 * 1, none⟩), .bool ((((s_RunInTurn ps ([p_ops] : List (List DOp))).2.1).getD 0 d_Bool)), .bool ((((s_RunInTurn ps ([p_ops] : List (List DOp))).2.1).getD 0 d_Bool)), .slice A18 (((s_RunInTurn ps ([p_ops] : List (List DOp))).1).length) c18, .bool ((((s_RunInTurn ps ([p_ops] : List (List DOp))).2.1).getD 0 d_Bool))] Tryz.follows rfl ⟨oI rfl fun h => yM rfl (h.g 6 rfl) kI, oI rfl fun h => yM rfl (h.g 7 rfl) kI, oI rfl fun h => yL un107 rfl (h.g 18 rfl) kI, oI rfl fun h => yl_eql rfl (h.g 19 rfl) rfl kI, oI rfl fun h => yM rfl (h.g 20 rfl) kI, oW rfl rfl rfl rfl hb27 fun h => yM rfl (h.g 7 rfl) kI, ?_, oW rfl rfl rfl rfl hb27 fun h => yl_load1 ty4 rfl (h.g 23 rfl) ((Cells.ex eC29 h.ex) 0 _ rfl) kI, oI rfl fun h => yl_pick_t rfl (h.g 21 rfl) hb27 (h.g 24 rfl) kI, oI rfl fun h => yA rfl (h.g 17 rfl) kI, oI rfl fun h => yA rfl (h.g 25 rfl) kI, trivial⟩ ?_
  ·intro L61 w62 hi63
   have hE64 := hi63.ex
   have hE64z := Ex.size hE64
   exact OpR.want rfl rfl (hi63.g 21 rfl) hb27 (Yl.sameI (yl_ixN un107 ty4 rfl (hi63.g 22 rfl) rfl eA29 kI))
  ·intro fl93 fh94 L90 w91 hp92
   have hE95 := hp92.ex
   have hE95z := Ex.size hE95
   refine dn (CW.sub (hp92.ss [4, 5] rfl) (CW.ret (rr rfl (.cons rfl (.cons rfl .nil)) ?_)))
   rw [show (s_l26Do ps p_ops) = (((s_RunInTurn ps ([p_ops] : List (List DOp))).1, (((s_RunInTurn ps ([p_ops] : List (List DOp))).2.1).getD 0 d_Bool))) by simp only [s_l26Do, hb27, cL]]
   exact ⟨A18, c18, lo18, hi18, rfl, (OwnL.ex gW h18 hE95), ho20, oM, (Ex.trans (Ex.trans (Ex.trans (Ex.refl w) hE12) hE23) hE95)⟩
 ·refine drJ 11 [.slice A18 (((s_RunInTurn ps ([p_ops] : List (List DOp))).1).length) c18, .slice A19 (((s_RunInTurn ps ([p_ops] : List (List DOp))).2.1).length) c19, .int .i64 ((((s_RunInTurn ps ([p_ops] : List (List DOp))).2.1).length : Int)), .bool (decide ((((s_RunInTurn ps ([p_ops] : List (List DOp))).2.1).length : Int) = 1)), .bool (decide ((((s_RunInTurn ps ([p_ops] : List (List DOp))).2.1).length : Int) = 1)), undef, undef, undef, .bool (false), .slice A18 (((s_RunInTurn ps ([p_ops] : List (List DOp))).1).length) c18, .bool (false)] Tryz.follows rfl ⟨oI rfl fun h => yM rfl (h.g 6 rfl) kI, oI rfl fun h => yM rfl (h.g 7 rfl) kI, oI rfl fun h => yL un107 rfl (h.g 18 rfl) kI, oI rfl fun h => yl_eql rfl (h.g 19 rfl) rfl kI, oI rfl fun h => yM rfl (h.g 20 rfl) kI, oS rfl rfl rfl rfl rfl hb27, oS rfl rfl rfl rfl rfl hb27, oS rfl rfl rfl rfl rfl hb27, oI rfl fun h => yl_pick_f rfl (h.g 21 rfl) hb27 rfl kI, oI rfl fun h => yA rfl (h.g 17 rfl) kI, oI rfl fun h => yA rfl (h.g 25 rfl) kI, trivial⟩ ?_
  ·intro fl162 fh163 L159 w160 hp161
   have hE164 := hp161.ex
   have hE164z := Ex.size hE164
   refine dn (CW.sub (hp161.ss [4, 5] rfl) (CW.ret (rr rfl (.cons rfl (.cons rfl .nil)) ?_)))
   rw [show (s_l26Do ps p_ops) = (((s_RunInTurn ps ([p_ops] : List (List DOp))).1, false)) by simp only [s_l26Do, hb27, cL]]
   exact ⟨A18, c18, lo18, hi18, rfl, (OwnL.ex gW h18 hE164), ho20, oM, (Ex.trans (Ex.trans (Ex.trans (Ex.refl w) hE12) hE23) hE164)⟩
theorem c_s_l24Join {A1 : Option Addr} {c1 : Nat} {w : World} (p_l : List Str) (p_by : Str) (h1 : RdS w (Iv 0 w.heap.size) (RF e_Str) 1 A1 p_l.length c1 p_l) (o2 : (okL okS) p_l) (o3 : okS p_by) : Cal Tryz.prog 112 #[.slice A1 p_l.length c1, .string (bs (p_by))] w fun v w' => v = .string (bs ((s_l24Join p_l p_by))) ∧ Ex w w' := by
 have hol4 := o2.1
 have hol5 : p_by.length ≤ 1073741824 := o3
 refine Cal.of func112 rfl ntmps112 rfl (cR (sA rfl (dn (cR (sA rfl ?_)))))
 refine dn (CW.seq (cR (sM rfl (sd rfl (yL un22 rfl rfl (sM rfl (SeqR.done ?_)))))))
 refine tn (CW.block (CW.loop (fun m15 L16 w17 => ∃ (k6 : Nat) (x14 : Str), m15 = p_l.length - k6 ∧ k6 ≤ p_l.length ∧ w.heap.size ≤ w17.heap.size ∧ Sub [(1, .string (bs (p_by))), (5, .string (bs (x14))), (8, .slice A1 p_l.length c1), (9, .int .i64 ((p_l.length : Int))), (10, .int .i64 ((k6 : Int)))] L16 ∧ RdS w17 (Iv 0 w.heap.size) (RF e_Str) 1 A1 p_l.length c1 p_l ∧ Ex w w17 ∧ x14.length ≤ 0 + 2147483648 * (k6 - 0) ∧ loopM (B_s_l24Join_0 p_l p_by) (p_l.length - k6) k6 (x14) = loopM (B_s_l24Join_0 p_l p_by) (p_l.length - 0) 0 (([] : Str))) (p_l.length - 0) ?_ ?_))
 ·exact ⟨0, ([] : Str), rfl, oM, Nat.le_refl _, (sR rfl), h1, (Ex.refl w), (by first | (simp; done) | (first | omega | (simp only [lN, toS_length]; omega))), rfl⟩
 ·rintro m18 L19 w20 ⟨k6, x14, rfl, hk21, hsz23, hl24, hf25, hf26, hln27, hI22⟩
  refine CW.sub hl24 ?_
  have hf26z := Ex.size hf26
  have hbg28 := RdS.big hf25
  rcases Nat.lt_or_ge k6 p_l.length with hlt29 | hlt29
  ·refine cR (sd rfl (yl_lss rfl rfl rfl (dn (CW.seq (CW.cond_t rfl (lt_t hlt29) (CW.skip (tn ?_)))))))
   refine CW.seq (CW.block (cR (sM rfl ?_)))
   obtain ⟨_, _, _, eA30, _, ebl30, _, eR30, eC30⟩ := RdS.aD hf25 d_Str (i := k6)
   obtain rfl := eR30
   refine sd rfl (yl_ixN un22 ty9 rfl rfl rfl eA30 (sd rfl (yl_load1 ty9 rfl rfl (eC30 0 _ rfl) (sA rfl (sA rfl (dn (CW.seq (cR ?_))))))))
   refine sM rfl (sd rfl (yl_gtr rfl rfl rfl (dn (bcD (q := 0 < (k6 : Int)) (fun hb31 hb31p => ?_) (fun hb31 hb31p => ?_)))))
   ·refine CW.cond_t rfl hb31 (CW.region (sM rfl (sM rfl ?_)))
    have hol32 : p_by.length ≤ 1073741824 := o3
    refine sd rfl (yl_sadd (a := x14) (b := p_by) rfl rfl rfl Bl (sA rfl (dn (CW.region (sM rfl (sM rfl ?_))))))
    have hol33 : p_by.length ≤ 1073741824 := o3
    have hol34 : (p_l.getD k6 d_Str).length ≤ 1073741824 := (okL.getD o2 ok_d_Str _)
    refine sd rfl (yl_sadd (a := (x14 ++ p_by)) (b := (p_l.getD k6 d_Str)) rfl rfl rfl Bl (sA rfl (SeqR.done (bn (tn (CW.region (sd rfl (yl_inc rfl rfl rfl oM (sM rfl (SeqR.done ?_))))))))))
    refine tn ?_
    have hB35 : B_s_l24Join_0 p_l p_by k6 (x14) = .cont ((x14 ++ p_by) ++ (p_l.getD k6 d_Str)) := by simp only [B_s_l24Join_0, hb31, cL]
    exact ⟨p_l.length - (k6 + 1), oM, k6 + 1, (x14 ++ p_by) ++ (p_l.getD k6 d_Str), rfl, hlt29, oM, (sR rfl), hf25, hf26, Bl, (loopM.cont hlt29 hB35).symm.trans hI22⟩
   ·refine CW.cond_f rfl hb31 (CW.skip (tn (CW.region (sM rfl (sM rfl ?_)))))
    have hol36 : (p_l.getD k6 d_Str).length ≤ 1073741824 := (okL.getD o2 ok_d_Str _)
    refine sd rfl (yl_sadd (a := x14) (b := (p_l.getD k6 d_Str)) rfl rfl rfl Bl (sA rfl (SeqR.done (bn (tn (CW.region (sd rfl (yl_inc rfl rfl rfl oM (sM rfl (SeqR.done ?_))))))))))
    refine tn ?_
    have hB37 : B_s_l24Join_0 p_l p_by k6 (x14) = .cont (x14 ++ (p_l.getD k6 d_Str)) := by simp only [B_s_l24Join_0, hb31, cL]
    exact ⟨p_l.length - (k6 + 1), oM, k6 + 1, x14 ++ (p_l.getD k6 d_Str), rfl, hlt29, oM, (sR rfl), hf25, hf26, Bl, (loopM.cont hlt29 hB37).symm.trans hI22⟩
  ·refine cR (sd rfl (yl_lss rfl rfl rfl (dn (CW.seq (CW.cond_f rfl (lt_f hlt29) (CW.exit (tx ?_)))))))
   refine tx ?_
   have hL38 : loopM (B_s_l24Join_0 p_l p_by) (p_l.length - 0) 0 (([] : Str)) = .done (x14) := hI22.symm.trans (loopM.stop hlt29)
   refine bx (tn (cR (sM rfl (sA rfl (dn (CW.ret ?_))))))
   refine rr rfl (.cons rfl .nil) ?_
   rw [show (s_l24Join p_l p_by) = (x14) by simp only [s_l24Join, hL38, cL]]
   exact ⟨rfl, hf26⟩
theorem c_s_l25Write {A1 : Option Addr} {c1 : Nat} {A2 : Option Addr} {c2 : Nat} {A4 : Option Addr} {c4 : Nat} {w : World} (p_t : DTable) (p_r : DRow) (h1 : RdS w (Iv 0 w.heap.size) (RF e_Str) 1 A1 p_t.Cols.length c1 p_t.Cols) (h2 : RdS w (Iv 0 w.heap.size) (RF e_Idx) 3 A2 p_t.Idxs.length c2 p_t.Idxs) (h4 : RdS w (Iv 0 w.heap.size) (RF e_Str) 1 A4 p_r.Vals.length c4 p_r.Vals) (o3 : ok_Table p_t) (o5 : ok_Row p_r) (pre0 : 0 < p_r.Vals.length) : Cal Tryz.prog 102 #[.agg #[.string (bs (p_t.Name)), .slice A1 p_t.Cols.length c1, .slice A2 p_t.Idxs.length c2], .agg #[.slice A4 p_r.Vals.length c4]] w fun v w' => v = .agg #[.string (bs ((s_l25Write p_t p_r).Key)), .string (bs ((s_l25Write p_t p_r).Val)), .bool ((s_l25Write p_t p_r).Gone)] ∧ Ex w w' := by
 have hol6 : p_t.Name.length ≤ 1073741824 := o3.1
 have hol7 := o3.2.1.1
 have hol8 := o3.2.2.1
 have hol9 := o5.1
 refine Cal.of func102 rfl ntmps102 rfl (cR (sd rfl (yl_box rfl rfl rfl ?_)))
 intro b10 w11 hs12 hz13 hB14 hE15
 refine sd rfl (yl_box rfl rfl rfl ?_)
 intro b16 w17 hs18 hz19 hB20 hE21
 refine sd rfl (yB ty80 (cs := [.string (bs (([] : Str))), .string (bs (([] : Str))), .bool (false)]) rfl rfl ?_)
 intro b22 w23 hs24 hz25 hB26 hE27
 refine dn (CW.seq ?_)
 have hol30 : p_t.Name.length ≤ 1073741824 := o3.1
 have q31 := Box.ex hB20 hE27
 have q34 := RdS.ex gS (RdS.ex gS (RdS.ex gS h4 hE15) hE21) hE27
 obtain ⟨eb35, eo35, _, eA35, _, ebl35, _, eR35, eC35⟩ := RdS.aD q34 d_Str (i := 0)
 obtain rfl := eR35
 have hol36 : p_t.Name.length ≤ 1073741824 := o3.1
 have hol37 : (p_r.Vals.getD 0 d_Str).length ≤ 1073741824 := (okL.getD o5 ok_d_Str _)
 obtain ⟨A38, c39, he42, h41⟩ := RdS.sl (RdS.drop q34 (k := 1) oM)
 have hrc43 := (q34).2.1
 refine CW.drawsI 12 (vgetI [DetI (.pointer (some ⟨b10, 0 + 0, none⟩)), DetI (.string (bs (p_t.Name))), DetI (.string (bs (p_t.Name ++ ([47] : Str)))), DetI (.pointer (some ⟨b16, 0 + 0, none⟩)), DetI (.slice A4 p_r.Vals.length c4), DetI (.pointer (some ⟨eb35, eo35 + 0 * 1, none⟩)), DetI (.string (bs ((p_r.Vals.getD 0 d_Str)))), DetI (.string (bs ((p_t.Name ++ ([47] : Str)) ++ (p_r.Vals.getD 0 d_Str)))), DetI (.pointer (some ⟨b16, 0 + 0, none⟩)), DetI (.slice A4 p_r.Vals.length c4), fun lo hi v wq => ∃ A38 c39, v = .slice A38 ((p_r.Vals.drop 1).length) c39 ∧ RdS wq (Iv 0 w.heap.size) (RF e_Str) 1 A38 (p_r.Vals.drop 1).length c39 (p_r.Vals.drop 1), DetI (.string (bs ((s_l24Join (p_r.Vals.drop 1) ([44] : Str)))))]) Tryz.follows rfl rfl rfl rfl rfl rfl (vgetI_stable ⟨StableI.det _, StableI.det _, StableI.det _, StableI.det _, StableI.det _, StableI.det _, StableI.det _, StableI.det _, StableI.det _, StableI.det _, (fun _ _ _ _ _ ⟨A38, c39, hv, h44⟩ e => ⟨A38, c39, hv, RdS.ex gS h44 e⟩), StableI.det _, trivial⟩) ⟨?_, ?_, ?_, ?_, ?_, ?_, ?_, ?_, ?_, ?_, ?_, ?_, trivial⟩ ?_
 ·exact oI rfl fun h => yl_fieldAddr fd39_0 rfl (h.old 2 _ rfl rfl) kI
 ·exact oI rfl fun h => yl_load1 ty9 rfl (h.dt 0 5 rfl rfl rfl) (((Box.ex (Box.ex (Box.ex hB14 hE21) hE27) h.ex).cell 0).trans rfl) kI
 ·intro L57 w58 hi59
  have hE60 := hi59.ex
  have hE60z := Ex.size hE60
  have hol62 : p_t.Name.length ≤ 1073741824 := o3.1
  exact os rfl ((yl_sadd (a := p_t.Name) (b := ([47] : Str)) rfl (hi59.dt 1 6 rfl rfl rfl) rfl Bl kI))
 ·exact oI rfl fun h => yl_fieldAddr fd42_0 rfl (h.old 3 _ rfl rfl) kI
 ·exact oI rfl fun h => yl_load1 ty22 rfl (h.dt 3 8 rfl rfl rfl) (((Box.ex q31 h.ex).cell 0).trans rfl) kI
 ·intro L74 w75 hi76
  have hE77 := hi76.ex
  have hE77z := Ex.size hE77
  exact os rfl ((yl_ixN un22 ty9 rfl (hi76.dt 4 9 rfl rfl rfl) rfl eA35 kI))
 ·exact oI rfl fun h => yl_load1 ty9 rfl (h.dt 5 10 rfl rfl rfl) ((Cells.ex eC35 h.ex) 0 _ rfl) kI
 ·intro L85 w86 hi87
  have hE88 := hi87.ex
  have hE88z := Ex.size hE88
  have hol91 : p_t.Name.length ≤ 1073741824 := o3.1
  have hol92 : (p_r.Vals.getD 0 d_Str).length ≤ 1073741824 := (okL.getD o5 ok_d_Str _)
  exact os rfl ((yl_sadd (a := (p_t.Name ++ ([47] : Str))) (b := (p_r.Vals.getD 0 d_Str)) rfl (hi87.dt 2 7 rfl rfl rfl) (hi87.dt 6 11 rfl rfl rfl) Bl kI))
 ·exact oI rfl fun h => yl_fieldAddr fd42_0 rfl (h.old 3 _ rfl rfl) kI
 ·exact oI rfl fun h => yl_load1 ty22 rfl (h.dt 8 13 rfl rfl rfl) (((Box.ex q31 h.ex).cell 0).trans rfl) kI
 ·intro L104 w105 hi106
  have hE107 := hi106.ex
  have hE107z := Ex.size hE107
  have q109 := RdS.ex gS q34 hE107
  obtain ⟨A110, c111, he114, h113⟩ := RdS.sl (RdS.drop q109 (k := 1) oM)
  have hrc115 := (q109).2.1
  exact os rfl ((yl_sliceR (kh := .i64) (l := 1) (h := p_r.Vals.length) un22 ty9 rfl (hi106.dt 9 14 rfl rfl rfl) (.inr ⟨_, rfl, rfl⟩) (.inl ⟨rfl, rfl⟩) oM oM he114 ⟨fun _ _ => ⟨A110, c111, rfl, h113⟩, rfl⟩))
 ·intro L116 w117 hi118
  obtain ⟨lo121, hh122, _, hx120, hr123, hr124, hr125, A38_126, c39_127, rfl, h128⟩ := hi118.dep 10 15 rfl rfl
  exact OpR.op' rfl (yC en112 rfl (oc hx120 (oc rfl oz)) (Cal.mono (c_s_l24Join (p_r.Vals.drop 1) ([44] : Str) (RdS.up h128 gS) (okL.drop o5 _) (okS.lit rfl)) fun _ _ h => h))
 ·intro fl135 fh136 L132 w133 hp134
  have hE137 := hp134.ex
  have hE137z := Ex.size hE137
  have hx138 := hp134.old 4 _ rfl rfl
  refine sd rfl (yl_build (cs := [.string (bs ((p_t.Name ++ ([47] : Str)) ++ (p_r.Vals.getD 0 d_Str))), .string (bs ((s_l24Join (p_r.Vals.drop 1) ([44] : Str)))), .bool (false)]) rfl (oc (hp134.nt 7 12 rfl rfl rfl) (oc (hp134.nt 11 16 rfl rfl rfl) oz)) (by kernel_rfl) (SeqR.u rfl rfl (yl_storeA (vs := [.string (bs ((p_t.Name ++ ([47] : Str)) ++ (p_r.Vals.getD 0 d_Str))), .string (bs ((s_l24Join (p_r.Vals.drop 1) ([44] : Str)))), .bool (false)]) ty80 rfl hx138 rfl rfl rfl rfl (Box.ex hB26 hE137) rfl ?_)))
  intro w142 hB143 hO144
  have hO144z := hO144.size
  refine dn (CW.sub (sC 4 hx138 (Sub.nil _)) (CW.ret (rr rfl (.cons ⟨_, rfl, run_loadN ty80 (cs := [.string (bs ((p_t.Name ++ ([47] : Str)) ++ (p_r.Vals.getD 0 d_Str))), .string (bs ((s_l24Join (p_r.Vals.drop 1) ([44] : Str)))), .bool (false)]) rfl (hB143.cells (n := 3) rfl)⟩ .nil) ?_)))
  rw [show (s_l25Write p_t p_r) = ((⟨(p_t.Name ++ ([47] : Str)) ++ (p_r.Vals.getD 0 d_Str), (s_l24Join (p_r.Vals.drop 1) ([44] : Str)), false⟩ : DWrite)) by simp only [s_l25Write, cL]]
  exact ⟨rfl, (Below.only (Ex.trans (Ex.trans (Ex.trans (Ex.trans (Ex.refl w) hE15) hE21) hE27) hE137) hO144 oM)⟩
theorem c_s_l26Head {A1 : Option Addr} {c1 : Nat} {A2 : Option Addr} {c2 : Nat} {A4 : Option Addr} {c4 : Nat} {A5 : Option Addr} {c5 : Nat} {w : World} (p_t : DTable) (p_a : DRowAct) (h1 : RdS w (Iv 0 w.heap.size) (RF e_Str) 1 A1 p_t.Cols.length c1 p_t.Cols) (h2 : RdS w (Iv 0 w.heap.size) (RF e_Idx) 3 A2 p_t.Idxs.length c2 p_t.Idxs) (h4 : RdS w (Iv 0 w.heap.size) (RF e_Str) 1 A4 p_a.Old.Vals.length c4 p_a.Old.Vals) (h5 : RdS w (Iv 0 w.heap.size) (RF e_Str) 1 A5 p_a.New.Vals.length c5 p_a.New.Vals) (o3 : ok_Table p_t) (o6 : ok_RowAct p_a) (pre0 : s_GoodTable p_t = true) (pre1 : actOf p_t p_a) : Cal Tryz.prog 74 #[.agg #[.string (bs (p_t.Name)), .slice A1 p_t.Cols.length c1, .slice A2 p_t.Idxs.length c2], .agg #[.int .i64 (p_a.Kind), .slice A4 p_a.Old.Vals.length c4, .slice A5 p_a.New.Vals.length c5]] w fun v w' => ∃ A_1 c_1 lo_1 hi_1, v = .slice A_1 ((s_l26Head p_t p_a).length) c_1 ∧ OwnL w' lo_1 hi_1 122 4 (RF e_Op) A_1 ((s_l26Head p_t p_a).length) c_1 (s_l26Head p_t p_a) ∧ (okL ok_Op) (s_l26Head p_t p_a) ∧ (w.heap.size ≤ lo_1 ∧ lo_1 ≤ hi_1 ∧ hi_1 ≤ w'.heap.size) ∧ Ex w w' := by
 have hol7 : p_t.Name.length ≤ 1073741824 := o3.1
 have hol8 := o3.2.1.1
 have hol9 := o3.2.2.1
 have hol10 := o6.1.1
 have hol11 := o6.2.1
 have hof := actOf_len pre0 pre1
 refine Cal.of func74 rfl ntmps74 rfl (cR (sd rfl (yl_box rfl rfl rfl ?_)))
 intro b12 w13 hs14 hz15 hB16 hE17
 refine sd rfl (yl_box rfl rfl rfl ?_)
 intro b18 w19 hs20 hz21 hB22 hE23
 refine sA rfl (dn (CW.seq (cR (sd rfl (yl_fieldAddr fd44_0 rfl rfl (sd rfl (yl_load1 ty3 rfl rfl ((hB22.cell 0).trans rfl) (sd rfl (yl_eql rfl rfl rfl ?_)))))))))
 refine dn (bcD (q := p_a.Kind = 1) (fun hb24 hb24p => ?_) (fun hb24 hb24p => ?_))
 ·refine CW.cond_t rfl hb24 (cR (sd rfl (yl_loadN ty39 rfl rfl ((Box.ex hB16 hE23).cells (n := 3) rfl) rfl (sd rfl (yl_fieldAddr fd44_2 rfl rfl (sd rfl (yl_loadN ty42 rfl rfl (hB22.cells (n := 1) rfl) rfl (sd rfl (yC en102 rfl (oc rfl (oc rfl oz)) (Cal.mono (c_s_l25Write p_t p_a.New (RdS.up (RdS.ex gS (RdS.ex gS h1 hE17) hE23) gS) (RdS.up (RdS.ex gI (RdS.ex gI h2 hE17) hE23) gI) (RdS.up (RdS.ex gS (RdS.ex gS h5 hE17) hE23) gS) o3 o6.2 Bo) ?_))))))))))
  rintro v33 w32 ⟨rfl, hE34⟩
  have hE34z := Ex.size hE34
  refine sd rfl (yB ty80 (cs := [.string (bs (([] : Str))), .string (bs (([] : Str))), .bool (false)]) rfl rfl ?_)
  intro b35 w36 hs37 hz38 hB39 hE40
  refine SeqR.u rfl rfl (yl_storeA (vs := [.string (bs ((s_l25Write p_t p_a.New).Key)), .string (bs ((s_l25Write p_t p_a.New).Val)), .bool ((s_l25Write p_t p_a.New).Gone)]) ty80 rfl rfl rfl rfl rfl rfl hB39 rfl ?_)
  intro w41 hB42 hO43
  have hO43z := hO43.size
  refine dn (cR (sd rfl (yl_fieldAddr fd80_0 rfl rfl (sd rfl (yl_load1 ty9 rfl rfl ((hB42.cell 0).trans rfl) (sd rfl (yl_build (cs := [.int .i64 (6), .string (bs ((s_l25Write p_t p_a.New).Key)), .string (bs (([] : Str))), .int .i64 (0)]) rfl (oc rfl (oc rfl oz)) (by kernel_rfl) (sd rfl (yl_fieldAddr fd80_0 rfl rfl (sd rfl (yl_load1 ty9 rfl rfl ((hB42.cell 0).trans rfl) ?_)))))))))))
  refine sd rfl (yl_fieldAddr fd80_1 rfl rfl (sd rfl (yl_load1 ty9 rfl rfl ((hB42.cell 1).trans rfl) (sd rfl (yl_build (cs := [.int .i64 (2), .string (bs ((s_l25Write p_t p_a.New).Key)), .string (bs ((s_l25Write p_t p_a.New).Val)), .int .i64 (0)]) rfl (oc rfl (oc rfl (oc rfl oz))) (by kernel_rfl) (sd rfl (yl_buildSlice (cs := [.int .i64 (6), .string (bs ((s_l25Write p_t p_a.New).Key)), .string (bs (([] : Str))), .int .i64 (0), .int .i64 (2), .string (bs ((s_l25Write p_t p_a.New).Key)), .string (bs ((s_l25Write p_t p_a.New).Val)), .int .i64 (0)]) un77 ty122 (by decide) rfl (oc rfl (oc rfl oz)) (by kernel_rfl) ?_)))))))
  intro b44 w45 hs46 hz47 hB48 hE49
  have hO50 : OwnL w45 b44 (b44 + 1) 122 4 (RF e_Op) (some ⟨b44, 0, none⟩) 2 2 ([(⟨6, (s_l25Write p_t p_a.New).Key, ([] : Str), 0⟩ : DOp), (⟨2, (s_l25Write p_t p_a.New).Key, (s_l25Write p_t p_a.New).Val, 0⟩ : DOp)] : List DOp) := OwnL.of_box (S := fun _ => False) hB48 (Nat.le_refl _) (Nat.lt_succ_self _) (EncL.cons (c := [.int .i64 (6), .string (bs ((s_l25Write p_t p_a.New).Key)), .string (bs (([] : Str))), .int .i64 (0)]) rfl rfl (EncL.cons (c := [.int .i64 (2), .string (bs ((s_l25Write p_t p_a.New).Key)), .string (bs ((s_l25Write p_t p_a.New).Val)), .int .i64 (0)]) rfl rfl EncL.nil)) (nb rfl) (fun h => h) (fun _ h => False.elim h)
  refine sA rfl (dn (CW.ret (tr (rr rfl (.cons rfl .nil) ?_))))
  have hfx52 := (hO50).1
  rw [show (s_l26Head p_t p_a) = (([(⟨6, (s_l25Write p_t p_a.New).Key, ([] : Str), 0⟩ : DOp), (⟨2, (s_l25Write p_t p_a.New).Key, (s_l25Write p_t p_a.New).Val, 0⟩ : DOp)] : List DOp)) by simp only [s_l26Head, hb24, cL]]
  exact ⟨(some ⟨b44, 0, none⟩), 2, b44, (b44 + 1), (by first | rfl | (simp only [List.length_replicate, List.length_set]; done) | (simp only [List.length_replicate, List.length_set]; rfl) | (rw [hfx52] <;> rfl)), (OwnL.fix hO50), (okL.mk (nb rfl) (okE.cons ⟨(ok_l25Write (t := p_t) oM oM (pre1.1 oM).2).1, (okS.lit rfl)⟩ (okE.cons ⟨(ok_l25Write (t := p_t) oM oM (pre1.1 oM).2).1, (ok_l25Write (t := p_t) oM oM (pre1.1 oM).2).2⟩ okE.nil))), oM, (Ex.trans (Below.only (Ex.trans (Ex.trans (Ex.trans (Ex.trans (Ex.refl w) hE17) hE23) hE34) hE40) hO43 oM) hE49)⟩
 ·refine CW.cond_f rfl hb24 (CW.skip (tn (cR ?_)))
  have q59 := Box.ex hB16 hE23
  refine sd rfl (yl_loadN ty39 rfl rfl (q59.cells (n := 3) rfl) rfl (sd rfl (yl_fieldAddr fd44_1 rfl rfl (sd rfl (yl_loadN ty42 rfl rfl (hB22.cells (n := 1) rfl) rfl ?_)))))
  have q61 := RdS.ex gS (RdS.ex gS h1 hE17) hE23
  have q63 := RdS.ex gI (RdS.ex gI h2 hE17) hE23
  refine sd rfl (yC en102 rfl (oc rfl (oc rfl oz)) (Cal.mono (c_s_l25Write p_t p_a.Old (RdS.up q61 gS) (RdS.up q63 gI) (RdS.up (RdS.ex gS (RdS.ex gS h4 hE17) hE23) gS) o3 o6.1 Bo) ?_))
  rintro v67 w66 ⟨rfl, hE68⟩
  have hE68z := Ex.size hE68
  refine sd rfl (yB ty80 (cs := [.string (bs (([] : Str))), .string (bs (([] : Str))), .bool (false)]) rfl rfl ?_)
  intro b69 w70 hs71 hz72 hB73 hE74
  refine SeqR.u rfl rfl (yl_storeA (vs := [.string (bs ((s_l25Write p_t p_a.Old).Key)), .string (bs ((s_l25Write p_t p_a.Old).Val)), .bool ((s_l25Write p_t p_a.Old).Gone)]) ty80 rfl rfl rfl rfl rfl rfl hB73 rfl ?_)
  intro w75 hB76 hO77
  have hO77z := hO77.size
  refine dn (cR (sd rfl (yl_fieldAddr fd80_0 rfl rfl (sd rfl (yl_load1 ty9 rfl rfl ((hB76.cell 0).trans rfl) (sd rfl (yl_fieldAddr fd80_1 rfl rfl (sd rfl (yl_load1 ty9 rfl rfl ((hB76.cell 1).trans rfl) (sd rfl (yl_build (cs := [.int .i64 (7), .string (bs ((s_l25Write p_t p_a.Old).Key)), .string (bs ((s_l25Write p_t p_a.Old).Val)), .int .i64 (0)]) rfl (oc rfl (oc rfl (oc rfl oz))) (by kernel_rfl) ?_)))))))))))
  refine sd rfl (yB ty122 (cs := [.int .i64 (0), .string (bs (([] : Str))), .string (bs (([] : Str))), .int .i64 (0)]) rfl rfl ?_)
  intro b78 w79 hs80 hz81 hB82 hE83
  refine SeqR.u rfl rfl (yl_storeA (vs := [.int .i64 (7), .string (bs ((s_l25Write p_t p_a.Old).Key)), .string (bs ((s_l25Write p_t p_a.Old).Val)), .int .i64 (0)]) ty122 rfl rfl rfl rfl rfl rfl hB82 rfl ?_)
  intro w84 hB85 hO86
  have hO86z := hO86.size
  have y0 := Below.only (Ex.trans (Below.only (Ex.trans (Ex.trans (Ex.trans (Ex.trans (Ex.refl w) hE17) hE23) hE68) hE74) hO77 oM) hE83) hO86 oM
  refine dn (CW.seq (cR (sd rfl (yl_fieldAddr fd44_0 rfl rfl ?_))))
  have q91 := Box.only (Box.ex (Box.only (Box.ex (Box.ex hB22 hE68) hE74) hO77 oM) hE83) hO86 oM
  refine sd rfl (yl_load1 ty3 rfl rfl ((q91.cell 0).trans rfl) (sd rfl (yl_eql rfl rfl rfl (dn (bcD (q := p_a.Kind = 2) (fun hb92 hb92p => ?_) (fun hb92 hb92p => ?_))))))
  ·refine CW.cond_t rfl hb92 (cR (sd rfl (yl_loadN ty122 rfl rfl (hB85.cells (n := 4) rfl) rfl (sd rfl (yl_fieldAddr fd80_0 rfl rfl (sd rfl (yl_load1 ty9 rfl rfl (((Box.only (Box.ex hB76 hE83) hO86 oM).cell 0).trans rfl) (sd rfl (yl_build (cs := [.int .i64 (3), .string (bs ((s_l25Write p_t p_a.Old).Key)), .string (bs (([] : Str))), .int .i64 (0)]) rfl (oc rfl (oc rfl oz)) (by kernel_rfl) (sd rfl (yl_buildSlice (cs := [.int .i64 (7), .string (bs ((s_l25Write p_t p_a.Old).Key)), .string (bs ((s_l25Write p_t p_a.Old).Val)), .int .i64 (0), .int .i64 (3), .string (bs ((s_l25Write p_t p_a.Old).Key)), .string (bs (([] : Str))), .int .i64 (0)]) un77 ty122 (by decide) rfl (oc rfl (oc rfl oz)) (by kernel_rfl) ?_)))))))))))
   intro b95 w96 hs97 hz98 hB99 hE100
   have hO101 : OwnL w96 b95 (b95 + 1) 122 4 (RF e_Op) (some ⟨b95, 0, none⟩) 2 2 ([(⟨7, (s_l25Write p_t p_a.Old).Key, (s_l25Write p_t p_a.Old).Val, 0⟩ : DOp), (⟨3, (s_l25Write p_t p_a.Old).Key, ([] : Str), 0⟩ : DOp)] : List DOp) := OwnL.of_box (S := fun _ => False) hB99 (Nat.le_refl _) (Nat.lt_succ_self _) (EncL.cons (c := [.int .i64 (7), .string (bs ((s_l25Write p_t p_a.Old).Key)), .string (bs ((s_l25Write p_t p_a.Old).Val)), .int .i64 (0)]) rfl rfl (EncL.cons (c := [.int .i64 (3), .string (bs ((s_l25Write p_t p_a.Old).Key)), .string (bs (([] : Str))), .int .i64 (0)]) rfl rfl EncL.nil)) (nb rfl) (fun h => h) (fun _ h => False.elim h)
   refine sA rfl (dn (CW.ret (tr (rr rfl (.cons rfl .nil) ?_))))
   have hfx103 := (hO101).1
   rw [show (s_l26Head p_t p_a) = (([(⟨7, (s_l25Write p_t p_a.Old).Key, (s_l25Write p_t p_a.Old).Val, 0⟩ : DOp), (⟨3, (s_l25Write p_t p_a.Old).Key, ([] : Str), 0⟩ : DOp)] : List DOp)) by simp only [s_l26Head, hb24, hb92, cL]]
   exact ⟨(some ⟨b95, 0, none⟩), 2, b95, (b95 + 1), (by first | rfl | (simp only [List.length_replicate, List.length_set]; done) | (simp only [List.length_replicate, List.length_set]; rfl) | (rw [hfx103] <;> rfl)), (OwnL.fix hO101), (okL.mk (nb rfl) (okE.cons ⟨(ok_l25Write (t := p_t) oM oM (pre1.2 oM).2).1, (ok_l25Write (t := p_t) oM oM (pre1.2 oM).2).2⟩ (okE.cons ⟨(ok_l25Write (t := p_t) oM oM (pre1.2 oM).2).1, (okS.lit rfl)⟩ okE.nil))), oM, (Ex.trans y0 hE100)⟩
  ·refine CW.cond_f rfl hb92 (CW.skip (tn (CW.seq (drJ 9 [.agg #[.int .i64 (7), .string (bs ((s_l25Write p_t p_a.Old).Key)), .string (bs ((s_l25Write p_t p_a.Old).Val)), .int .i64 (0)], .pointer (some ⟨b69, 0 + 0, none⟩), .string (bs ((s_l25Write p_t p_a.Old).Key)), .agg #[.string (bs (p_t.Name)), .slice A1 p_t.Cols.length c1, .slice A2 p_t.Idxs.length c2], .pointer (some ⟨b18, 0 + 2, none⟩), .agg #[.slice A5 p_a.New.Vals.length c5], .agg #[.string (bs ((s_l25Write p_t p_a.New).Key)), .string (bs ((s_l25Write p_t p_a.New).Val)), .bool ((s_l25Write p_t p_a.New).Gone)], .string (bs ((s_l25Write p_t p_a.New).Val)), .agg #[.int .i64 (2), .string (bs ((s_l25Write p_t p_a.Old).Key)), .string (bs ((s_l25Write p_t p_a.New).Val)), .int .i64 (0)]] Tryz.follows rfl ⟨?_, ?_, ?_, ?_, ?_, ?_, ?_, ?_, ?_, trivial⟩ ?_))))
   ·exact oI rfl fun h => yl_loadN ty122 rfl (h.g 7 rfl) ((Box.ex hB85 h.ex).cells (n := 4) rfl) rfl kI
   ·exact oI rfl fun h => yl_fieldAddr fd80_0 rfl (h.g 6 rfl) kI
   ·intro L148 w149 hi150
    have hE151 := hi150.ex
    have hE151z := Ex.size hE151
    exact os rfl ((yl_load1 ty9 rfl (hi150.g 42 rfl) (((Box.ex (Box.only (Box.ex hB76 hE83) hO86 oM) hE151).cell 0).trans rfl) kI))
   ·intro L154 w155 hi156
    have hE157 := hi156.ex
    have hE157z := Ex.size hE157
    exact os rfl ((yl_loadN ty39 rfl (hi156.g 2 rfl) ((Box.ex (Box.only (Box.ex (Box.only (Box.ex (Box.ex q59 hE68) hE74) hO77 oM) hE83) hO86 oM) hE157).cells (n := 3) rfl) rfl kI))
   ·exact oI rfl fun h => yl_fieldAddr fd44_2 rfl (h.g 3 rfl) kI
   ·exact oI rfl fun h => yl_loadN ty42 rfl (h.g 45 rfl) ((Box.ex q91 h.ex).cells (n := 1) rfl) rfl kI
   ·intro L171 w172 hi173
    have hE174 := hi173.ex
    have hE174z := Ex.size hE174
    exact OpR.op' rfl (yC en102 rfl (oc (hi173.g 44 rfl) (oc (hi173.g 46 rfl) oz)) (Cal.mono (c_s_l25Write p_t p_a.New (RdS.up (RdS.ex gS (RdS.only gS (RdS.ex gS (RdS.only gS (RdS.ex gS (RdS.ex gS q61 hE68) hE74) hO77 iV) hE83) hO86 iV) hE174) gS) (RdS.up (RdS.ex gI (RdS.only gI (RdS.ex gI (RdS.only gI (RdS.ex gI (RdS.ex gI q63 hE68) hE74) hO77 iV) hE83) hO86 iV) hE174) gI) (RdS.up (RdS.ex gS (RdS.only gS (RdS.ex gS (RdS.only gS (RdS.ex gS (RdS.ex gS (RdS.ex gS (RdS.ex gS h5 hE17) hE23) hE68) hE74) hO77 iV) hE83) hO86 iV) hE174) gS) o3 o6.2 Bo) fun _ _ h => h))
   ·exact oI rfl fun h => yl_field1 fd80_1 rfl (h.g 47 rfl) rfl kI
   ·exact oI rfl fun h => yl_build (cs := [.int .i64 (2), .string (bs ((s_l25Write p_t p_a.Old).Key)), .string (bs ((s_l25Write p_t p_a.New).Val)), .int .i64 (0)]) rfl (oc rfl (oc (h.g 43 rfl) (oc (h.g 48 rfl) oz))) (by kernel_rfl) kI
   ·intro fl197 fh198 L194 w195 hp196
    have hE199 := hp196.ex
    have hE199z := Ex.size hE199
    refine sd rfl (yl_buildSlice (cs := [.int .i64 (7), .string (bs ((s_l25Write p_t p_a.Old).Key)), .string (bs ((s_l25Write p_t p_a.Old).Val)), .int .i64 (0), .int .i64 (2), .string (bs ((s_l25Write p_t p_a.Old).Key)), .string (bs ((s_l25Write p_t p_a.New).Val)), .int .i64 (0)]) un77 ty122 (by decide) rfl (oc (hp196.nt 0 41 rfl rfl rfl) (oc (hp196.nt 8 49 rfl rfl rfl) oz)) (by kernel_rfl) ?_)
    intro b202 w203 hs204 hz205 hB206 hE207
    have hO208 : OwnL w203 b202 (b202 + 1) 122 4 (RF e_Op) (some ⟨b202, 0, none⟩) 2 2 ([(⟨7, (s_l25Write p_t p_a.Old).Key, (s_l25Write p_t p_a.Old).Val, 0⟩ : DOp), (⟨2, (s_l25Write p_t p_a.Old).Key, (s_l25Write p_t p_a.New).Val, 0⟩ : DOp)] : List DOp) := OwnL.of_box (S := fun _ => False) hB206 (Nat.le_refl _) (Nat.lt_succ_self _) (EncL.cons (c := [.int .i64 (7), .string (bs ((s_l25Write p_t p_a.Old).Key)), .string (bs ((s_l25Write p_t p_a.Old).Val)), .int .i64 (0)]) rfl rfl (EncL.cons (c := [.int .i64 (2), .string (bs ((s_l25Write p_t p_a.Old).Key)), .string (bs ((s_l25Write p_t p_a.New).Val)), .int .i64 (0)]) rfl rfl EncL.nil)) (nb rfl) (fun h => h) (fun _ h => False.elim h)
    refine sA rfl (dn (CW.sub (sC 4 rfl (Sub.nil _)) (CW.ret (rr rfl (.cons rfl .nil) ?_))))
    have hfx210 := (hO208).1
    rw [show (s_l26Head p_t p_a) = (([(⟨7, (s_l25Write p_t p_a.Old).Key, (s_l25Write p_t p_a.Old).Val, 0⟩ : DOp), (⟨2, (s_l25Write p_t p_a.Old).Key, (s_l25Write p_t p_a.New).Val, 0⟩ : DOp)] : List DOp)) by simp only [s_l26Head, hb24, hb92, cL]]
    exact ⟨(some ⟨b202, 0, none⟩), 2, b202, (b202 + 1), (by first | rfl | (simp only [List.length_replicate, List.length_set]; done) | (simp only [List.length_replicate, List.length_set]; rfl) | (rw [hfx210] <;> rfl)), (OwnL.fix hO208), (okL.mk (nb rfl) (okE.cons ⟨(ok_l25Write (t := p_t) oM oM (pre1.2 oM).2).1, (ok_l25Write (t := p_t) oM oM (pre1.2 oM).2).2⟩ (okE.cons ⟨(ok_l25Write (t := p_t) oM oM (pre1.2 oM).2).1, (ok_l25Write (t := p_t) oM oM (pre1.1 oM).2).2⟩ okE.nil))), oM, (Ex.trans (Ex.trans y0 hE199) hE207)⟩
theorem c_s_l25Entry {A1 : Option Addr} {c1 : Nat} {A2 : Option Addr} {c2 : Nat} {A5 : Option Addr} {c5 : Nat} {w : World} (p_t : DTable) (p_x : DIdx) (p_r : DRow) (h1 : RdS w (Iv 0 w.heap.size) (RF e_Str) 1 A1 p_t.Cols.length c1 p_t.Cols) (h2 : RdS w (Iv 0 w.heap.size) (RF e_Idx) 3 A2 p_t.Idxs.length c2 p_t.Idxs) (h5 : RdS w (Iv 0 w.heap.size) (RF e_Str) 1 A5 p_r.Vals.length c5 p_r.Vals) (o3 : ok_Table p_t) (o4 : ok_Idx p_x) (o6 : ok_Row p_r) (pre0 : (0 ≤ p_x.Col ∧ p_x.Col < (p_r.Vals.length : Int))) (pre1 : (p_t.Name.length ≤ 1 ∧ p_x.Name.length ≤ 1)) (pre2 : rowShort p_r) : Cal Tryz.prog 125 #[.agg #[.string (bs (p_t.Name)), .slice A1 p_t.Cols.length c1, .slice A2 p_t.Idxs.length c2], .agg #[.string (bs (p_x.Name)), .int .i64 (p_x.Col), .int .i64 (p_x.Stage)], .agg #[.slice A5 p_r.Vals.length c5]] w fun v w' => v = .string (bs ((s_l25Entry p_t p_x p_r))) ∧ okS (s_l25Entry p_t p_x p_r) ∧ Ex w w' := by
 have hol7 : p_t.Name.length ≤ 1073741824 := o3.1
 have hol8 := o3.2.1.1
 have hol9 := o3.2.2.1
 have hol10 : p_x.Name.length ≤ 1073741824 := o4
 have hol11 := o6.1
 refine Cal.of func125 rfl ntmps125 rfl (cR (sd rfl (yl_box rfl rfl rfl ?_)))
 intro b12 w13 hs14 hz15 hB16 hE17
 refine sd rfl (yl_box rfl rfl rfl ?_)
 intro b18 w19 hs20 hz21 hB22 hE23
 refine sd rfl (yl_box rfl rfl rfl ?_)
 intro b24 w25 hs26 hz27 hB28 hE29
 refine sA rfl (dn (CW.seq ?_))
 have hol32 : p_t.Name.length ≤ 1073741824 := o3.1
 have q33 := Box.ex hB22 hE29
 have hol34 : p_t.Name.length ≤ 1073741824 := o3.1
 have hol35 : p_x.Name.length ≤ 1073741824 := o4
 have hol36 : p_t.Name.length ≤ 1073741824 := o3.1
 have hol37 : p_x.Name.length ≤ 1073741824 := o4
 have q40 := RdS.ex gS (RdS.ex gS (RdS.ex gS h5 hE17) hE23) hE29
 obtain ⟨eb41, eo41, _, eA41, _, ebl41, _, eR41, eC41⟩ := RdS.atD q40 d_Str (i := (p_x.Col).toNat) Bo
 obtain rfl := eR41
 have hol42 : p_t.Name.length ≤ 1073741824 := o3.1
 have hol43 : p_x.Name.length ≤ 1073741824 := o4
 have hol44 : (p_r.Vals.getD ((p_x.Col).toNat) d_Str).length ≤ 1073741824 := (okL.getD o6 ok_d_Str _)
 have hol45 : p_t.Name.length ≤ 1073741824 := o3.1
 have hol46 : p_x.Name.length ≤ 1073741824 := o4
 have hol47 : (p_r.Vals.getD ((p_x.Col).toNat) d_Str).length ≤ 1073741824 := (okL.getD o6 ok_d_Str _)
 obtain ⟨eb48, eo48, _, eA48, _, ebl48, _, eR48, eC48⟩ := RdS.aD q40 d_Str (i := 0)
 obtain rfl := eR48
 have hol49 : p_t.Name.length ≤ 1073741824 := o3.1
 have hol50 : p_x.Name.length ≤ 1073741824 := o4
 have hol51 : (p_r.Vals.getD ((p_x.Col).toNat) d_Str).length ≤ 1073741824 := (okL.getD o6 ok_d_Str _)
 have hol52 : (p_r.Vals.getD 0 d_Str).length ≤ 1073741824 := (okL.getD o6 ok_d_Str _)
 refine drJ 21 [.pointer (some ⟨b12, 0 + 0, none⟩), .string (bs (p_t.Name)), .string (bs (p_t.Name ++ ([46] : Str))), .pointer (some ⟨b18, 0 + 0, none⟩), .string (bs (p_x.Name)), .string (bs ((p_t.Name ++ ([46] : Str)) ++ p_x.Name)), .string (bs (((p_t.Name ++ ([46] : Str)) ++ p_x.Name) ++ ([47] : Str))), .pointer (some ⟨b24, 0 + 0, none⟩), .slice A5 p_r.Vals.length c5, .pointer (some ⟨b18, 0 + 1, none⟩), .int .i64 (p_x.Col), .pointer (some ⟨eb41, eo41 + ((p_x.Col).toNat) * 1, none⟩), .string (bs ((p_r.Vals.getD ((p_x.Col).toNat) d_Str))), .string (bs ((((p_t.Name ++ ([46] : Str)) ++ p_x.Name) ++ ([47] : Str)) ++ (p_r.Vals.getD ((p_x.Col).toNat) d_Str))), .string (bs (((((p_t.Name ++ ([46] : Str)) ++ p_x.Name) ++ ([47] : Str)) ++ (p_r.Vals.getD ((p_x.Col).toNat) d_Str)) ++ ([47] : Str))), .pointer (some ⟨b24, 0 + 0, none⟩), .slice A5 p_r.Vals.length c5, .pointer (some ⟨eb48, eo48 + 0 * 1, none⟩), .string (bs ((p_r.Vals.getD 0 d_Str))), .string (bs ((((((p_t.Name ++ ([46] : Str)) ++ p_x.Name) ++ ([47] : Str)) ++ (p_r.Vals.getD ((p_x.Col).toNat) d_Str)) ++ ([47] : Str)) ++ (p_r.Vals.getD 0 d_Str))), .string (bs ((((((p_t.Name ++ ([46] : Str)) ++ p_x.Name) ++ ([47] : Str)) ++ (p_r.Vals.getD ((p_x.Col).toNat) d_Str)) ++ ([47] : Str)) ++ (p_r.Vals.getD 0 d_Str)))] Tryz.follows rfl ?_ ?_
 ·refine ⟨oI rfl fun h => yl_fieldAddr fd39_0 rfl (h.g 3 rfl) kI, oI rfl fun h => yl_load1 ty9 rfl (h.g 7 rfl) (((Box.ex (Box.ex (Box.ex hB16 hE23) hE29) h.ex).cell 0).trans rfl) kI, ?_, oI rfl fun h => yl_fieldAddr fd111_0 rfl (h.g 4 rfl) kI, oI rfl fun h => yl_load1 ty9 rfl (h.g 10 rfl) (((Box.ex q33 h.ex).cell 0).trans rfl) kI, ?_, ?_, oI rfl fun h => yl_fieldAddr fd42_0 rfl (h.g 5 rfl) kI, oI rfl fun h => yl_load1 ty22 rfl (h.g 14 rfl) (((Box.ex hB28 h.ex).cell 0).trans rfl) kI, oI rfl fun h => yl_fieldAddr fd111_1 rfl (h.g 4 rfl) kI, oI rfl fun h => yl_load1 ty3 rfl (h.g 16 rfl) (((Box.ex q33 h.ex).cell 1).trans rfl) kI, ?_, oI rfl fun h => yl_load1 ty9 rfl (h.g 18 rfl) ((Cells.ex eC41 h.ex) 0 _ rfl) kI, ?_, ?_, oI rfl fun h => yl_fieldAddr fd42_0 rfl (h.g 5 rfl) kI, oI rfl fun h => yl_load1 ty22 rfl (h.g 22 rfl) (((Box.ex hB28 h.ex).cell 0).trans rfl) kI, ?_, oI rfl fun h => yl_load1 ty9 rfl (h.g 24 rfl) ((Cells.ex eC48 h.ex) 0 _ rfl) kI, ?_, oI rfl fun h => yA rfl (h.g 26 rfl) kI, trivial⟩
  ·intro L64 w65 hi66
   have hE67 := hi66.ex
   have hE67z := Ex.size hE67
   have hol69 : p_t.Name.length ≤ 1073741824 := o3.1
   exact os rfl ((yl_sadd (a := p_t.Name) (b := ([46] : Str)) rfl (hi66.g 8 rfl) rfl Bl kI))
  ·intro L81 w82 hi83
   have hE84 := hi83.ex
   have hE84z := Ex.size hE84
   have hol87 : p_t.Name.length ≤ 1073741824 := o3.1
   have hol88 : p_x.Name.length ≤ 1073741824 := o4
   exact os rfl ((yl_sadd (a := (p_t.Name ++ ([46] : Str))) (b := p_x.Name) rfl (hi83.g 9 rfl) (hi83.g 11 rfl) Bl kI))
  ·intro L89 w90 hi91
   have hE92 := hi91.ex
   have hE92z := Ex.size hE92
   have hol94 : p_t.Name.length ≤ 1073741824 := o3.1
   have hol95 : p_x.Name.length ≤ 1073741824 := o4
   exact os rfl ((yl_sadd (a := ((p_t.Name ++ ([46] : Str)) ++ p_x.Name)) (b := ([47] : Str)) rfl (hi91.g 12 rfl) rfl Bl kI))
  ·intro L118 w119 hi120
   have hE121 := hi120.ex
   have hE121z := Ex.size hE121
   exact os rfl ((yl_indexAddr un22 ty9 rfl (hi120.g 15 rfl) (hi120.g 17 rfl) eA41 Bo Bo kI))
  ·intro L130 w131 hi132
   have hE133 := hi132.ex
   have hE133z := Ex.size hE133
   have hol136 : p_t.Name.length ≤ 1073741824 := o3.1
   have hol137 : p_x.Name.length ≤ 1073741824 := o4
   have hol138 : (p_r.Vals.getD ((p_x.Col).toNat) d_Str).length ≤ 1073741824 := (okL.getD o6 ok_d_Str _)
   exact os rfl ((yl_sadd (a := (((p_t.Name ++ ([46] : Str)) ++ p_x.Name) ++ ([47] : Str))) (b := (p_r.Vals.getD ((p_x.Col).toNat) d_Str)) rfl (hi132.g 13 rfl) (hi132.g 19 rfl) Bl kI))
  ·intro L139 w140 hi141
   have hE142 := hi141.ex
   have hE142z := Ex.size hE142
   have hol144 : p_t.Name.length ≤ 1073741824 := o3.1
   have hol145 : p_x.Name.length ≤ 1073741824 := o4
   have hol146 : (p_r.Vals.getD ((p_x.Col).toNat) d_Str).length ≤ 1073741824 := (okL.getD o6 ok_d_Str _)
   exact os rfl ((yl_sadd (a := ((((p_t.Name ++ ([46] : Str)) ++ p_x.Name) ++ ([47] : Str)) ++ (p_r.Vals.getD ((p_x.Col).toNat) d_Str))) (b := ([47] : Str)) rfl (hi141.g 20 rfl) rfl Bl kI))
  ·intro L158 w159 hi160
   have hE161 := hi160.ex
   have hE161z := Ex.size hE161
   exact os rfl ((yl_ixN un22 ty9 rfl (hi160.g 23 rfl) rfl eA48 kI))
  ·intro L169 w170 hi171
   have hE172 := hi171.ex
   have hE172z := Ex.size hE172
   have hol175 : p_t.Name.length ≤ 1073741824 := o3.1
   have hol176 : p_x.Name.length ≤ 1073741824 := o4
   have hol177 : (p_r.Vals.getD ((p_x.Col).toNat) d_Str).length ≤ 1073741824 := (okL.getD o6 ok_d_Str _)
   have hol178 : (p_r.Vals.getD 0 d_Str).length ≤ 1073741824 := (okL.getD o6 ok_d_Str _)
   exact os rfl ((yl_sadd (a := (((((p_t.Name ++ ([46] : Str)) ++ p_x.Name) ++ ([47] : Str)) ++ (p_r.Vals.getD ((p_x.Col).toNat) d_Str)) ++ ([47] : Str))) (b := (p_r.Vals.getD 0 d_Str)) rfl (hi171.g 21 rfl) (hi171.g 25 rfl) Bl kI))
 ·intro fl187 fh188 L184 w185 hp186
  have hE189 := hp186.ex
  have hE189z := Ex.size hE189
  refine dn (CW.sub (hp186.ss [6] rfl) (CW.ret (rr rfl (.cons rfl .nil) ?_)))
  rw [show (s_l25Entry p_t p_x p_r) = ((((((p_t.Name ++ ([46] : Str)) ++ p_x.Name) ++ ([47] : Str)) ++ (p_r.Vals.getD ((p_x.Col).toNat) d_Str)) ++ ([47] : Str)) ++ (p_r.Vals.getD 0 d_Str)) by simp only [s_l25Entry, cL]]
  exact ⟨rfl, (okS_l25Entry pre1 pre2), (Ex.trans (Ex.trans (Ex.trans (Ex.trans (Ex.refl w) hE17) hE23) hE29) hE189)⟩
@[reducible] def Y0_20 (p_t : DTable) (p_x : DIdx) (p_a : DRowAct) := ([(⟨2, (s_l25Entry p_t p_x p_a.New), ([] : Str), 0⟩ : DOp)] : List DOp)
@[reducible] def Y1_20 (p_t : DTable) (p_x : DIdx) (p_a : DRowAct) := ([(⟨3, (s_l25Entry p_t p_x p_a.Old), ([] : Str), 0⟩ : DOp)] : List DOp)
theorem c_s_l26Idx {A1 : Option Addr} {c1 : Nat} {A2 : Option Addr} {c2 : Nat} {A5 : Option Addr} {c5 : Nat} {A6 : Option Addr} {c6 : Nat} {w : World} (p_t : DTable) (p_x : DIdx) (p_a : DRowAct) (h1 : RdS w (Iv 0 w.heap.size) (RF e_Str) 1 A1 p_t.Cols.length c1 p_t.Cols) (h2 : RdS w (Iv 0 w.heap.size) (RF e_Idx) 3 A2 p_t.Idxs.length c2 p_t.Idxs) (h5 : RdS w (Iv 0 w.heap.size) (RF e_Str) 1 A5 p_a.Old.Vals.length c5 p_a.Old.Vals) (h6 : RdS w (Iv 0 w.heap.size) (RF e_Str) 1 A6 p_a.New.Vals.length c6 p_a.New.Vals) (o3 : ok_Table p_t) (o4 : ok_Idx p_x) (o7 : ok_RowAct p_a) (pre0 : actOf p_t p_a) (pre1 : (0 ≤ p_x.Col ∧ p_x.Col < (p_t.Cols.length : Int))) (pre2 : (p_t.Name.length ≤ 1 ∧ p_x.Name.length ≤ 1)) : Cal Tryz.prog 75 #[.agg #[.string (bs (p_t.Name)), .slice A1 p_t.Cols.length c1, .slice A2 p_t.Idxs.length c2], .agg #[.string (bs (p_x.Name)), .int .i64 (p_x.Col), .int .i64 (p_x.Stage)], .agg #[.int .i64 (p_a.Kind), .slice A5 p_a.Old.Vals.length c5, .slice A6 p_a.New.Vals.length c6]] w fun v w' => ∃ A_1 c_1 lo_1 hi_1, v = .slice A_1 ((s_l26Idx p_t p_x p_a).length) c_1 ∧ OwnL w' lo_1 hi_1 122 4 (RF e_Op) A_1 ((s_l26Idx p_t p_x p_a).length) c_1 (s_l26Idx p_t p_x p_a) ∧ (okL ok_Op) (s_l26Idx p_t p_x p_a) ∧ (w.heap.size ≤ lo_1 ∧ lo_1 ≤ hi_1 ∧ hi_1 ≤ w'.heap.size) ∧ Ex w w' := by
 have hol8 : p_t.Name.length ≤ 1073741824 := o3.1
 have hol9 := o3.2.1.1
 have hol10 := o3.2.2.1
 have hol11 : p_x.Name.length ≤ 1073741824 := o4
 have hol12 := o7.1.1
 have hol13 := o7.2.1
 have hof := actOf_lin pre0
 refine Cal.of func75 rfl ntmps75 rfl (cR (sd rfl (yl_box rfl rfl rfl ?_)))
 intro b14 w15 hs16 hz17 hB18 hE19
 refine sd rfl (yl_box rfl rfl rfl ?_)
 intro b20 w21 hs22 hz23 hB24 hE25
 refine sd rfl (yl_box rfl rfl rfl ?_)
 intro b26 w27 hs28 hz29 hB30 hE31
 refine sA rfl (dn (cR (sA rfl (dn (CW.seq ?_)))))
 refine CW.region (sA rfl (sA rfl (dn (CW.seq (cR (sd rfl (yl_fieldAddr fd44_0 rfl rfl ?_)))))))
 refine sd rfl (yl_load1 ty3 rfl rfl ((hB30.cell 0).trans rfl) (sd rfl (yl_neq rfl rfl rfl (dn (bcD (q := p_a.Kind = 1) (fun hb32 hb32p => ?_) (fun hb32 hb32p => ?_))))))
 ·refine CW.cond_f rfl (not_t hb32) (CW.skip (tn (CW.seq (cR (sd rfl (yl_fieldAddr fd44_0 rfl rfl (sd rfl (yl_load1 ty3 rfl rfl ((hB30.cell 0).trans rfl) (sd rfl (yl_neq rfl rfl rfl ?_))))))))))
  refine dn (bcD (q := p_a.Kind = 2) (fun hb33 hb33p => ?_) (fun hb33 hb33p => ?_))
  ·refine CW.cond_f rfl (not_t hb33) (CW.skip (tn (CW.seq (cR (sM rfl (sd rfl (yl_sneq (a := ([] : Str)) (b := ([] : Str)) rfl rfl rfl (sM rfl ?_))))))))
   refine sz rfl rfl (not_t (rfl : (([] : Str) == ([] : Str)) = true)) (sz rfl rfl (not_t (rfl : (([] : Str) == ([] : Str)) = true)) (sz rfl rfl (not_t (rfl : (([] : Str) == ([] : Str)) = true)) (sd rfl (yl_pick_f rfl rfl (not_t (rfl : (([] : Str) == ([] : Str)) = true)) rfl (sM rfl (sz rfl rfl rfl (sz rfl rfl rfl (sz rfl rfl rfl (sd rfl (yl_pick_f rfl rfl rfl rfl ?_))))))))))
   refine dn (CW.cond_f rfl rfl (CW.skip (tn (CW.seq (cR (sM rfl ?_))))))
   refine sd rfl (yl_sneq (a := ([] : Str)) (b := ([] : Str)) rfl rfl rfl (sM rfl (sz rfl rfl (not_t (rfl : (([] : Str) == ([] : Str)) = true)) (sz rfl rfl (not_t (rfl : (([] : Str) == ([] : Str)) = true)) (sz rfl rfl (not_t (rfl : (([] : Str) == ([] : Str)) = true)) (sd rfl (yl_pick_f rfl rfl (not_t (rfl : (([] : Str) == ([] : Str)) = true)) rfl (dn (CW.cond_f rfl rfl ?_)))))))))
   refine CW.skip (tn (cR (sM rfl (sA rfl (dn (CW.ret ?_))))))
   refine rr rfl (.cons rfl .nil) ?_
   rw [show (s_l26Idx p_t p_x p_a) = (([] : List DOp)) by simp only [s_l26Idx, hb32, hb33, cL]]
   exact ⟨none, 0, w27.heap.size, w27.heap.size, rfl, (OwnL.nil _ _ _ _ _ _), (okL.nil _), oM, (Ex.trans (Ex.trans (Ex.trans (Ex.refl w) hE19) hE25) hE31)⟩
  ·refine CW.cond_t rfl (not_f hb33) (CW.region (sd rfl (yl_loadN ty39 rfl rfl ((Box.ex (Box.ex hB18 hE25) hE31).cells (n := 3) rfl) rfl ?_)))
   have q40 := Box.ex hB24 hE31
   refine sd rfl (yl_loadN ty111 rfl rfl (q40.cells (n := 3) rfl) rfl (sd rfl (yl_fieldAddr fd44_2 rfl rfl (sd rfl (yl_loadN ty42 rfl rfl (hB30.cells (n := 1) rfl) rfl (sd rfl (yC en125 rfl (oc rfl (oc rfl (oc rfl oz))) (Cal.mono (c_s_l25Entry p_t p_x p_a.New (RdS.up (RdS.ex gS (RdS.ex gS (RdS.ex gS h1 hE19) hE25) hE31) gS) (RdS.up (RdS.ex gI (RdS.ex gI (RdS.ex gI h2 hE19) hE25) hE31) gI) (RdS.up (RdS.ex gS (RdS.ex gS (RdS.ex gS h6 hE19) hE25) hE31) gS) o3 o4 o7.2 Bo Bo (pre0.1 oM).2) ?_))))))))
   rintro v52 w50 ⟨rfl, ho51, hE53⟩
   have hE53z := Ex.size hE53
   have y2 := Ex.trans (Ex.trans (Ex.trans (Ex.trans (Ex.refl w) hE19) hE25) hE31) hE53
   refine sA rfl (dn (CW.seq (cR (sM rfl (sd rfl (yl_sneq (a := ([] : Str)) (b := ([] : Str)) rfl rfl rfl (sM rfl ?_)))))))
   refine sz rfl rfl (not_t (rfl : (([] : Str) == ([] : Str)) = true)) (sz rfl rfl (not_t (rfl : (([] : Str) == ([] : Str)) = true)) (sz rfl rfl (not_t (rfl : (([] : Str) == ([] : Str)) = true)) (sd rfl (yl_pick_f rfl rfl (not_t (rfl : (([] : Str) == ([] : Str)) = true)) rfl (sM rfl (sz rfl rfl rfl (sz rfl rfl rfl (sz rfl rfl rfl (sd rfl (yl_pick_f rfl rfl rfl rfl ?_))))))))))
   refine dn (CW.cond_f rfl rfl (CW.skip (tn (CW.seq (cR (sM rfl ?_))))))
   refine sd rfl (yl_sneq (a := (s_l25Entry p_t p_x p_a.New)) (b := ([] : Str)) rfl rfl rfl (sM rfl (bcase ((s_l25Entry p_t p_x p_a.New) == ([] : Str)) (fun hb54 => ?_) (fun hb54 => ?_))))
   ·refine sz rfl rfl (not_t hb54) (sz rfl rfl (not_t hb54) (sz rfl rfl (not_t hb54) (sd rfl (yl_pick_f rfl rfl (not_t hb54) rfl (dn (CW.cond_f rfl rfl (CW.skip (tn ?_))))))))
    refine cR (sM rfl (sA rfl (dn (CW.ret (rr rfl (.cons rfl .nil) ?_)))))
    rw [show (s_l26Idx p_t p_x p_a) = (([] : List DOp)) by simp only [s_l26Idx, hb32, hb33, hb54, cL]]
    exact ⟨none, 0, w50.heap.size, w50.heap.size, rfl, (OwnL.nil _ _ _ _ _ _), (okL.nil _), oM, y2⟩
   ·refine sy rfl rfl (not_f hb54) (yl_fieldAddr fd111_2 rfl rfl (sy rfl rfl (not_f hb54) (yl_load1 ty3 rfl rfl (((Box.ex q40 hE53).cell 2).trans rfl) (sy rfl rfl (not_f hb54) (yl_geq rfl rfl rfl (sd rfl (yl_pick_t rfl rfl (not_f hb54) rfl (dn (bcD (q := 2 ≤ p_x.Stage) (fun hb61 hb61p => ?_) (fun hb61 hb61p => ?_))))))))))
    ·refine CW.cond_t rfl hb61 (CW.region (sM rfl (sM rfl (sd rfl (yl_build (cs := [.int .i64 (2), .string (bs ((s_l25Entry p_t p_x p_a.New))), .string (bs (([] : Str))), .int .i64 (0)]) rfl (oc rfl (oc rfl oz)) (by kernel_rfl) (sd rfl (yl_buildSlice (cs := [.int .i64 (2), .string (bs ((s_l25Entry p_t p_x p_a.New))), .string (bs (([] : Str))), .int .i64 (0)]) un77 ty122 (by decide) rfl (oc rfl oz) (by kernel_rfl) ?_)))))))
     intro b62 w63 hs64 hz65 hB66 hE67
     have hO68 : OwnL w63 b62 (b62 + 1) 122 4 (RF e_Op) (some ⟨b62, 0, none⟩) 1 1 (Y0_20 p_t p_x p_a) := OwnL.of_box (S := fun _ => False) hB66 (Nat.le_refl _) (Nat.lt_succ_self _) (EncL.cons (c := [.int .i64 (2), .string (bs ((s_l25Entry p_t p_x p_a.New))), .string (bs (([] : Str))), .int .i64 (0)]) rfl rfl EncL.nil) (nb rfl) (fun h => h) (fun _ h => False.elim h)
     refine sd rfl (yl_appendL (S := (fun _ => False)) (lo := w63.heap.size) (hi := w63.heap.size) (xs := ([] : List DOp)) (ys := (Y0_20 p_t p_x p_a)) good_Op un77 ty122 rfl (nb rfl) rfl rfl rfl (OwnL.nil w63 w63.heap.size w63.heap.size 122 4 (RF e_Op)) (EncL.cons (c := [.int .i64 (2), .string (bs ((s_l25Entry p_t p_x p_a.New))), .string (bs (([] : Str))), .int .i64 (0)]) rfl rfl EncL.nil) (Or.inr ⟨_, _, rfl, rfl, hB66.cells (o := 0) (n := 4) rfl⟩) rfl Bl Bl oM oM (fun _ h _ => False.elim h) oM ?_)
     intro A69 c70 w71 row72 hO73 hG74 hrg75
     have hG74z := hG74.size
     refine sA rfl (dn (cR (sM rfl (sA rfl (dn ?_)))))
     refine CW.ret (rr rfl (.cons rfl .nil) ?_)
     rw [show (s_l26Idx p_t p_x p_a) = ((([] : List DOp) ++ (Y0_20 p_t p_x p_a))) by simp only [s_l26Idx, hb32, hb33, hb54, hb61, cL]]
     exact ⟨A69, c70, w63.heap.size, w71.heap.size, rfl, hO73, (okL.mk (xs := (([] : List DOp) ++ (Y0_20 p_t p_x p_a))) Bl (okE.append okE.nil ((okL.mk (nb rfl) (okE.cons ⟨ho51, (okS.lit rfl)⟩ okE.nil))).2)), oM, (Below.grown (Ex.trans y2 hE67) hG74 oM (hW hrg75))⟩
    ·refine CW.cond_f rfl hb61 (CW.skip (tn (cR (sM rfl (sA rfl (dn ?_))))))
     refine CW.ret (rr rfl (.cons rfl .nil) ?_)
     rw [show (s_l26Idx p_t p_x p_a) = (([] : List DOp)) by simp only [s_l26Idx, hb32, hb33, hb54, hb61, cL]]
     exact ⟨none, 0, w50.heap.size, w50.heap.size, rfl, (OwnL.nil _ _ _ _ _ _), (okL.nil _), oM, y2⟩
 ·refine CW.cond_t rfl (not_f hb32) (CW.region ?_)
  have q89 := Box.ex (Box.ex hB18 hE25) hE31
  refine sd rfl (yl_loadN ty39 rfl rfl (q89.cells (n := 3) rfl) rfl ?_)
  have q90 := Box.ex hB24 hE31
  refine sd rfl (yl_loadN ty111 rfl rfl (q90.cells (n := 3) rfl) rfl (sd rfl (yl_fieldAddr fd44_1 rfl rfl (sd rfl (yl_loadN ty42 rfl rfl (hB30.cells (n := 1) rfl) rfl ?_)))))
  have q93 := RdS.ex gS (RdS.ex gS (RdS.ex gS h1 hE19) hE25) hE31
  have q96 := RdS.ex gI (RdS.ex gI (RdS.ex gI h2 hE19) hE25) hE31
  refine sd rfl (yC en125 rfl (oc rfl (oc rfl (oc rfl oz))) (Cal.mono (c_s_l25Entry p_t p_x p_a.Old (RdS.up q93 gS) (RdS.up q96 gI) (RdS.up (RdS.ex gS (RdS.ex gS (RdS.ex gS h5 hE19) hE25) hE31) gS) o3 o4 o7.1 Bo Bo (pre0.2 oM).2) ?_))
  rintro v102 w100 ⟨rfl, ho101, hE103⟩
  have hE103z := Ex.size hE103
  have y0 := Ex.trans (Ex.trans (Ex.trans (Ex.trans (Ex.refl w) hE19) hE25) hE31) hE103
  refine sA rfl (dn (CW.seq (cR (sd rfl (yl_fieldAddr fd44_0 rfl rfl ?_)))))
  have q104 := Box.ex hB30 hE103
  refine sd rfl (yl_load1 ty3 rfl rfl ((q104.cell 0).trans rfl) (sd rfl (yl_neq rfl rfl rfl (dn (bcD (q := p_a.Kind = 2) (fun hb105 hb105p => ?_) (fun hb105 hb105p => ?_))))))
  ·refine CW.cond_f rfl (not_t hb105) (CW.skip (tn (CW.seq (cR (sM rfl (sd rfl (yl_sneq (a := (s_l25Entry p_t p_x p_a.Old)) (b := ([] : Str)) rfl rfl rfl (sM rfl ?_))))))))
   refine bcase ((s_l25Entry p_t p_x p_a.Old) == ([] : Str)) (fun hb106 => ?_) (fun hb106 => ?_)
   ·refine sz rfl rfl (not_t hb106) (sz rfl rfl (not_t hb106) (sz rfl rfl (not_t hb106) (sd rfl (yl_pick_f rfl rfl (not_t hb106) rfl (sM rfl (sz rfl rfl rfl (sz rfl rfl rfl (sz rfl rfl rfl (sd rfl (yl_pick_f rfl rfl rfl rfl ?_))))))))))
    refine dn (CW.cond_f rfl rfl (CW.skip (tn (CW.seq (cR (sM rfl ?_))))))
    refine sd rfl (yl_sneq (a := ([] : Str)) (b := ([] : Str)) rfl rfl rfl (sM rfl (sz rfl rfl (not_t (rfl : (([] : Str) == ([] : Str)) = true)) (sz rfl rfl (not_t (rfl : (([] : Str) == ([] : Str)) = true)) (sz rfl rfl (not_t (rfl : (([] : Str) == ([] : Str)) = true)) (sd rfl (yl_pick_f rfl rfl (not_t (rfl : (([] : Str) == ([] : Str)) = true)) rfl (dn (CW.cond_f rfl rfl ?_)))))))))
    refine CW.skip (tn (cR (sM rfl (sA rfl (dn (CW.ret ?_))))))
    refine rr rfl (.cons rfl .nil) ?_
    rw [show (s_l26Idx p_t p_x p_a) = (([] : List DOp)) by simp only [s_l26Idx, hb32, hb105, hb106, cL]]
    exact ⟨none, 0, w100.heap.size, w100.heap.size, rfl, (OwnL.nil _ _ _ _ _ _), (okL.nil _), oM, y0⟩
   ·refine sy rfl rfl (not_f hb106) (yM rfl rfl (sy rfl rfl (not_f hb106) (yM rfl rfl (sy rfl rfl (not_f hb106) (yl_sneq (a := (s_l25Entry p_t p_x p_a.Old)) (b := ([] : Str)) rfl rfl rfl (sd rfl (yl_pick_t rfl rfl (not_f hb106) rfl (sM rfl (sy rfl rfl (not_f hb106) (yl_fieldAddr fd111_2 rfl rfl (sy rfl rfl (not_f hb106) (yl_load1 ty3 rfl rfl (((Box.ex q90 hE103).cell 2).trans rfl) (sy rfl rfl (not_f hb106) (yl_geq rfl rfl rfl (sd rfl (yl_pick_t rfl rfl (not_f hb106) rfl ?_))))))))))))))))
    refine dn (bcD (q := 1 ≤ p_x.Stage) (fun hb113 hb113p => ?_) (fun hb113 hb113p => ?_))
    ·refine CW.cond_t rfl hb113 (CW.region (sM rfl (sM rfl (sd rfl (yl_build (cs := [.int .i64 (3), .string (bs ((s_l25Entry p_t p_x p_a.Old))), .string (bs (([] : Str))), .int .i64 (0)]) rfl (oc rfl (oc rfl oz)) (by kernel_rfl) (sd rfl (yl_buildSlice (cs := [.int .i64 (3), .string (bs ((s_l25Entry p_t p_x p_a.Old))), .string (bs (([] : Str))), .int .i64 (0)]) un77 ty122 (by decide) rfl (oc rfl oz) (by kernel_rfl) ?_)))))))
     intro b114 w115 hs116 hz117 hB118 hE119
     have hO120 : OwnL w115 b114 (b114 + 1) 122 4 (RF e_Op) (some ⟨b114, 0, none⟩) 1 1 (Y1_20 p_t p_x p_a) := OwnL.of_box (S := fun _ => False) hB118 (Nat.le_refl _) (Nat.lt_succ_self _) (EncL.cons (c := [.int .i64 (3), .string (bs ((s_l25Entry p_t p_x p_a.Old))), .string (bs (([] : Str))), .int .i64 (0)]) rfl rfl EncL.nil) (nb rfl) (fun h => h) (fun _ h => False.elim h)
     refine sd rfl (yl_appendL (S := (fun _ => False)) (lo := w115.heap.size) (hi := w115.heap.size) (xs := ([] : List DOp)) (ys := (Y1_20 p_t p_x p_a)) good_Op un77 ty122 rfl (nb rfl) rfl rfl rfl (OwnL.nil w115 w115.heap.size w115.heap.size 122 4 (RF e_Op)) (EncL.cons (c := [.int .i64 (3), .string (bs ((s_l25Entry p_t p_x p_a.Old))), .string (bs (([] : Str))), .int .i64 (0)]) rfl rfl EncL.nil) (Or.inr ⟨_, _, rfl, rfl, hB118.cells (o := 0) (n := 4) rfl⟩) rfl Bl Bl oM oM (fun _ h _ => False.elim h) oM ?_)
     intro A121 c122 w123 row124 hO125 hG126 hrg127
     have hG126z := hG126.size
     refine sA rfl (dn (CW.seq (cR (sM rfl (sd rfl (yl_sneq (a := ([] : Str)) (b := ([] : Str)) rfl rfl rfl (sM rfl ?_)))))))
     refine sz rfl rfl (not_t (rfl : (([] : Str) == ([] : Str)) = true)) (sz rfl rfl (not_t (rfl : (([] : Str) == ([] : Str)) = true)) (sz rfl rfl (not_t (rfl : (([] : Str) == ([] : Str)) = true)) (sd rfl (yl_pick_f rfl rfl (not_t (rfl : (([] : Str) == ([] : Str)) = true)) rfl (dn (CW.cond_f rfl rfl (CW.skip (tn ?_))))))))
     refine cR (sM rfl (sA rfl (dn (CW.ret (rr rfl (.cons rfl .nil) ?_)))))
     rw [show (s_l26Idx p_t p_x p_a) = ((([] : List DOp) ++ (Y1_20 p_t p_x p_a))) by simp only [s_l26Idx, hb32, hb105, hb106, hb113, cL]]
     exact ⟨A121, c122, w115.heap.size, w123.heap.size, rfl, hO125, (okL.mk (xs := (([] : List DOp) ++ (Y1_20 p_t p_x p_a))) Bl (okE.append okE.nil ((okL.mk (nb rfl) (okE.cons ⟨ho101, (okS.lit rfl)⟩ okE.nil))).2)), oM, (Below.grown (Ex.trans y0 hE119) hG126 oM (hW hrg127))⟩
    ·refine CW.cond_f rfl hb113 (CW.skip (tn (CW.seq (cR (sM rfl (sd rfl (yl_sneq (a := ([] : Str)) (b := ([] : Str)) rfl rfl rfl (sM rfl ?_))))))))
     refine sz rfl rfl (not_t (rfl : (([] : Str) == ([] : Str)) = true)) (sz rfl rfl (not_t (rfl : (([] : Str) == ([] : Str)) = true)) (sz rfl rfl (not_t (rfl : (([] : Str) == ([] : Str)) = true)) (sd rfl (yl_pick_f rfl rfl (not_t (rfl : (([] : Str) == ([] : Str)) = true)) rfl (dn (CW.cond_f rfl rfl (CW.skip (tn ?_))))))))
     refine cR (sM rfl (sA rfl (dn (CW.ret (rr rfl (.cons rfl .nil) ?_)))))
     rw [show (s_l26Idx p_t p_x p_a) = (([] : List DOp)) by simp only [s_l26Idx, hb32, hb105, hb106, hb113, cL]]
     exact ⟨none, 0, w100.heap.size, w100.heap.size, rfl, (OwnL.nil _ _ _ _ _ _), (okL.nil _), oM, y0⟩
  ·refine CW.cond_t rfl (not_f hb105) (CW.region (sd rfl (yl_loadN ty39 rfl rfl ((Box.ex q89 hE103).cells (n := 3) rfl) rfl ?_)))
   have q141 := Box.ex q90 hE103
   refine sd rfl (yl_loadN ty111 rfl rfl (q141.cells (n := 3) rfl) rfl (sd rfl (yl_fieldAddr fd44_2 rfl rfl (sd rfl (yl_loadN ty42 rfl rfl (q104.cells (n := 1) rfl) rfl (sd rfl (yC en125 rfl (oc rfl (oc rfl (oc rfl oz))) (Cal.mono (c_s_l25Entry p_t p_x p_a.New (RdS.up (RdS.ex gS q93 hE103) gS) (RdS.up (RdS.ex gI q96 hE103) gI) (RdS.up (RdS.ex gS (RdS.ex gS (RdS.ex gS (RdS.ex gS h6 hE19) hE25) hE31) hE103) gS) o3 o4 o7.2 Bo Bo (pre0.1 oM).2) ?_))))))))
   rintro v150 w148 ⟨rfl, ho149, hE151⟩
   have hE151z := Ex.size hE151
   refine sA rfl (dn (CW.seq (cR (sM rfl (sd rfl (yl_sneq (a := (s_l25Entry p_t p_x p_a.Old)) (b := ([] : Str)) rfl rfl rfl (sM rfl ?_)))))))
   refine bcase ((s_l25Entry p_t p_x p_a.Old) == ([] : Str)) (fun hb152 => ?_) (fun hb152 => ?_)
   ·refine sz rfl rfl (not_t hb152) (sz rfl rfl (not_t hb152) (sz rfl rfl (not_t hb152) (sd rfl (yl_pick_f rfl rfl (not_t hb152) rfl (sM rfl (sz rfl rfl rfl (sz rfl rfl rfl (sz rfl rfl rfl (sd rfl (yl_pick_f rfl rfl rfl rfl ?_))))))))))
    refine dn (CW.cond_f rfl rfl (CW.skip (tn (CW.seq (cR (sM rfl ?_))))))
    refine sd rfl (yl_sneq (a := (s_l25Entry p_t p_x p_a.New)) (b := ([] : Str)) rfl rfl rfl (sM rfl (bcase ((s_l25Entry p_t p_x p_a.New) == ([] : Str)) (fun hb153 => ?_) (fun hb153 => ?_))))
    ·refine sz rfl rfl (not_t hb153) (sz rfl rfl (not_t hb153) (sz rfl rfl (not_t hb153) (sd rfl (yl_pick_f rfl rfl (not_t hb153) rfl (dn (CW.cond_f rfl rfl (CW.skip (tn ?_))))))))
     refine cR (sM rfl (sA rfl (dn (CW.ret (rr rfl (.cons rfl .nil) ?_)))))
     rw [show (s_l26Idx p_t p_x p_a) = (([] : List DOp)) by simp only [s_l26Idx, hb32, hb105, hb152, hb153, cL]]
     exact ⟨none, 0, w148.heap.size, w148.heap.size, rfl, (OwnL.nil _ _ _ _ _ _), (okL.nil _), oM, (Ex.trans y0 hE151)⟩
    ·refine sy rfl rfl (not_f hb153) (yl_fieldAddr fd111_2 rfl rfl (sy rfl rfl (not_f hb153) (yl_load1 ty3 rfl rfl (((Box.ex q141 hE151).cell 2).trans rfl) (sy rfl rfl (not_f hb153) (yl_geq rfl rfl rfl (sd rfl (yl_pick_t rfl rfl (not_f hb153) rfl (dn (bcD (q := 2 ≤ p_x.Stage) (fun hb161 hb161p => ?_) (fun hb161 hb161p => ?_))))))))))
     ·refine CW.cond_t rfl hb161 (CW.region (sM rfl (sM rfl (sd rfl (yl_build (cs := [.int .i64 (2), .string (bs ((s_l25Entry p_t p_x p_a.New))), .string (bs (([] : Str))), .int .i64 (0)]) rfl (oc rfl (oc rfl oz)) (by kernel_rfl) (sd rfl (yl_buildSlice (cs := [.int .i64 (2), .string (bs ((s_l25Entry p_t p_x p_a.New))), .string (bs (([] : Str))), .int .i64 (0)]) un77 ty122 (by decide) rfl (oc rfl oz) (by kernel_rfl) ?_)))))))
      intro b162 w163 hs164 hz165 hB166 hE167
      have hO168 : OwnL w163 b162 (b162 + 1) 122 4 (RF e_Op) (some ⟨b162, 0, none⟩) 1 1 (Y0_20 p_t p_x p_a) := OwnL.of_box (S := fun _ => False) hB166 (Nat.le_refl _) (Nat.lt_succ_self _) (EncL.cons (c := [.int .i64 (2), .string (bs ((s_l25Entry p_t p_x p_a.New))), .string (bs (([] : Str))), .int .i64 (0)]) rfl rfl EncL.nil) (nb rfl) (fun h => h) (fun _ h => False.elim h)
      refine sd rfl (yl_appendL (S := (fun _ => False)) (lo := w163.heap.size) (hi := w163.heap.size) (xs := ([] : List DOp)) (ys := (Y0_20 p_t p_x p_a)) good_Op un77 ty122 rfl (nb rfl) rfl rfl rfl (OwnL.nil w163 w163.heap.size w163.heap.size 122 4 (RF e_Op)) (EncL.cons (c := [.int .i64 (2), .string (bs ((s_l25Entry p_t p_x p_a.New))), .string (bs (([] : Str))), .int .i64 (0)]) rfl rfl EncL.nil) (Or.inr ⟨_, _, rfl, rfl, hB166.cells (o := 0) (n := 4) rfl⟩) rfl Bl Bl oM oM (fun _ h _ => False.elim h) oM ?_)
      intro A169 c170 w171 row172 hO173 hG174 hrg175
      have hG174z := hG174.size
      refine sA rfl (dn (cR (sM rfl (sA rfl (dn ?_)))))
      refine CW.ret (rr rfl (.cons rfl .nil) ?_)
      rw [show (s_l26Idx p_t p_x p_a) = ((([] : List DOp) ++ (Y0_20 p_t p_x p_a))) by simp only [s_l26Idx, hb32, hb105, hb152, hb153, hb161, cL]]
      exact ⟨A169, c170, w163.heap.size, w171.heap.size, rfl, hO173, (okL.mk (xs := (([] : List DOp) ++ (Y0_20 p_t p_x p_a))) Bl (okE.append okE.nil ((okL.mk (nb rfl) (okE.cons ⟨ho149, (okS.lit rfl)⟩ okE.nil))).2)), oM, (Below.grown (Ex.trans (Ex.trans y0 hE151) hE167) hG174 oM (hW hrg175))⟩
     ·refine CW.cond_f rfl hb161 (CW.skip (tn (cR (sM rfl (sA rfl (dn ?_))))))
      refine CW.ret (rr rfl (.cons rfl .nil) ?_)
      rw [show (s_l26Idx p_t p_x p_a) = (([] : List DOp)) by simp only [s_l26Idx, hb32, hb105, hb152, hb153, hb161, cL]]
      exact ⟨none, 0, w148.heap.size, w148.heap.size, rfl, (OwnL.nil _ _ _ _ _ _), (okL.nil _), oM, (Ex.trans y0 hE151)⟩
   ·refine sy rfl rfl (not_f hb152) (yM rfl rfl (sy rfl rfl (not_f hb152) (yM rfl rfl (sy rfl rfl (not_f hb152) (yl_sneq (a := (s_l25Entry p_t p_x p_a.Old)) (b := (s_l25Entry p_t p_x p_a.New)) rfl rfl rfl (sd rfl (yl_pick_t rfl rfl (not_f hb152) rfl (sM rfl (bcase ((s_l25Entry p_t p_x p_a.Old) == (s_l25Entry p_t p_x p_a.New)) (fun hb190 => ?_) (fun hb190 => ?_))))))))))
    ·refine sz rfl rfl (not_t hb190) (sz rfl rfl (not_t hb190) (sz rfl rfl (not_t hb190) (sd rfl (yl_pick_f rfl rfl (not_t hb190) rfl (dn (CW.cond_f rfl rfl (CW.skip (tn ?_))))))))
     refine CW.seq (cR (sM rfl (sd rfl (yl_sneq (a := (s_l25Entry p_t p_x p_a.New)) (b := ([] : Str)) rfl rfl rfl (sM rfl (bcase ((s_l25Entry p_t p_x p_a.New) == ([] : Str)) (fun hb191 => ?_) (fun hb191 => ?_)))))))
     ·refine sz rfl rfl (not_t hb191) (sz rfl rfl (not_t hb191) (sz rfl rfl (not_t hb191) (sd rfl (yl_pick_f rfl rfl (not_t hb191) rfl (dn (CW.cond_f rfl rfl (CW.skip (tn ?_))))))))
      refine cR (sM rfl (sA rfl (dn (CW.ret (rr rfl (.cons rfl .nil) ?_)))))
      rw [show (s_l26Idx p_t p_x p_a) = (([] : List DOp)) by simp only [s_l26Idx, hb32, hb105, hb152, hb190, hb191, cL]]
      exact ⟨none, 0, w148.heap.size, w148.heap.size, rfl, (OwnL.nil _ _ _ _ _ _), (okL.nil _), oM, (Ex.trans y0 hE151)⟩
     ·refine sy rfl rfl (not_f hb191) (yl_fieldAddr fd111_2 rfl rfl (sy rfl rfl (not_f hb191) (yl_load1 ty3 rfl rfl (((Box.ex q141 hE151).cell 2).trans rfl) (sy rfl rfl (not_f hb191) (yl_geq rfl rfl rfl (sd rfl (yl_pick_t rfl rfl (not_f hb191) rfl (dn (bcD (q := 2 ≤ p_x.Stage) (fun hb199 hb199p => ?_) (fun hb199 hb199p => ?_))))))))))
      ·refine CW.cond_t rfl hb199 (CW.region (sM rfl (sM rfl (sd rfl (yl_build (cs := [.int .i64 (2), .string (bs ((s_l25Entry p_t p_x p_a.New))), .string (bs (([] : Str))), .int .i64 (0)]) rfl (oc rfl (oc rfl oz)) (by kernel_rfl) (sd rfl (yl_buildSlice (cs := [.int .i64 (2), .string (bs ((s_l25Entry p_t p_x p_a.New))), .string (bs (([] : Str))), .int .i64 (0)]) un77 ty122 (by decide) rfl (oc rfl oz) (by kernel_rfl) ?_)))))))
       intro b200 w201 hs202 hz203 hB204 hE205
       have hO206 : OwnL w201 b200 (b200 + 1) 122 4 (RF e_Op) (some ⟨b200, 0, none⟩) 1 1 (Y0_20 p_t p_x p_a) := OwnL.of_box (S := fun _ => False) hB204 (Nat.le_refl _) (Nat.lt_succ_self _) (EncL.cons (c := [.int .i64 (2), .string (bs ((s_l25Entry p_t p_x p_a.New))), .string (bs (([] : Str))), .int .i64 (0)]) rfl rfl EncL.nil) (nb rfl) (fun h => h) (fun _ h => False.elim h)
       refine sd rfl (yl_appendL (S := (fun _ => False)) (lo := w201.heap.size) (hi := w201.heap.size) (xs := ([] : List DOp)) (ys := (Y0_20 p_t p_x p_a)) good_Op un77 ty122 rfl (nb rfl) rfl rfl rfl (OwnL.nil w201 w201.heap.size w201.heap.size 122 4 (RF e_Op)) (EncL.cons (c := [.int .i64 (2), .string (bs ((s_l25Entry p_t p_x p_a.New))), .string (bs (([] : Str))), .int .i64 (0)]) rfl rfl EncL.nil) (Or.inr ⟨_, _, rfl, rfl, hB204.cells (o := 0) (n := 4) rfl⟩) rfl Bl Bl oM oM (fun _ h _ => False.elim h) oM ?_)
       intro A207 c208 w209 row210 hO211 hG212 hrg213
       have hG212z := hG212.size
       refine sA rfl (dn (cR (sM rfl (sA rfl (dn ?_)))))
       refine CW.ret (rr rfl (.cons rfl .nil) ?_)
       rw [show (s_l26Idx p_t p_x p_a) = ((([] : List DOp) ++ (Y0_20 p_t p_x p_a))) by simp only [s_l26Idx, hb32, hb105, hb152, hb190, hb191, hb199, cL]]
       exact ⟨A207, c208, w201.heap.size, w209.heap.size, rfl, hO211, (okL.mk (xs := (([] : List DOp) ++ (Y0_20 p_t p_x p_a))) Bl (okE.append okE.nil ((okL.mk (nb rfl) (okE.cons ⟨ho149, (okS.lit rfl)⟩ okE.nil))).2)), oM, (Below.grown (Ex.trans (Ex.trans y0 hE151) hE205) hG212 oM (hW hrg213))⟩
      ·refine CW.cond_f rfl hb199 (CW.skip (tn (cR (sM rfl (sA rfl (dn ?_))))))
       refine CW.ret (rr rfl (.cons rfl .nil) ?_)
       rw [show (s_l26Idx p_t p_x p_a) = (([] : List DOp)) by simp only [s_l26Idx, hb32, hb105, hb152, hb190, hb191, hb199, cL]]
       exact ⟨none, 0, w148.heap.size, w148.heap.size, rfl, (OwnL.nil _ _ _ _ _ _), (okL.nil _), oM, (Ex.trans y0 hE151)⟩
    ·refine sy rfl rfl (not_f hb190) (yl_fieldAddr fd111_2 rfl rfl ?_)
     have q228 := Box.ex q141 hE151
     refine sy rfl rfl (not_f hb190) (yl_load1 ty3 rfl rfl ((q228.cell 2).trans rfl) (sy rfl rfl (not_f hb190) (yl_geq rfl rfl rfl (sd rfl (yl_pick_t rfl rfl (not_f hb190) rfl (dn (bcD (q := 1 ≤ p_x.Stage) (fun hb229 hb229p => ?_) (fun hb229 hb229p => ?_))))))))
     ·refine CW.cond_t rfl hb229 (CW.region (sM rfl (sM rfl (sd rfl (yl_build (cs := [.int .i64 (3), .string (bs ((s_l25Entry p_t p_x p_a.Old))), .string (bs (([] : Str))), .int .i64 (0)]) rfl (oc rfl (oc rfl oz)) (by kernel_rfl) (sd rfl (yl_buildSlice (cs := [.int .i64 (3), .string (bs ((s_l25Entry p_t p_x p_a.Old))), .string (bs (([] : Str))), .int .i64 (0)]) un77 ty122 (by decide) rfl (oc rfl oz) (by kernel_rfl) ?_)))))))
      intro b230 w231 hs232 hz233 hB234 hE235
      have hO236 : OwnL w231 b230 (b230 + 1) 122 4 (RF e_Op) (some ⟨b230, 0, none⟩) 1 1 (Y1_20 p_t p_x p_a) := OwnL.of_box (S := fun _ => False) hB234 (Nat.le_refl _) (Nat.lt_succ_self _) (EncL.cons (c := [.int .i64 (3), .string (bs ((s_l25Entry p_t p_x p_a.Old))), .string (bs (([] : Str))), .int .i64 (0)]) rfl rfl EncL.nil) (nb rfl) (fun h => h) (fun _ h => False.elim h)
      refine sd rfl (yl_appendL (S := (fun _ => False)) (lo := w231.heap.size) (hi := w231.heap.size) (xs := ([] : List DOp)) (ys := (Y1_20 p_t p_x p_a)) good_Op un77 ty122 rfl (nb rfl) rfl rfl rfl (OwnL.nil w231 w231.heap.size w231.heap.size 122 4 (RF e_Op)) (EncL.cons (c := [.int .i64 (3), .string (bs ((s_l25Entry p_t p_x p_a.Old))), .string (bs (([] : Str))), .int .i64 (0)]) rfl rfl EncL.nil) (Or.inr ⟨_, _, rfl, rfl, hB234.cells (o := 0) (n := 4) rfl⟩) rfl Bl Bl oM oM (fun _ h _ => False.elim h) oM ?_)
      intro A237 c238 w239 row240 hO241 hG242 hrg243
      have hG242z := hG242.size
      have y1 := Below.grown (Ex.trans (Ex.trans y0 hE151) hE235) hG242 oM (hW hrg243)
      refine sA rfl (dn (CW.seq (cR (sM rfl (sd rfl (yl_sneq (a := (s_l25Entry p_t p_x p_a.New)) (b := ([] : Str)) rfl rfl rfl (sM rfl ?_)))))))
      refine bcase ((s_l25Entry p_t p_x p_a.New) == ([] : Str)) (fun hb244 => ?_) (fun hb244 => ?_)
      ·refine sz rfl rfl (not_t hb244) (sz rfl rfl (not_t hb244) (sz rfl rfl (not_t hb244) (sd rfl (yl_pick_f rfl rfl (not_t hb244) rfl (dn (CW.cond_f rfl rfl (CW.skip (tn ?_))))))))
       refine cR (sM rfl (sA rfl (dn (CW.ret (rr rfl (.cons rfl .nil) ?_)))))
       rw [show (s_l26Idx p_t p_x p_a) = ((([] : List DOp) ++ (Y1_20 p_t p_x p_a))) by simp only [s_l26Idx, hb32, hb105, hb152, hb190, hb229, hb244, cL]]
       exact ⟨A237, c238, w231.heap.size, w239.heap.size, rfl, hO241, (okL.mk (xs := (([] : List DOp) ++ (Y1_20 p_t p_x p_a))) Bl (okE.append okE.nil ((okL.mk (nb rfl) (okE.cons ⟨ho101, (okS.lit rfl)⟩ okE.nil))).2)), oM, y1⟩
      ·refine sy rfl rfl (not_f hb244) (yl_fieldAddr fd111_2 rfl rfl (sy rfl rfl (not_f hb244) (yl_load1 ty3 rfl rfl (((Box.grown (Box.ex q228 hE235) hG242 (hW hrg243)).cell 2).trans rfl) (sy rfl rfl (not_f hb244) (yl_geq rfl rfl rfl (sd rfl (yl_pick_t rfl rfl (not_f hb244) rfl (dn (bcD (q := 2 ≤ p_x.Stage) (fun hb255 hb255p => ?_) (fun hb255 hb255p => ?_))))))))))
       ·refine CW.cond_t rfl hb255 (CW.region (sM rfl (sM rfl (sd rfl (yl_build (cs := [.int .i64 (2), .string (bs ((s_l25Entry p_t p_x p_a.New))), .string (bs (([] : Str))), .int .i64 (0)]) rfl (oc rfl (oc rfl oz)) (by kernel_rfl) (sd rfl (yl_buildSlice (cs := [.int .i64 (2), .string (bs ((s_l25Entry p_t p_x p_a.New))), .string (bs (([] : Str))), .int .i64 (0)]) un77 ty122 (by decide) rfl (oc rfl oz) (by kernel_rfl) ?_)))))))
        intro b256 w257 hs258 hz259 hB260 hE261
        have hO262 : OwnL w257 b256 (b256 + 1) 122 4 (RF e_Op) (some ⟨b256, 0, none⟩) 1 1 (Y0_20 p_t p_x p_a) := OwnL.of_box (S := fun _ => False) hB260 (Nat.le_refl _) (Nat.lt_succ_self _) (EncL.cons (c := [.int .i64 (2), .string (bs ((s_l25Entry p_t p_x p_a.New))), .string (bs (([] : Str))), .int .i64 (0)]) rfl rfl EncL.nil) (nb rfl) (fun h => h) (fun _ h => False.elim h)
        refine sd rfl (yl_appendL (S := (fun _ => False)) (lo := w231.heap.size) (hi := w239.heap.size) (xs := (([] : List DOp) ++ (Y1_20 p_t p_x p_a))) (ys := (Y0_20 p_t p_x p_a)) good_Op un77 ty122 rfl (nb rfl) rfl rfl rfl (OwnL.ex good_Op hO241 hE261) (EncL.cons (c := [.int .i64 (2), .string (bs ((s_l25Entry p_t p_x p_a.New))), .string (bs (([] : Str))), .int .i64 (0)]) rfl rfl EncL.nil) (Or.inr ⟨_, _, rfl, rfl, hB260.cells (o := 0) (n := 4) rfl⟩) rfl Bl Bl oM oM (fun _ h _ => False.elim h) oM ?_)
        intro A264 c265 w266 row267 hO268 hG269 hrg270
        have hG269z := hG269.size
        refine sA rfl (dn (cR (sM rfl (sA rfl (dn ?_)))))
        refine CW.ret (rr rfl (.cons rfl .nil) ?_)
        rw [show (s_l26Idx p_t p_x p_a) = (((([] : List DOp) ++ (Y1_20 p_t p_x p_a)) ++ (Y0_20 p_t p_x p_a))) by simp only [s_l26Idx, hb32, hb105, hb152, hb190, hb229, hb244, hb255, cL]]
        exact ⟨A264, c265, w231.heap.size, w266.heap.size, rfl, hO268, (okL.mk (xs := ((([] : List DOp) ++ (Y1_20 p_t p_x p_a)) ++ (Y0_20 p_t p_x p_a))) Bl (okE.append (okE.append okE.nil ((okL.mk (nb rfl) (okE.cons ⟨ho101, (okS.lit rfl)⟩ okE.nil))).2) ((okL.mk (nb rfl) (okE.cons ⟨ho149, (okS.lit rfl)⟩ okE.nil))).2)), oM, (Below.grown (Ex.trans y1 hE261) hG269 oM (hW hrg270))⟩
       ·refine CW.cond_f rfl hb255 (CW.skip (tn (cR (sM rfl (sA rfl (dn ?_))))))
        refine CW.ret (rr rfl (.cons rfl .nil) ?_)
        rw [show (s_l26Idx p_t p_x p_a) = ((([] : List DOp) ++ (Y1_20 p_t p_x p_a))) by simp only [s_l26Idx, hb32, hb105, hb152, hb190, hb229, hb244, hb255, cL]]
        exact ⟨A237, c238, w231.heap.size, w239.heap.size, rfl, hO241, (okL.mk (xs := (([] : List DOp) ++ (Y1_20 p_t p_x p_a))) Bl (okE.append okE.nil ((okL.mk (nb rfl) (okE.cons ⟨ho101, (okS.lit rfl)⟩ okE.nil))).2)), oM, y1⟩
     ·refine CW.cond_f rfl hb229 (CW.skip (tn (CW.seq (cR (sM rfl (sd rfl (yl_sneq (a := (s_l25Entry p_t p_x p_a.New)) (b := ([] : Str)) rfl rfl rfl (sM rfl ?_))))))))
      refine bcase ((s_l25Entry p_t p_x p_a.New) == ([] : Str)) (fun hb289 => ?_) (fun hb289 => ?_)
      ·refine sz rfl rfl (not_t hb289) (sz rfl rfl (not_t hb289) (sz rfl rfl (not_t hb289) (sd rfl (yl_pick_f rfl rfl (not_t hb289) rfl (dn (CW.cond_f rfl rfl (CW.skip (tn ?_))))))))
       refine cR (sM rfl (sA rfl (dn (CW.ret (rr rfl (.cons rfl .nil) ?_)))))
       rw [show (s_l26Idx p_t p_x p_a) = (([] : List DOp)) by simp only [s_l26Idx, hb32, hb105, hb152, hb190, hb229, hb289, cL]]
       exact ⟨none, 0, w148.heap.size, w148.heap.size, rfl, (OwnL.nil _ _ _ _ _ _), (okL.nil _), oM, (Ex.trans y0 hE151)⟩
      ·refine sy rfl rfl (not_f hb289) (yl_fieldAddr fd111_2 rfl rfl (sy rfl rfl (not_f hb289) (yl_load1 ty3 rfl rfl ((q228.cell 2).trans rfl) (sy rfl rfl (not_f hb289) (yl_geq rfl rfl rfl (sd rfl (yl_pick_t rfl rfl (not_f hb289) rfl (dn (bcD (q := 2 ≤ p_x.Stage) (fun hb296 hb296p => ?_) (fun hb296 hb296p => ?_))))))))))
       ·refine CW.cond_t rfl hb296 (CW.region (sM rfl (sM rfl (sd rfl (yl_build (cs := [.int .i64 (2), .string (bs ((s_l25Entry p_t p_x p_a.New))), .string (bs (([] : Str))), .int .i64 (0)]) rfl (oc rfl (oc rfl oz)) (by kernel_rfl) (sd rfl (yl_buildSlice (cs := [.int .i64 (2), .string (bs ((s_l25Entry p_t p_x p_a.New))), .string (bs (([] : Str))), .int .i64 (0)]) un77 ty122 (by decide) rfl (oc rfl oz) (by kernel_rfl) ?_)))))))
        intro b297 w298 hs299 hz300 hB301 hE302
        have hO303 : OwnL w298 b297 (b297 + 1) 122 4 (RF e_Op) (some ⟨b297, 0, none⟩) 1 1 (Y0_20 p_t p_x p_a) := OwnL.of_box (S := fun _ => False) hB301 (Nat.le_refl _) (Nat.lt_succ_self _) (EncL.cons (c := [.int .i64 (2), .string (bs ((s_l25Entry p_t p_x p_a.New))), .string (bs (([] : Str))), .int .i64 (0)]) rfl rfl EncL.nil) (nb rfl) (fun h => h) (fun _ h => False.elim h)
        refine sd rfl (yl_appendL (S := (fun _ => False)) (lo := w298.heap.size) (hi := w298.heap.size) (xs := ([] : List DOp)) (ys := (Y0_20 p_t p_x p_a)) good_Op un77 ty122 rfl (nb rfl) rfl rfl rfl (OwnL.nil w298 w298.heap.size w298.heap.size 122 4 (RF e_Op)) (EncL.cons (c := [.int .i64 (2), .string (bs ((s_l25Entry p_t p_x p_a.New))), .string (bs (([] : Str))), .int .i64 (0)]) rfl rfl EncL.nil) (Or.inr ⟨_, _, rfl, rfl, hB301.cells (o := 0) (n := 4) rfl⟩) rfl Bl Bl oM oM (fun _ h _ => False.elim h) oM ?_)
        intro A304 c305 w306 row307 hO308 hG309 hrg310
        have hG309z := hG309.size
        refine sA rfl (dn (cR (sM rfl (sA rfl (dn ?_)))))
        refine CW.ret (rr rfl (.cons rfl .nil) ?_)
        rw [show (s_l26Idx p_t p_x p_a) = ((([] : List DOp) ++ (Y0_20 p_t p_x p_a))) by simp only [s_l26Idx, hb32, hb105, hb152, hb190, hb229, hb289, hb296, cL]]
        exact ⟨A304, c305, w298.heap.size, w306.heap.size, rfl, hO308, (okL.mk (xs := (([] : List DOp) ++ (Y0_20 p_t p_x p_a))) Bl (okE.append okE.nil ((okL.mk (nb rfl) (okE.cons ⟨ho149, (okS.lit rfl)⟩ okE.nil))).2)), oM, (Below.grown (Ex.trans (Ex.trans y0 hE151) hE302) hG309 oM (hW hrg310))⟩
       ·refine CW.cond_f rfl hb296 (CW.skip (tn (cR (sM rfl (sA rfl (dn ?_))))))
        refine CW.ret (rr rfl (.cons rfl .nil) ?_)
        rw [show (s_l26Idx p_t p_x p_a) = (([] : List DOp)) by simp only [s_l26Idx, hb32, hb105, hb152, hb190, hb229, hb289, hb296, cL]]
        exact ⟨none, 0, w148.heap.size, w148.heap.size, rfl, (OwnL.nil _ _ _ _ _ _), (okL.nil _), oM, (Ex.trans y0 hE151)⟩
theorem c_s_l26Ops {A1 : Option Addr} {c1 : Nat} {A2 : Option Addr} {c2 : Nat} {A4 : Option Addr} {c4 : Nat} {A5 : Option Addr} {c5 : Nat} {w : World} (p_t : DTable) (p_a : DRowAct) (h1 : RdS w (Iv 0 w.heap.size) (RF e_Str) 1 A1 p_t.Cols.length c1 p_t.Cols) (h2 : RdS w (Iv 0 w.heap.size) (RF e_Idx) 3 A2 p_t.Idxs.length c2 p_t.Idxs) (h4 : RdS w (Iv 0 w.heap.size) (RF e_Str) 1 A4 p_a.Old.Vals.length c4 p_a.Old.Vals) (h5 : RdS w (Iv 0 w.heap.size) (RF e_Str) 1 A5 p_a.New.Vals.length c5 p_a.New.Vals) (o3 : ok_Table p_t) (o6 : ok_RowAct p_a) (pre0 : s_GoodTable p_t = true) (pre1 : actOf p_t p_a) : Cal Tryz.prog 42 #[.agg #[.string (bs (p_t.Name)), .slice A1 p_t.Cols.length c1, .slice A2 p_t.Idxs.length c2], .agg #[.int .i64 (p_a.Kind), .slice A4 p_a.Old.Vals.length c4, .slice A5 p_a.New.Vals.length c5]] w fun v w' => ∃ A_1 c_1 lo_1 hi_1, v = .slice A_1 ((s_l26Ops p_t p_a).length) c_1 ∧ OwnL w' lo_1 hi_1 122 4 (RF e_Op) A_1 ((s_l26Ops p_t p_a).length) c_1 (s_l26Ops p_t p_a) ∧ (okL ok_Op) (s_l26Ops p_t p_a) ∧ (w.heap.size ≤ lo_1 ∧ lo_1 ≤ hi_1 ∧ hi_1 ≤ w'.heap.size) ∧ Ex w w' := by
 have hol7 : p_t.Name.length ≤ 1073741824 := o3.1
 have hol8 := o3.2.1.1
 have hol9 := o3.2.2.1
 have hol10 := o6.1.1
 have hol11 := o6.2.1
 have hof := actOf_len pre0 pre1
 refine Cal.of func42 rfl ntmps42 rfl (cR (sd rfl (yl_box rfl rfl rfl ?_)))
 intro b12 w13 hs14 hz15 hB16 hE17
 refine sd rfl (yl_box rfl rfl rfl ?_)
 intro b18 w19 hs20 hz21 hB22 hE23
 refine sA rfl (dn (cR ?_))
 have q24 := Box.ex hB16 hE23
 refine sd rfl (yl_loadN ty39 rfl rfl (q24.cells (n := 3) rfl) rfl (sd rfl (yl_loadN ty44 rfl rfl (hB22.cells (n := 3) rfl) rfl ?_)))
 have q26 := RdS.ex gS (RdS.ex gS h1 hE17) hE23
 have q28 := RdS.ex gI (RdS.ex gI h2 hE17) hE23
 have q30 := RdS.ex gS (RdS.ex gS h4 hE17) hE23
 have q32 := RdS.ex gS (RdS.ex gS h5 hE17) hE23
 refine sd rfl (yC en74 rfl (oc rfl (oc rfl oz)) (Cal.mono (c_s_l26Head p_t p_a (RdS.up q26 gS) (RdS.up q28 gI) (RdS.up q30 gS) (RdS.up q32 gS) o3 o6 Bo Bo) ?_))
 rintro v36 w33 ⟨A34, c34, lo34, hi34, rfl, h34, ho35, hrn38, hE37⟩
 have hE37z := Ex.size hE37
 have hrf39 := rf_l26Head p_t p_a
 refine sA rfl (dn (CW.seq (cR (sd rfl (yl_fieldAddr fd39_2 rfl rfl ?_)))))
 have q40 := Box.ex q24 hE37
 refine sd rfl (yl_load1 ty37 rfl rfl ((q40.cell 2).trans rfl) (sd rfl (yL un37 rfl rfl (sM rfl (dn (CW.block (CW.loop (fun m107 L108 w109 => ∃ (k41 : Nat) (x103 : List DOp) (A104 : Option Addr) (c105 : Nat) (u106 : Nat), m107 = p_t.Idxs.length - k41 ∧ k41 ≤ p_t.Idxs.length ∧ w33.heap.size ≤ w109.heap.size ∧ Sub [(2, .pointer (some ⟨b12, 0, none⟩)), (3, .pointer (some ⟨b18, 0, none⟩)), (5, .slice A104 x103.length c105), (12, .slice A2 p_t.Idxs.length c2), (13, .int .i64 ((p_t.Idxs.length : Int))), (14, .int .i64 ((k41 : Int)))] L108 ∧ Box w109 b12 39 [.string (bs (p_t.Name)), .slice A1 p_t.Cols.length c1, .slice A2 p_t.Idxs.length c2] ∧ RdS w109 (Iv 0 w.heap.size) (RF e_Str) 1 A1 p_t.Cols.length c1 p_t.Cols ∧ RdS w109 (Iv 0 w.heap.size) (RF e_Idx) 3 A2 p_t.Idxs.length c2 p_t.Idxs ∧ Box w109 b18 44 [.int .i64 (p_a.Kind), .slice A4 p_a.Old.Vals.length c4, .slice A5 p_a.New.Vals.length c5] ∧ RdS w109 (Iv 0 w.heap.size) (RF e_Str) 1 A4 p_a.Old.Vals.length c4 p_a.Old.Vals ∧ RdS w109 (Iv 0 w.heap.size) (RF e_Str) 1 A5 p_a.New.Vals.length c5 p_a.New.Vals ∧ OwnL w109 lo34 u106 122 4 (RF e_Op) A104 x103.length c105 x103 ∧ Ex w w109 ∧ (lo34 ≤ u106 ∧ u106 ≤ w109.heap.size) ∧ x103.length ≤ (s_l26Head p_t p_a).length + 3 * (k41 - 0) ∧ (∀ y ∈ x103, ok_Op y) ∧ loopM (B_s_l26Ops_0 p_t p_a) (p_t.Idxs.length - k41) k41 (x103) = loopM (B_s_l26Ops_0 p_t p_a) (p_t.Idxs.length - 0) 0 ((s_l26Head p_t p_a))) (p_t.Idxs.length - 0) ?_ ?_)))))))
 ·exact ⟨0, (s_l26Head p_t p_a), A34, c34, hi34, rfl, oM, Nat.le_refl _, (sR rfl), q40, (RdS.ex gS q26 hE37), (RdS.ex gI q28 hE37), (Box.ex hB22 hE37), (RdS.ex gS q30 hE37), (RdS.ex gS q32 hE37), h34, (Ex.trans (Ex.trans (Ex.trans (Ex.refl w) hE17) hE23) hE37), oM, (by first | (simp; done) | (first | omega | (simp only [lN, toS_length]; omega))), (ho35).2, rfl⟩
 ·rintro m118 L119 w120 ⟨k41, x103, A104, c105, u106, rfl, hk121, hsz123, hl124, hf125, hf126, hf127, hf128, hf129, hf130, hf131, hf132, hu133, hln134, hok135, hI122⟩
  refine CW.sub hl124 ?_
  have hf125z := Box.lt hf125
  have hf128z := Box.lt hf128
  have hf132z := Ex.size hf132
  have hbg136 := RdS.big hf127
  rcases Nat.lt_or_ge k41 p_t.Idxs.length with hlt137 | hlt137
  ·have hrd := actOf_round pre0 pre1 hlt137
   refine cR (sd rfl (yl_lss rfl rfl rfl (dn (CW.seq (CW.cond_t rfl (lt_t hlt137) (CW.skip (tn ?_)))))))
   refine CW.seq (CW.block (cR ?_))
   obtain ⟨_, _, _, eA138, _, ebl138, _, eR138, eC138⟩ := RdS.aD hf127 d_Idx (i := k41)
   obtain rfl := eR138
   refine sd rfl (yl_ixN un37 ty111 rfl rfl rfl eA138 (sd rfl (yl_loadN ty111 rfl rfl eC138 rfl (sd rfl (yB ty111 (cs := [.string (bs (([] : Str))), .int .i64 (0), .int .i64 (0)]) rfl rfl ?_)))))
   intro b139 w140 hs141 hz142 hB143 hE144
   refine SeqR.u rfl rfl (yl_storeA (vs := [.string (bs ((p_t.Idxs.getD k41 d_Idx).Name)), .int .i64 ((p_t.Idxs.getD k41 d_Idx).Col), .int .i64 ((p_t.Idxs.getD k41 d_Idx).Stage)]) ty111 rfl rfl rfl rfl rfl rfl hB143 rfl ?_)
   intro w145 hB146 hO147
   have hO147z := hO147.size
   refine dn (CW.region (sM rfl ?_))
   have q149 := Box.only (Box.ex hf125 hE144) hO147 oM
   refine sd rfl (yl_loadN ty39 rfl rfl (q149.cells (n := 3) rfl) rfl (sd rfl (yl_loadN ty111 rfl rfl (hB146.cells (n := 3) rfl) rfl ?_)))
   have q151 := Box.only (Box.ex hf128 hE144) hO147 oM
   refine sd rfl (yl_loadN ty44 rfl rfl (q151.cells (n := 3) rfl) rfl ?_)
   have q153 := RdS.only gS (RdS.ex gS hf126 hE144) hO147 iV
   have q155 := RdS.only gI (RdS.ex gI hf127 hE144) hO147 iV
   have q157 := RdS.only gS (RdS.ex gS hf129 hE144) hO147 iV
   have q159 := RdS.only gS (RdS.ex gS hf130 hE144) hO147 iV
   refine sd rfl (yC en75 rfl (oc rfl (oc rfl (oc rfl oz))) (Cal.mono (c_s_l26Idx p_t (p_t.Idxs.getD k41 d_Idx) p_a (RdS.up q153 gS) (RdS.up q155 gI) (RdS.up q157 gS) (RdS.up q159 gS) o3 (okL.getD o3.2.2 ok_d_Idx _) o6 Bo Bo Bo) ?_))
   rintro v163 w160 ⟨A161, c161, lo161, hi161, rfl, h161, ho162, hrn165, hE164⟩
   have hE164z := Ex.size hE164
   have hrf166 := rf_l26Idx p_t (p_t.Idxs.getD k41 d_Idx) p_a
   obtain ⟨nw171, he172, hs173⟩ := RdS.src (OwnL.rd good_Op h161)
   have hol174 : (s_l26Idx p_t (p_t.Idxs.getD k41 d_Idx) p_a).length ≤ 2147483648 := ho162.1
   refine sd rfl (yl_appendL (S := (fun _ => False)) (lo := lo34) (hi := u106) (xs := x103) (ys := (s_l26Idx p_t (p_t.Idxs.getD k41 d_Idx) p_a)) good_Op un77 ty122 rfl (nb rfl) rfl rfl rfl (OwnL.ex good_Op (OwnL.only good_Op (OwnL.ex good_Op hf131 hE144) hO147 oM) hE164) he172 hs173 rfl Bl Bl oM oM (fun _ h _ => False.elim h) oM ?_)
   intro A175 c176 w177 row178 hO179 hG180 hrg181
   have hG180z := hG180.size
   refine sA rfl (SeqR.done (bn (tn (CW.region (sd rfl (yl_inc rfl rfl rfl oM (sM rfl (dn ?_))))))))
   have hB182 : B_s_l26Ops_0 p_t p_a k41 (x103) = .cont ((x103 ++ (s_l26Idx p_t (p_t.Idxs.getD k41 d_Idx) p_a))) := by simp only [B_s_l26Ops_0, cL]
   exact ⟨p_t.Idxs.length - (k41 + 1), oM, k41 + 1, (x103 ++ (s_l26Idx p_t (p_t.Idxs.getD k41 d_Idx) p_a)), A175, c176, w177.heap.size, rfl, hlt137, oM, (sR rfl), (Box.grown (Box.ex q149 hE164) hG180 (hW hrg181)), (RdS.grown gS (RdS.ex gS q153 hE164) hG180 (hV hrg181)), (RdS.grown gI (RdS.ex gI q155 hE164) hG180 (hV hrg181)), (Box.grown (Box.ex q151 hE164) hG180 (hW hrg181)), (RdS.grown gS (RdS.ex gS q157 hE164) hG180 (hV hrg181)), (RdS.grown gS (RdS.ex gS q159 hE164) hG180 (hV hrg181)), hO179, (Below.grown (Ex.trans (Below.only (Ex.trans hf132 hE144) hO147 oM) hE164) hG180 oM (hW hrg181)), oM, Bl, (okE.append hok135 (ho162).2), (loopM.cont hlt137 hB182).symm.trans hI122⟩
  ·refine cR (sd rfl (yl_lss rfl rfl rfl (dn (CW.seq (CW.cond_f rfl (lt_f hlt137) (CW.exit (tx ?_)))))))
   refine tx ?_
   have hL199 : loopM (B_s_l26Ops_0 p_t p_a) (p_t.Idxs.length - 0) 0 ((s_l26Head p_t p_a)) = .done (x103) := hI122.symm.trans (loopM.stop hlt137)
   refine bx (tn (cR (sM rfl (sA rfl (dn (CW.ret ?_))))))
   refine rr rfl (.cons rfl .nil) ?_
   rw [show (s_l26Ops p_t p_a) = (x103) by simp only [s_l26Ops, hL199, cL]]
   exact ⟨A104, c105, lo34, u106, rfl, hf131, (okL.mk (xs := x103) Bl hok135), oM, hf132⟩
theorem c_s_DoAct {A1 : Option Addr} {c1 : Nat} {A2 : Option Addr} {c2 : Nat} {A4 : Option Addr} {c4 : Nat} {A6 : Option Addr} {c6 : Nat} {A7 : Option Addr} {c7 : Nat} {w : World} (p_t : DTable) (ps : List DWrite) (p_a : DRowAct) (h1 : RdS w (Iv 0 w.heap.size) (RF e_Str) 1 A1 p_t.Cols.length c1 p_t.Cols) (h2 : RdS w (Iv 0 w.heap.size) (RF e_Idx) 3 A2 p_t.Idxs.length c2 p_t.Idxs) (h4 : RdS w (Iv 0 w.heap.size) (RF e_Write) 3 A4 ps.length c4 ps) (h6 : RdS w (Iv 0 w.heap.size) (RF e_Str) 1 A6 p_a.Old.Vals.length c6 p_a.Old.Vals) (h7 : RdS w (Iv 0 w.heap.size) (RF e_Str) 1 A7 p_a.New.Vals.length c7 p_a.New.Vals) (o3 : ok_Table p_t) (o5 : (okL ok_Write) ps) (o8 : ok_RowAct p_a) : Cal Tryz.prog 10 #[.agg #[.string (bs (p_t.Name)), .slice A1 p_t.Cols.length c1, .slice A2 p_t.Idxs.length c2], .slice A4 ps.length c4, .agg #[.int .i64 (p_a.Kind), .slice A6 p_a.Old.Vals.length c6, .slice A7 p_a.New.Vals.length c7]] w fun v w' => ∃ A_1 c_1 lo_1 hi_1, v = .tuple #[.slice A_1 (((s_DoAct p_t ps p_a).1).length) c_1, .bool ((s_DoAct p_t ps p_a).2.1), .bool ((s_DoAct p_t ps p_a).2.2)] ∧ OwnL w' lo_1 hi_1 80 3 (RF e_Write) A_1 (((s_DoAct p_t ps p_a).1).length) c_1 ((s_DoAct p_t ps p_a).1) ∧ (okL ok_Write) ((s_DoAct p_t ps p_a).1) ∧ (w.heap.size ≤ lo_1 ∧ lo_1 ≤ hi_1 ∧ hi_1 ≤ w'.heap.size) ∧ Ex w w' := by
 have hol9 : p_t.Name.length ≤ 1073741824 := o3.1
 have hol10 := o3.2.1.1
 have hol11 := o3.2.2.1
 have hol12 := o5.1
 have hol13 := o8.1.1
 have hol14 := o8.2.1
 refine Cal.of func10 rfl ntmps10 rfl (cR (sd rfl (yl_box rfl rfl rfl ?_)))
 intro b15 w16 hs17 hz18 hB19 hE20
 refine sd rfl (yl_box rfl rfl rfl ?_)
 intro b21 w22 hs23 hz24 hB25 hE26
 refine sA rfl (sA rfl (sA rfl (dn (CW.seq (cR ?_)))))
 have q27 := Box.ex hB19 hE26
 refine sd rfl (yl_loadN ty39 rfl rfl (q27.cells (n := 3) rfl) rfl (sd rfl (yl_loadN ty44 rfl rfl (hB25.cells (n := 3) rfl) rfl ?_)))
 have q29 := RdS.ex gS (RdS.ex gS h1 hE20) hE26
 have q31 := RdS.ex gI (RdS.ex gI h2 hE20) hE26
 have q33 := RdS.ex gS (RdS.ex gS h6 hE20) hE26
 have q35 := RdS.ex gS (RdS.ex gS h7 hE20) hE26
 refine sd rfl (yC en39 rfl (oc rfl (oc rfl oz)) (Cal.mono (c_s_GoodAct p_t p_a (RdS.up q29 gS) (RdS.up q31 gI) (RdS.up q33 gS) (RdS.up q35 gS) o3 o8) ?_))
 rintro v37 w36 ⟨rfl, hE38⟩
 have hE38z := Ex.size hE38
 refine sd rfl (yl_not rfl rfl (sM rfl (bcase (s_GoodAct p_t p_a) (fun hb39 => ?_) (fun hb39 => ?_))))
 ·refine sy rfl rfl (not_t hb39) (yM rfl rfl ?_)
  have q42 := RdS.ex gW (RdS.ex gW (RdS.ex gW h4 hE20) hE26) hE38
  refine sy rfl rfl (not_t hb39) (yC en40 rfl (oc rfl oz) (Cal.mono (c_s_l5Rows ps (RdS.up q42 gW) o5) ?_))
  rintro v44 w43 ⟨rfl, hE45⟩
  have hE45z := Ex.size hE45
  refine sy rfl rfl (not_t hb39) (yl_not rfl rfl (sd rfl (yl_pick_f rfl rfl (not_t hb39) rfl (dn (bcase (s_l5Rows ps) (fun hb46 => ?_) (fun hb46 => ?_))))))
  ·have hb46p := l5Rows_len hb46
   refine CW.cond_f rfl (not_t hb46) (CW.skip (tn (cR (sM rfl (sd rfl (yl_loadN ty39 rfl rfl ((Box.ex (Box.ex q27 hE38) hE45).cells (n := 3) rfl) rfl (sd rfl (yl_loadN ty44 rfl rfl ((Box.ex (Box.ex hB25 hE38) hE45).cells (n := 3) rfl) rfl (sd rfl (yC en42 rfl (oc rfl (oc rfl oz)) (Cal.mono (c_s_l26Ops p_t p_a (RdS.up (RdS.ex gS (RdS.ex gS q29 hE38) hE45) gS) (RdS.up (RdS.ex gI (RdS.ex gI q31 hE38) hE45) gI) (RdS.up (RdS.ex gS (RdS.ex gS q33 hE38) hE45) gS) (RdS.up (RdS.ex gS (RdS.ex gS q35 hE38) hE45) gS) o3 o8 (f_s_GoodAct hb39).1 (f_s_GoodAct hb39).2) ?_)))))))))))
   rintro v62 w59 ⟨A60, c60, lo60, hi60, rfl, h60, ho61, hrn64, hE63⟩
   have hE63z := Ex.size hE63
   refine sd rfl (yC en41 rfl (oc rfl (oc rfl oz)) (Cal.mono (c_s_l26Do ps (s_l26Ops p_t p_a) (RdS.up (RdS.ex gW (RdS.ex gW q42 hE45) hE63) gW) (RdS.up (OwnL.rd good_Op h60) good_Op) o5 ho61 (len_l26Ops hb39) (noadd_l26Ops hb39)) ?_))
   rintro v71 w68 ⟨A69, c69, lo69, hi69, rfl, h69, ho70, hrn73, hE72⟩
   have hE72z := Ex.size hE72
   refine sM rfl (sd rfl (yl_extract rfl rfl rfl (sd rfl (yl_extract rfl rfl rfl (sA rfl (sA rfl (dn (cR ?_))))))))
   refine sM rfl (sM rfl (sA rfl (sA rfl (sA rfl (dn (CW.ret (rr rfl (.cons rfl (.cons rfl (.cons rfl .nil))) ?_)))))))
   rw [show (s_DoAct p_t ps p_a) = (((s_l26Do ps (s_l26Ops p_t p_a)).1, (s_l26Do ps (s_l26Ops p_t p_a)).2, true)) by simp only [s_DoAct, hb39, hb46, cL]]
   exact ⟨A69, c69, lo69, hi69, rfl, h69, ho70, oM, (Ex.trans (Ex.trans (Ex.trans (Ex.trans (Ex.trans (Ex.trans (Ex.refl w) hE20) hE26) hE38) hE45) hE63) hE72)⟩
  ·refine CW.cond_t rfl (not_f hb46) (cR (sA rfl (sA rfl (sA rfl (dn (CW.ret ?_))))))
   refine tr (rr rfl (.cons rfl (.cons rfl (.cons rfl .nil))) ?_)
   rw [show (s_DoAct p_t ps p_a) = ((([] : List DWrite), false, false)) by simp only [s_DoAct, hb39, hb46, cL]]
   exact ⟨none, 0, w43.heap.size, w43.heap.size, rfl, (OwnL.nil _ _ _ _ _ _), (okL.nil _), oM, (Ex.trans (Ex.trans (Ex.trans (Ex.trans (Ex.refl w) hE20) hE26) hE38) hE45)⟩
 ·refine sz rfl rfl (not_f hb39) (sz rfl rfl (not_f hb39) (sz rfl rfl (not_f hb39) (sd rfl (yl_pick_t rfl rfl (not_f hb39) rfl (dn (CW.cond_t rfl rfl (cR ?_)))))))
  refine sA rfl (sA rfl (sA rfl (dn (CW.ret (tr (rr rfl (.cons rfl (.cons rfl (.cons rfl .nil))) ?_))))))
  rw [show (s_DoAct p_t ps p_a) = ((([] : List DWrite), false, false)) by simp only [s_DoAct, hb39, cL]]
  exact ⟨none, 0, w36.heap.size, w36.heap.size, rfl, (OwnL.nil _ _ _ _ _ _), (okL.nil _), oM, (Ex.trans (Ex.trans (Ex.trans (Ex.refl w) hE20) hE26) hE38)⟩
theorem c_l_toStringS {A1 : Option Addr} {c1 : Nat} {w : World} (p_a : List Str) (h1 : RdS w (Iv 0 w.heap.size) (RF e_Str) 1 A1 p_a.length c1 p_a) (o2 : (okL okS) p_a) : Cal Tryz.prog 31 #[.slice A1 p_a.length c1] w fun v w' => ∃ A_1 c_1 lo_1 hi_1, v = .slice A_1 p_a.length c_1 ∧ OwnL w' lo_1 hi_1 9 1 (RF e_Str) A_1 p_a.length c_1 p_a ∧ (w.heap.size ≤ lo_1 ∧ lo_1 ≤ hi_1 ∧ hi_1 ≤ w'.heap.size) ∧ Ex w w' := by
 have hol3 := o2.1
 refine Cal.of func31 rfl ntmps31 rfl (cR (sA rfl (dn (cR (sM rfl ?_)))))
 refine sd rfl (yL un22 rfl rfl (sd rfl (yl_make (zs := [.string (bs (([] : Str)))]) (n := p_a.length) un22 ty9 rfl rfl (nb rfl) rfl rfl rfl Bo Bo ?_)))
 intro b4 w5 hs6 hz7 hB8 hE9
 have hO10 : OwnL w5 b4 (b4 + 1) 9 1 (RF e_Str) (some ⟨b4, 0, none⟩) p_a.length p_a.length (List.replicate p_a.length d_Str) := by have := OwnL.of_boxF (lo := b4) (hi := b4 + 1) (xs := (List.replicate p_a.length d_Str)) hB8 (Nat.le_refl _) (Nat.lt_succ_self _) (EncL.zerosF (enc := e_Str) (d := d_Str) rfl p_a.length) (by rw [List.length_replicate]; omega); rwa [List.length_replicate] at this
 refine sA rfl (dn (CW.seq (cR (sA rfl (dn ?_)))))
 refine CW.block (CW.loop (fun m20 L21 w22 => ∃ (k11 : Nat) (x19 : List Str), m20 = p_a.length - k11 ∧ k11 ≤ p_a.length ∧ w5.heap.size ≤ w22.heap.size ∧ Sub [(0, .slice A1 p_a.length c1), (3, .slice (some ⟨b4, 0, none⟩) p_a.length p_a.length), (4, .int .i64 ((k11 : Int)))] L21 ∧ RdS w22 (Iv 0 w.heap.size) (RF e_Str) 1 A1 p_a.length c1 p_a ∧ OwnL w22 b4 (b4 + 1) 9 1 (RF e_Str) (some ⟨b4, 0, none⟩) p_a.length p_a.length x19 ∧ Ex w w22 ∧ loopM (B_l_toStringS_0 p_a) (p_a.length - k11) k11 (x19) = loopM (B_l_toStringS_0 p_a) (p_a.length - 0) 0 ((List.replicate p_a.length d_Str))) (p_a.length - 0) ?_ ?_)
 ·exact ⟨0, (List.replicate p_a.length d_Str), rfl, oM, Nat.le_refl _, (sR rfl), (RdS.ex gS h1 hE9), hO10, (Ex.trans (Ex.refl w) hE9), rfl⟩
 ·rintro m25 L26 w27 ⟨k11, x19, rfl, hk28, hsz30, hl31, hf32, hf33, hf34, hI29⟩
  refine CW.sub hl31 ?_
  have hf34z := Ex.size hf34
  have hbg35 := RdS.big hf32
  rcases Nat.lt_or_ge k11 p_a.length with hlt36 | hlt36
  ·refine CW.seq (cR (sM rfl (sM rfl (sd rfl (yL un22 rfl rfl (sd rfl (yl_lss rfl rfl rfl (dn ?_))))))))
   refine CW.cond_t rfl (lt_t hlt36) (CW.skip (tn (CW.seq (CW.block (CW.region (sM rfl (sM rfl (sM rfl ?_))))))))
   refine sM rfl ?_
   obtain ⟨_, _, _, eA37, _, ebl37, _, eR37, eC37⟩ := RdS.aD hf32 d_Str (i := k11)
   obtain rfl := eR37
   refine sd rfl (yl_ixN un22 ty9 rfl rfl rfl eA37 (sd rfl (yl_load1 ty9 rfl rfl (eC37 0 _ rfl) ?_)))
   obtain ⟨eb39, eo39, _, eA39, _, ebl39, _, eR39, _⟩ := RdS.aD (OwnL.rd gS hf33) d_Str (i := k11)
   obtain rfl := eR39
   refine sd rfl (yl_ixN un22 ty9 rfl rfl rfl eA39 ?_)
   have hrg40 := OwnL.rng hf33 (i := k11) Bo eb39 (by rw [eA39]; rfl)
   refine SeqR.u rfl rfl (yl_storeF (off := eo39) (i := k11) (d := 0) (dx := d_Str) (x' := (p_a.getD k11 d_Str)) (vs := [.string (bs ((p_a.getD k11 d_Str)))]) ty9 rfl hf33 eA39 rfl rfl rfl rfl rfl Bo (nb rfl) rfl rfl ?_)
   intro w41 hB42 hO43
   have hO43z := hO43.size
   refine SeqR.done (bn (tn (CW.region (sM rfl (sd rfl (yl_inc rfl rfl rfl oM (sA rfl (dn ?_))))))))
   have hB44 : B_l_toStringS_0 p_a k11 (x19) = .cont ((x19.set k11 (p_a.getD k11 d_Str))) := by simp only [B_l_toStringS_0, cL]
   exact ⟨p_a.length - (k11 + 1), oM, k11 + 1, (x19.set k11 (p_a.getD k11 d_Str)), rfl, hlt36, oM, (sR rfl), (RdS.only gS hf32 hO43 iV), hB42, (Below.only hf34 hO43 oM), (loopM.cont hlt36 hB44).symm.trans hI29⟩
  ·refine CW.seq (cR (sM rfl (sM rfl (sd rfl (yL un22 rfl rfl (sd rfl (yl_lss rfl rfl rfl (dn ?_))))))))
   refine CW.cond_f rfl (lt_f hlt36) (CW.exit (tx (tx ?_)))
   have hL47 : loopM (B_l_toStringS_0 p_a) (p_a.length - 0) 0 ((List.replicate p_a.length d_Str)) = .done (x19) := hI29.symm.trans (loopM.stop hlt36)
   refine bx (tn (cR (sM rfl (sA rfl (dn (CW.ret ?_))))))
   refine rr rfl (.cons rfl .nil) ?_
   have hM48 : p_a = (x19) := (to_StringS _).symm.trans <| by simp only [l_toStringS, hL47, cL]
   subst hM48
   exact ⟨(some ⟨b4, 0, none⟩), p_a.length, b4, (b4 + 1), rfl, hf33, oM, hf34⟩
theorem c_l_toIdx {w : World} (p_a : DIdx) (o1 : ok_Idx p_a) : Cal Tryz.prog 76 #[.agg #[.string (bs (p_a.Name)), .int .i64 (p_a.Col), .int .i64 (p_a.Stage)]] w fun v w' => v = .agg #[.string (bs (p_a.Name)), .int .i64 (p_a.Col), .int .i64 (p_a.Stage)] ∧ Ex w w' := by
 have hol2 : p_a.Name.length ≤ 1073741824 := o1
 refine Cal.of func76 rfl ntmps76 rfl (cR (sd rfl (yl_box rfl rfl rfl ?_)))
 intro b3 w4 hs5 hz6 hB7 hE8
 refine sd rfl (yB ty111 (cs := [.string (bs (([] : Str))), .int .i64 (0), .int .i64 (0)]) rfl rfl ?_)
 intro b9 w10 hs11 hz12 hB13 hE14
 refine dn (cR (sd rfl (yB ty111 (cs := [.string (bs (([] : Str))), .int .i64 (0), .int .i64 (0)]) rfl rfl ?_)))
 intro b15 w16 hs17 hz18 hB19 hE20
 refine dn (cR (sd rfl (yl_fieldAddr fd106_0 rfl rfl ?_)))
 have q22 := Box.ex (Box.ex hB7 hE14) hE20
 refine sd rfl (yl_load1 ty9 rfl rfl ((q22.cell 0).trans rfl) (sd rfl (yl_fieldAddr fd111_0 rfl rfl (SeqR.u rfl rfl (yl_store (vs := [.string (bs (p_a.Name))]) ty9 rfl rfl rfl rfl rfl rfl hB19 (nb rfl) ?_)))))
 intro w23 hB24 hO25
 have hB24 : Box w23 b15 111 [.string (bs (p_a.Name)), .int .i64 (0), .int .i64 (0)] := hB24
 have hO25z := hO25.size
 refine dn (cR (sd rfl (yl_fieldAddr fd106_1 rfl rfl ?_)))
 have q26 := Box.only q22 hO25 oM
 refine sd rfl (yl_load1 ty3 rfl rfl ((q26.cell 1).trans rfl) (sd rfl (yl_fieldAddr fd111_1 rfl rfl (SeqR.u rfl rfl (yl_store (vs := [.int .i64 (p_a.Col)]) ty3 rfl rfl rfl rfl rfl rfl hB24 (nb rfl) ?_)))))
 intro w27 hB28 hO29
 have hB28 : Box w27 b15 111 [.string (bs (p_a.Name)), .int .i64 (p_a.Col), .int .i64 (0)] := hB28
 have hO29z := hO29.size
 refine dn (cR (sd rfl (yl_fieldAddr fd106_2 rfl rfl (sd rfl (yl_load1 ty3 rfl rfl (((Box.only q26 hO29 oM).cell 2).trans rfl) (sd rfl (yl_fieldAddr fd111_2 rfl rfl (SeqR.u rfl rfl (yl_store (vs := [.int .i64 (p_a.Stage)]) ty3 rfl rfl rfl rfl rfl rfl hB28 (nb rfl) ?_)))))))))
 intro w31 hB32 hO33
 have hB32 : Box w31 b15 111 [.string (bs (p_a.Name)), .int .i64 (p_a.Col), .int .i64 (p_a.Stage)] := hB32
 have hO33z := hO33.size
 refine dn (cR (sd rfl (yl_loadN ty111 rfl rfl (hB32.cells (n := 3) rfl) rfl (SeqR.u rfl rfl (yl_storeA (vs := [.string (bs (p_a.Name)), .int .i64 (p_a.Col), .int .i64 (p_a.Stage)]) ty111 rfl rfl rfl rfl rfl rfl (Box.only (Box.only (Box.only (Box.ex hB13 hE20) hO25 oM) hO29 oM) hO33 oM) rfl ?_)))))
 intro w38 hB39 hO40
 have hO40z := hO40.size
 refine dn (CW.ret (rr rfl (.cons ⟨_, rfl, run_loadN ty111 (cs := [.string (bs (p_a.Name)), .int .i64 (p_a.Col), .int .i64 (p_a.Stage)]) rfl (hB39.cells (n := 3) rfl)⟩ .nil) ?_))
 have hM41 : p_a = (p_a) := (to_Idx _).symm.trans <| by simp only [l_toIdx, cL]
 rw [hM41]
 exact ⟨rfl, (Below.only (Below.only (Below.only (Below.only (Ex.trans (Ex.trans (Ex.trans (Ex.refl w) hE8) hE14) hE20) hO25 oM) hO29 oM) hO33 oM) hO40 oM)⟩
theorem c_l_toIdxS {A1 : Option Addr} {c1 : Nat} {w : World} (p_a : List DIdx) (h1 : RdS w (Iv 0 w.heap.size) (RF e_Idx) 3 A1 p_a.length c1 p_a) (o2 : (okL ok_Idx) p_a) : Cal Tryz.prog 43 #[.slice A1 p_a.length c1] w fun v w' => ∃ A_1 c_1 lo_1 hi_1, v = .slice A_1 p_a.length c_1 ∧ OwnL w' lo_1 hi_1 111 3 (RF e_Idx) A_1 p_a.length c_1 p_a ∧ (w.heap.size ≤ lo_1 ∧ lo_1 ≤ hi_1 ∧ hi_1 ≤ w'.heap.size) ∧ Ex w w' := by
 have hol3 := o2.1
 refine Cal.of func43 rfl ntmps43 rfl (cR (sA rfl (dn (cR (sM rfl ?_)))))
 refine sd rfl (yL un23 rfl rfl (sd rfl (yl_make (zs := [.string (bs (([] : Str))), .int .i64 (0), .int .i64 (0)]) (n := p_a.length) un37 ty111 rfl rfl (nb rfl) rfl rfl rfl Bo Bo ?_)))
 intro b4 w5 hs6 hz7 hB8 hE9
 have hO10 : OwnL w5 b4 (b4 + 1) 111 3 (RF e_Idx) (some ⟨b4, 0, none⟩) p_a.length p_a.length (List.replicate p_a.length d_Idx) := by have := OwnL.of_boxF (lo := b4) (hi := b4 + 1) (xs := (List.replicate p_a.length d_Idx)) hB8 (Nat.le_refl _) (Nat.lt_succ_self _) (EncL.zerosF (enc := e_Idx) (d := d_Idx) rfl p_a.length) (by rw [List.length_replicate]; omega); rwa [List.length_replicate] at this
 refine sA rfl (dn (CW.seq (cR (sA rfl (dn ?_)))))
 refine CW.block (CW.loop (fun m23 L24 w25 => ∃ (k11 : Nat) (x22 : List DIdx), m23 = p_a.length - k11 ∧ k11 ≤ p_a.length ∧ w5.heap.size ≤ w25.heap.size ∧ Sub [(0, .slice A1 p_a.length c1), (3, .slice (some ⟨b4, 0, none⟩) p_a.length p_a.length), (4, .int .i64 ((k11 : Int)))] L24 ∧ RdS w25 (Iv 0 w.heap.size) (RF e_Idx) 3 A1 p_a.length c1 p_a ∧ OwnL w25 b4 (b4 + 1) 111 3 (RF e_Idx) (some ⟨b4, 0, none⟩) p_a.length p_a.length x22 ∧ Ex w w25 ∧ loopM (B_l_toIdxS_0 p_a) (p_a.length - k11) k11 (x22) = loopM (B_l_toIdxS_0 p_a) (p_a.length - 0) 0 ((List.replicate p_a.length d_Idx))) (p_a.length - 0) ?_ ?_)
 ·exact ⟨0, (List.replicate p_a.length d_Idx), rfl, oM, Nat.le_refl _, (sR rfl), (RdS.ex gI h1 hE9), hO10, (Ex.trans (Ex.refl w) hE9), rfl⟩
 ·rintro m28 L29 w30 ⟨k11, x22, rfl, hk31, hsz33, hl34, hf35, hf36, hf37, hI32⟩
  refine CW.sub hl34 ?_
  have hf37z := Ex.size hf37
  have hbg38 := RdS.big hf35
  rcases Nat.lt_or_ge k11 p_a.length with hlt39 | hlt39
  ·refine CW.seq (cR (sM rfl (sM rfl (sd rfl (yL un23 rfl rfl (sd rfl (yl_lss rfl rfl rfl (dn ?_))))))))
   refine CW.cond_t rfl (lt_t hlt39) (CW.skip (tn (CW.seq (CW.block (CW.region (sM rfl (sM rfl (sM rfl ?_))))))))
   refine sM rfl ?_
   obtain ⟨_, _, _, eA40, _, ebl40, _, eR40, eC40⟩ := RdS.aD hf35 d_Idx (i := k11)
   obtain rfl := eR40
   refine sd rfl (yl_ixN un23 ty106 rfl rfl rfl eA40 (sd rfl (yl_loadN ty106 rfl rfl eC40 rfl (sd rfl (yC en76 rfl (oc rfl oz) (Cal.mono (c_l_toIdx (p_a.getD k11 d_Idx) (okL.getD o2 ok_d_Idx _)) ?_))))))
   rintro v42 w41 ⟨rfl, hE43⟩
   have hE43z := Ex.size hE43
   have q45 := OwnL.ex gI hf36 hE43
   obtain ⟨eb46, eo46, _, eA46, _, ebl46, _, eR46, _⟩ := RdS.aD (OwnL.rd gI q45) d_Idx (i := k11)
   obtain rfl := eR46
   refine sd rfl (yl_ixN un37 ty111 rfl rfl rfl eA46 ?_)
   have hrg47 := OwnL.rng q45 (i := k11) Bo eb46 (by rw [eA46]; rfl)
   refine SeqR.u rfl rfl (yl_storeF (off := eo46) (i := k11) (d := 0) (dx := d_Idx) (x' := (p_a.getD k11 d_Idx)) (vs := [.string (bs ((p_a.getD k11 d_Idx).Name)), .int .i64 ((p_a.getD k11 d_Idx).Col), .int .i64 ((p_a.getD k11 d_Idx).Stage)]) ty111 rfl q45 eA46 rfl rfl rfl rfl rfl Bo (nb rfl) rfl rfl ?_)
   intro w48 hB49 hO50
   have hO50z := hO50.size
   refine SeqR.done (bn (tn (CW.region (sM rfl (sd rfl (yl_inc rfl rfl rfl oM (sA rfl (dn ?_))))))))
   have hB51 : B_l_toIdxS_0 p_a k11 (x22) = .cont ((x22.set k11 (p_a.getD k11 d_Idx))) := by simp only [B_l_toIdxS_0, cL]
   exact ⟨p_a.length - (k11 + 1), oM, k11 + 1, (x22.set k11 (p_a.getD k11 d_Idx)), rfl, hlt39, oM, (sR rfl), (RdS.only gI (RdS.ex gI hf35 hE43) hO50 iV), hB49, (Below.only (Ex.trans hf37 hE43) hO50 oM), (loopM.cont hlt39 hB51).symm.trans hI32⟩
  ·refine CW.seq (cR (sM rfl (sM rfl (sd rfl (yL un23 rfl rfl (sd rfl (yl_lss rfl rfl rfl (dn ?_))))))))
   refine CW.cond_f rfl (lt_f hlt39) (CW.exit (tx (tx ?_)))
   have hL56 : loopM (B_l_toIdxS_0 p_a) (p_a.length - 0) 0 ((List.replicate p_a.length d_Idx)) = .done (x22) := hI32.symm.trans (loopM.stop hlt39)
   refine bx (tn (cR (sM rfl (sA rfl (dn (CW.ret ?_))))))
   refine rr rfl (.cons rfl .nil) ?_
   have hM57 : p_a = (x22) := (to_IdxS _).symm.trans <| by simp only [l_toIdxS, hL56, cL]
   subst hM57
   exact ⟨(some ⟨b4, 0, none⟩), p_a.length, b4, (b4 + 1), rfl, hf36, oM, hf37⟩
theorem c_l_toTable {A1 : Option Addr} {c1 : Nat} {A2 : Option Addr} {c2 : Nat} {w : World} (p_a : DTable) (h1 : RdS w (Iv 0 w.heap.size) (RF e_Str) 1 A1 p_a.Cols.length c1 p_a.Cols) (h2 : RdS w (Iv 0 w.heap.size) (RF e_Idx) 3 A2 p_a.Idxs.length c2 p_a.Idxs) (o3 : ok_Table p_a) : Cal Tryz.prog 11 #[.agg #[.string (bs (p_a.Name)), .slice A1 p_a.Cols.length c1, .slice A2 p_a.Idxs.length c2]] w fun v w' => ∃ A_1 c_1 lo_1 hi_1 A_2 c_2 lo_2 hi_2, v = .agg #[.string (bs (p_a.Name)), .slice A_1 p_a.Cols.length c_1, .slice A_2 p_a.Idxs.length c_2] ∧ OwnL w' lo_1 hi_1 9 1 (RF e_Str) A_1 p_a.Cols.length c_1 p_a.Cols ∧ OwnL w' lo_2 hi_2 111 3 (RF e_Idx) A_2 p_a.Idxs.length c_2 p_a.Idxs ∧ (w.heap.size ≤ lo_1 ∧ lo_1 ≤ hi_1 ∧ hi_1 ≤ w'.heap.size) ∧ (w.heap.size ≤ lo_2 ∧ lo_2 ≤ hi_2 ∧ hi_2 ≤ w'.heap.size) ∧ (hi_1 ≤ lo_2 ∨ hi_2 ≤ lo_1) ∧ Ex w w' := by
 have hol4 : p_a.Name.length ≤ 1073741824 := o3.1
 have hol5 := o3.2.1.1
 have hol6 := o3.2.2.1
 refine Cal.of func11 rfl ntmps11 rfl (cR (sd rfl (yl_box rfl rfl rfl ?_)))
 intro b7 w8 hs9 hz10 hB11 hE12
 refine sd rfl (yB ty39 (cs := [.string (bs (([] : Str))), .slice none 0 0, .slice none 0 0]) rfl rfl ?_)
 intro b13 w14 hs15 hz16 hB17 hE18
 refine dn (cR (sd rfl (yB ty39 (cs := [.string (bs (([] : Str))), .slice none 0 0, .slice none 0 0]) rfl rfl ?_)))
 intro b19 w20 hs21 hz22 hB23 hE24
 refine dn (cR (sd rfl (yl_fieldAddr fd25_0 rfl rfl ?_)))
 have q26 := Box.ex (Box.ex hB11 hE18) hE24
 refine sd rfl (yl_load1 ty9 rfl rfl ((q26.cell 0).trans rfl) (sd rfl (yl_fieldAddr fd39_0 rfl rfl (SeqR.u rfl rfl (yl_store (vs := [.string (bs (p_a.Name))]) ty9 rfl rfl rfl rfl rfl rfl hB23 (nb rfl) ?_)))))
 intro w27 hB28 hO29
 have hB28 : Box w27 b19 39 [.string (bs (p_a.Name)), .slice none 0 0, .slice none 0 0] := hB28
 have hO29z := hO29.size
 refine dn (cR (sd rfl (yl_fieldAddr fd25_1 rfl rfl ?_)))
 have q30 := Box.only q26 hO29 oM
 refine sd rfl (yl_load1 ty22 rfl rfl ((q30.cell 1).trans rfl) (sd rfl (yC en31 rfl (oc rfl oz) (Cal.mono (c_l_toStringS p_a.Cols (RdS.up (RdS.only gS (RdS.ex gS (RdS.ex gS (RdS.ex gS h1 hE12) hE18) hE24) hO29 iV) gS) o3.2.1) ?_))))
 rintro v37 w35 ⟨A36, c36, lo36, hi36, rfl, h36, hrn39, hE38⟩
 have hE38z := Ex.size hE38
 refine sd rfl (yl_fieldAddr fd39_1 rfl rfl (SeqR.u rfl rfl (yl_store (vs := [.slice A36 p_a.Cols.length c36]) ty22 rfl rfl rfl rfl rfl rfl (Box.ex hB28 hE38) (nb rfl) ?_)))
 intro w41 hB42 hO43
 have hB42 : Box w41 b19 39 [.string (bs (p_a.Name)), .slice A36 p_a.Cols.length c36, .slice none 0 0] := hB42
 have hO43z := hO43.size
 refine dn (cR (sd rfl (yl_fieldAddr fd25_2 rfl rfl (sd rfl (yl_load1 ty23 rfl rfl (((Box.only (Box.ex q30 hE38) hO43 oM).cell 2).trans rfl) (sd rfl (yC en43 rfl (oc rfl oz) (Cal.mono (c_l_toIdxS p_a.Idxs (RdS.up (RdS.only gI (RdS.ex gI (RdS.only gI (RdS.ex gI (RdS.ex gI (RdS.ex gI h2 hE12) hE18) hE24) hO29 iV) hE38) hO43 iV) gI) o3.2.2) ?_))))))))
 rintro v54 w52 ⟨A53, c53, lo53, hi53, rfl, h53, hrn56, hE55⟩
 have hE55z := Ex.size hE55
 refine sd rfl (yl_fieldAddr fd39_2 rfl rfl (SeqR.u rfl rfl (yl_store (vs := [.slice A53 p_a.Idxs.length c53]) ty37 rfl rfl rfl rfl rfl rfl (Box.ex hB42 hE55) (nb rfl) ?_)))
 intro w58 hB59 hO60
 have hB59 : Box w58 b19 39 [.string (bs (p_a.Name)), .slice A36 p_a.Cols.length c36, .slice A53 p_a.Idxs.length c53] := hB59
 have hO60z := hO60.size
 refine dn (cR (sd rfl (yl_loadN ty39 rfl rfl (hB59.cells (n := 3) rfl) rfl (SeqR.u rfl rfl (yl_storeA (vs := [.string (bs (p_a.Name)), .slice A36 p_a.Cols.length c36, .slice A53 p_a.Idxs.length c53]) ty39 rfl rfl rfl rfl rfl rfl (Box.only (Box.ex (Box.only (Box.ex (Box.only (Box.ex hB17 hE24) hO29 oM) hE38) hO43 oM) hE55) hO60 oM) rfl ?_)))))
 intro w67 hB68 hO69
 have hO69z := hO69.size
 refine dn (CW.ret (rr rfl (.cons ⟨_, rfl, run_loadN ty39 (cs := [.string (bs (p_a.Name)), .slice A36 p_a.Cols.length c36, .slice A53 p_a.Idxs.length c53]) rfl (hB68.cells (n := 3) rfl)⟩ .nil) ?_))
 have hM70 : p_a = (p_a) := (to_Table _).symm.trans <| by simp only [l_toTable, cL]
 rw [hM70]
 exact ⟨A36, c36, lo36, hi36, A53, c53, lo53, hi53, rfl, (OwnL.only gS (OwnL.only gS (OwnL.ex gS (OwnL.only gS h36 hO43 oM) hE55) hO60 oM) hO69 oM), (OwnL.only gI (OwnL.only gI h53 hO60 oM) hO69 oM), oM, oM, oM, (Below.only (Below.only (Ex.trans (Below.only (Ex.trans (Below.only (Ex.trans (Ex.trans (Ex.trans (Ex.refl w) hE12) hE18) hE24) hO29 oM) hE38) hO43 oM) hE55) hO60 oM) hO69 oM)⟩
theorem c_l_toWrite {w : World} (p_a : DWrite) (o1 : ok_Write p_a) : Cal Tryz.prog 44 #[.agg #[.string (bs (p_a.Key)), .string (bs (p_a.Val)), .bool (p_a.Gone)]] w fun v w' => v = .agg #[.string (bs (p_a.Key)), .string (bs (p_a.Val)), .bool (p_a.Gone)] ∧ Ex w w' := by
 have hol2 : p_a.Key.length ≤ 1073741824 := o1.1
 have hol3 : p_a.Val.length ≤ 1073741824 := o1.2
 refine Cal.of func44 rfl ntmps44 rfl (cR (sd rfl (yl_box rfl rfl rfl ?_)))
 intro b4 w5 hs6 hz7 hB8 hE9
 refine sd rfl (yB ty80 (cs := [.string (bs (([] : Str))), .string (bs (([] : Str))), .bool (false)]) rfl rfl ?_)
 intro b10 w11 hs12 hz13 hB14 hE15
 refine dn (cR (sd rfl (yB ty80 (cs := [.string (bs (([] : Str))), .string (bs (([] : Str))), .bool (false)]) rfl rfl ?_)))
 intro b16 w17 hs18 hz19 hB20 hE21
 refine dn (cR (sd rfl (yl_fieldAddr fd71_0 rfl rfl ?_)))
 have q23 := Box.ex (Box.ex hB8 hE15) hE21
 refine sd rfl (yl_load1 ty9 rfl rfl ((q23.cell 0).trans rfl) (sd rfl (yl_fieldAddr fd80_0 rfl rfl (SeqR.u rfl rfl (yl_store (vs := [.string (bs (p_a.Key))]) ty9 rfl rfl rfl rfl rfl rfl hB20 (nb rfl) ?_)))))
 intro w24 hB25 hO26
 have hB25 : Box w24 b16 80 [.string (bs (p_a.Key)), .string (bs (([] : Str))), .bool (false)] := hB25
 have hO26z := hO26.size
 refine dn (cR (sd rfl (yl_fieldAddr fd71_1 rfl rfl ?_)))
 have q27 := Box.only q23 hO26 oM
 refine sd rfl (yl_load1 ty9 rfl rfl ((q27.cell 1).trans rfl) (sd rfl (yl_fieldAddr fd80_1 rfl rfl (SeqR.u rfl rfl (yl_store (vs := [.string (bs (p_a.Val))]) ty9 rfl rfl rfl rfl rfl rfl hB25 (nb rfl) ?_)))))
 intro w28 hB29 hO30
 have hB29 : Box w28 b16 80 [.string (bs (p_a.Key)), .string (bs (p_a.Val)), .bool (false)] := hB29
 have hO30z := hO30.size
 refine dn (cR (sd rfl (yl_fieldAddr fd71_2 rfl rfl (sd rfl (yl_load1 ty4 rfl rfl (((Box.only q27 hO30 oM).cell 2).trans rfl) (sd rfl (yl_fieldAddr fd80_2 rfl rfl (SeqR.u rfl rfl (yl_store (vs := [.bool (p_a.Gone)]) ty4 rfl rfl rfl rfl rfl rfl hB29 (nb rfl) ?_)))))))))
 intro w32 hB33 hO34
 have hB33 : Box w32 b16 80 [.string (bs (p_a.Key)), .string (bs (p_a.Val)), .bool (p_a.Gone)] := hB33
 have hO34z := hO34.size
 refine dn (cR (sd rfl (yl_loadN ty80 rfl rfl (hB33.cells (n := 3) rfl) rfl (SeqR.u rfl rfl (yl_storeA (vs := [.string (bs (p_a.Key)), .string (bs (p_a.Val)), .bool (p_a.Gone)]) ty80 rfl rfl rfl rfl rfl rfl (Box.only (Box.only (Box.only (Box.ex hB14 hE21) hO26 oM) hO30 oM) hO34 oM) rfl ?_)))))
 intro w39 hB40 hO41
 have hO41z := hO41.size
 refine dn (CW.ret (rr rfl (.cons ⟨_, rfl, run_loadN ty80 (cs := [.string (bs (p_a.Key)), .string (bs (p_a.Val)), .bool (p_a.Gone)]) rfl (hB40.cells (n := 3) rfl)⟩ .nil) ?_))
 have hM42 : p_a = (p_a) := (to_Write _).symm.trans <| by simp only [l_toWrite, cL]
 rw [hM42]
 exact ⟨rfl, (Below.only (Below.only (Below.only (Below.only (Ex.trans (Ex.trans (Ex.trans (Ex.refl w) hE9) hE15) hE21) hO26 oM) hO30 oM) hO34 oM) hO41 oM)⟩
theorem c_l_toWriteS {A1 : Option Addr} {c1 : Nat} {w : World} (p_a : List DWrite) (h1 : RdS w (Iv 0 w.heap.size) (RF e_Write) 3 A1 p_a.length c1 p_a) (o2 : (okL ok_Write) p_a) : Cal Tryz.prog 12 #[.slice A1 p_a.length c1] w fun v w' => ∃ A_1 c_1 lo_1 hi_1, v = .slice A_1 p_a.length c_1 ∧ OwnL w' lo_1 hi_1 80 3 (RF e_Write) A_1 p_a.length c_1 p_a ∧ (w.heap.size ≤ lo_1 ∧ lo_1 ≤ hi_1 ∧ hi_1 ≤ w'.heap.size) ∧ Ex w w' := by
 have hol3 := o2.1
 refine Cal.of func12 rfl ntmps12 rfl (cR (sA rfl (dn (cR (sM rfl ?_)))))
 refine sd rfl (yL un26 rfl rfl (sd rfl (yl_make (zs := [.string (bs (([] : Str))), .string (bs (([] : Str))), .bool (false)]) (n := p_a.length) un34 ty80 rfl rfl (nb rfl) rfl rfl rfl Bo Bo ?_)))
 intro b4 w5 hs6 hz7 hB8 hE9
 have hO10 : OwnL w5 b4 (b4 + 1) 80 3 (RF e_Write) (some ⟨b4, 0, none⟩) p_a.length p_a.length (List.replicate p_a.length d_Write) := by have := OwnL.of_boxF (lo := b4) (hi := b4 + 1) (xs := (List.replicate p_a.length d_Write)) hB8 (Nat.le_refl _) (Nat.lt_succ_self _) (EncL.zerosF (enc := e_Write) (d := d_Write) rfl p_a.length) (by rw [List.length_replicate]; omega); rwa [List.length_replicate] at this
 refine sA rfl (dn (CW.seq (cR (sA rfl (dn ?_)))))
 refine CW.block (CW.loop (fun m23 L24 w25 => ∃ (k11 : Nat) (x22 : List DWrite), m23 = p_a.length - k11 ∧ k11 ≤ p_a.length ∧ w5.heap.size ≤ w25.heap.size ∧ Sub [(0, .slice A1 p_a.length c1), (3, .slice (some ⟨b4, 0, none⟩) p_a.length p_a.length), (4, .int .i64 ((k11 : Int)))] L24 ∧ RdS w25 (Iv 0 w.heap.size) (RF e_Write) 3 A1 p_a.length c1 p_a ∧ OwnL w25 b4 (b4 + 1) 80 3 (RF e_Write) (some ⟨b4, 0, none⟩) p_a.length p_a.length x22 ∧ Ex w w25 ∧ loopM (B_l_toWriteS_0 p_a) (p_a.length - k11) k11 (x22) = loopM (B_l_toWriteS_0 p_a) (p_a.length - 0) 0 ((List.replicate p_a.length d_Write))) (p_a.length - 0) ?_ ?_)
 ·exact ⟨0, (List.replicate p_a.length d_Write), rfl, oM, Nat.le_refl _, (sR rfl), (RdS.ex gW h1 hE9), hO10, (Ex.trans (Ex.refl w) hE9), rfl⟩
 ·rintro m28 L29 w30 ⟨k11, x22, rfl, hk31, hsz33, hl34, hf35, hf36, hf37, hI32⟩
  refine CW.sub hl34 ?_
  have hf37z := Ex.size hf37
  have hbg38 := RdS.big hf35
  rcases Nat.lt_or_ge k11 p_a.length with hlt39 | hlt39
  ·refine CW.seq (cR (sM rfl (sM rfl (sd rfl (yL un26 rfl rfl (sd rfl (yl_lss rfl rfl rfl (dn ?_))))))))
   refine CW.cond_t rfl (lt_t hlt39) (CW.skip (tn (CW.seq (CW.block (CW.region (sM rfl (sM rfl (sM rfl ?_))))))))
   refine sM rfl ?_
   obtain ⟨_, _, _, eA40, _, ebl40, _, eR40, eC40⟩ := RdS.aD hf35 d_Write (i := k11)
   obtain rfl := eR40
   refine sd rfl (yl_ixN un26 ty71 rfl rfl rfl eA40 (sd rfl (yl_loadN ty71 rfl rfl eC40 rfl (sd rfl (yC en44 rfl (oc rfl oz) (Cal.mono (c_l_toWrite (p_a.getD k11 d_Write) (okL.getD o2 ok_d_Write _)) ?_))))))
   rintro v42 w41 ⟨rfl, hE43⟩
   have hE43z := Ex.size hE43
   have q45 := OwnL.ex gW hf36 hE43
   obtain ⟨eb46, eo46, _, eA46, _, ebl46, _, eR46, _⟩ := RdS.aD (OwnL.rd gW q45) d_Write (i := k11)
   obtain rfl := eR46
   refine sd rfl (yl_ixN un34 ty80 rfl rfl rfl eA46 ?_)
   have hrg47 := OwnL.rng q45 (i := k11) Bo eb46 (by rw [eA46]; rfl)
   refine SeqR.u rfl rfl (yl_storeF (off := eo46) (i := k11) (d := 0) (dx := d_Write) (x' := (p_a.getD k11 d_Write)) (vs := [.string (bs ((p_a.getD k11 d_Write).Key)), .string (bs ((p_a.getD k11 d_Write).Val)), .bool ((p_a.getD k11 d_Write).Gone)]) ty80 rfl q45 eA46 rfl rfl rfl rfl rfl Bo (nb rfl) rfl rfl ?_)
   intro w48 hB49 hO50
   have hO50z := hO50.size
   refine SeqR.done (bn (tn (CW.region (sM rfl (sd rfl (yl_inc rfl rfl rfl oM (sA rfl (dn ?_))))))))
   have hB51 : B_l_toWriteS_0 p_a k11 (x22) = .cont ((x22.set k11 (p_a.getD k11 d_Write))) := by simp only [B_l_toWriteS_0, cL]
   exact ⟨p_a.length - (k11 + 1), oM, k11 + 1, (x22.set k11 (p_a.getD k11 d_Write)), rfl, hlt39, oM, (sR rfl), (RdS.only gW (RdS.ex gW hf35 hE43) hO50 iV), hB49, (Below.only (Ex.trans hf37 hE43) hO50 oM), (loopM.cont hlt39 hB51).symm.trans hI32⟩
  ·refine CW.seq (cR (sM rfl (sM rfl (sd rfl (yL un26 rfl rfl (sd rfl (yl_lss rfl rfl rfl (dn ?_))))))))
   refine CW.cond_f rfl (lt_f hlt39) (CW.exit (tx (tx ?_)))
   have hL56 : loopM (B_l_toWriteS_0 p_a) (p_a.length - 0) 0 ((List.replicate p_a.length d_Write)) = .done (x22) := hI32.symm.trans (loopM.stop hlt39)
   refine bx (tn (cR (sM rfl (sA rfl (dn (CW.ret ?_))))))
   refine rr rfl (.cons rfl .nil) ?_
   have hM57 : p_a = (x22) := (to_WriteS _).symm.trans <| by simp only [l_toWriteS, hL56, cL]
   subst hM57
   exact ⟨(some ⟨b4, 0, none⟩), p_a.length, b4, (b4 + 1), rfl, hf36, oM, hf37⟩
theorem c_l_toRow {A1 : Option Addr} {c1 : Nat} {w : World} (p_a : DRow) (h1 : RdS w (Iv 0 w.heap.size) (RF e_Str) 1 A1 p_a.Vals.length c1 p_a.Vals) (o2 : ok_Row p_a) : Cal Tryz.prog 45 #[.agg #[.slice A1 p_a.Vals.length c1]] w fun v w' => ∃ A_1 c_1 lo_1 hi_1, v = .agg #[.slice A_1 p_a.Vals.length c_1] ∧ OwnL w' lo_1 hi_1 9 1 (RF e_Str) A_1 p_a.Vals.length c_1 p_a.Vals ∧ (w.heap.size ≤ lo_1 ∧ lo_1 ≤ hi_1 ∧ hi_1 ≤ w'.heap.size) ∧ Ex w w' := by
 have hol3 := o2.1
 refine Cal.of func45 rfl ntmps45 rfl (cR (sd rfl (yl_box rfl rfl rfl ?_)))
 intro b4 w5 hs6 hz7 hB8 hE9
 refine sd rfl (yB ty42 (cs := [.slice none 0 0]) rfl rfl ?_)
 intro b10 w11 hs12 hz13 hB14 hE15
 refine dn (cR (sd rfl (yB ty42 (cs := [.slice none 0 0]) rfl rfl ?_)))
 intro b16 w17 hs18 hz19 hB20 hE21
 refine dn (cR (sd rfl (yl_fieldAddr fd28_0 rfl rfl (sd rfl (yl_load1 ty22 rfl rfl (((Box.ex (Box.ex hB8 hE15) hE21).cell 0).trans rfl) (sd rfl (yC en31 rfl (oc rfl oz) (Cal.mono (c_l_toStringS p_a.Vals (RdS.up (RdS.ex gS (RdS.ex gS (RdS.ex gS h1 hE9) hE15) hE21) gS) o2) ?_))))))))
 rintro v29 w27 ⟨A28, c28, lo28, hi28, rfl, h28, hrn31, hE30⟩
 have hE30z := Ex.size hE30
 refine sd rfl (yl_fieldAddr fd42_0 rfl rfl (SeqR.u rfl rfl (yl_storeA (vs := [.slice A28 p_a.Vals.length c28]) ty22 rfl rfl rfl rfl rfl rfl (Box.ex hB20 hE30) rfl ?_)))
 intro w33 hB34 hO35
 have hO35z := hO35.size
 refine dn (cR (sd rfl (yl_loadN ty42 rfl rfl (hB34.cells (n := 1) rfl) rfl (SeqR.u rfl rfl (yl_storeA (vs := [.slice A28 p_a.Vals.length c28]) ty42 rfl rfl rfl rfl rfl rfl (Box.only (Box.ex (Box.ex hB14 hE21) hE30) hO35 oM) rfl ?_)))))
 intro w39 hB40 hO41
 have hO41z := hO41.size
 refine dn (CW.ret (rr rfl (.cons ⟨_, rfl, run_loadN ty42 (cs := [.slice A28 p_a.Vals.length c28]) rfl (hB40.cells (n := 1) rfl)⟩ .nil) ?_))
 have hM42 : p_a = (p_a) := (to_Row _).symm.trans <| by simp only [l_toRow, cL]
 rw [hM42]
 exact ⟨A28, c28, lo28, hi28, rfl, (OwnL.only gS (OwnL.only gS h28 hO35 oM) hO41 oM), oM, (Below.only (Below.only (Ex.trans (Ex.trans (Ex.trans (Ex.trans (Ex.refl w) hE9) hE15) hE21) hE30) hO35 oM) hO41 oM)⟩
theorem c_l_toRowAct {A1 : Option Addr} {c1 : Nat} {A2 : Option Addr} {c2 : Nat} {w : World} (p_a : DRowAct) (h1 : RdS w (Iv 0 w.heap.size) (RF e_Str) 1 A1 p_a.Old.Vals.length c1 p_a.Old.Vals) (h2 : RdS w (Iv 0 w.heap.size) (RF e_Str) 1 A2 p_a.New.Vals.length c2 p_a.New.Vals) (o3 : ok_RowAct p_a) : Cal Tryz.prog 13 #[.agg #[.int .i64 (p_a.Kind), .slice A1 p_a.Old.Vals.length c1, .slice A2 p_a.New.Vals.length c2]] w fun v w' => ∃ A_1 c_1 lo_1 hi_1 A_2 c_2 lo_2 hi_2, v = .agg #[.int .i64 (p_a.Kind), .slice A_1 p_a.Old.Vals.length c_1, .slice A_2 p_a.New.Vals.length c_2] ∧ OwnL w' lo_1 hi_1 9 1 (RF e_Str) A_1 p_a.Old.Vals.length c_1 p_a.Old.Vals ∧ OwnL w' lo_2 hi_2 9 1 (RF e_Str) A_2 p_a.New.Vals.length c_2 p_a.New.Vals ∧ (w.heap.size ≤ lo_1 ∧ lo_1 ≤ hi_1 ∧ hi_1 ≤ w'.heap.size) ∧ (w.heap.size ≤ lo_2 ∧ lo_2 ≤ hi_2 ∧ hi_2 ≤ w'.heap.size) ∧ (hi_1 ≤ lo_2 ∨ hi_2 ≤ lo_1) ∧ Ex w w' := by
 have hol4 := o3.1.1
 have hol5 := o3.2.1
 refine Cal.of func13 rfl ntmps13 rfl (cR (sd rfl (yl_box rfl rfl rfl ?_)))
 intro b6 w7 hs8 hz9 hB10 hE11
 refine sd rfl (yB ty44 (cs := [.int .i64 (0), .slice none 0 0, .slice none 0 0]) rfl rfl ?_)
 intro b12 w13 hs14 hz15 hB16 hE17
 refine dn (cR (sd rfl (yB ty44 (cs := [.int .i64 (0), .slice none 0 0, .slice none 0 0]) rfl rfl ?_)))
 intro b18 w19 hs20 hz21 hB22 hE23
 refine dn (cR (sd rfl (yl_fieldAddr fd30_0 rfl rfl ?_)))
 have q25 := Box.ex (Box.ex hB10 hE17) hE23
 refine sd rfl (yl_load1 ty3 rfl rfl ((q25.cell 0).trans rfl) (sd rfl (yl_fieldAddr fd44_0 rfl rfl (SeqR.u rfl rfl (yl_store (vs := [.int .i64 (p_a.Kind)]) ty3 rfl rfl rfl rfl rfl rfl hB22 (nb rfl) ?_)))))
 intro w26 hB27 hO28
 have hB27 : Box w26 b18 44 [.int .i64 (p_a.Kind), .slice none 0 0, .slice none 0 0] := hB27
 have hO28z := hO28.size
 refine dn (cR (sd rfl (yl_fieldAddr fd30_1 rfl rfl ?_)))
 have q29 := Box.only q25 hO28 oM
 refine sd rfl (yl_loadN ty28 rfl rfl (q29.cells (n := 1) rfl) rfl (sd rfl (yC en45 rfl (oc rfl oz) (Cal.mono (c_l_toRow p_a.Old (RdS.up (RdS.only gS (RdS.ex gS (RdS.ex gS (RdS.ex gS h1 hE11) hE17) hE23) hO28 iV) gS) o3.1) ?_))))
 rintro v36 w34 ⟨A35, c35, lo35, hi35, rfl, h35, hrn38, hE37⟩
 have hE37z := Ex.size hE37
 refine sd rfl (yl_fieldAddr fd44_1 rfl rfl (SeqR.u rfl rfl (yl_store (vs := [.slice A35 p_a.Old.Vals.length c35]) ty42 rfl rfl rfl rfl rfl rfl (Box.ex hB27 hE37) (nb rfl) ?_)))
 intro w40 hB41 hO42
 have hB41 : Box w40 b18 44 [.int .i64 (p_a.Kind), .slice A35 p_a.Old.Vals.length c35, .slice none 0 0] := hB41
 have hO42z := hO42.size
 refine dn (cR (sd rfl (yl_fieldAddr fd30_2 rfl rfl (sd rfl (yl_loadN ty28 rfl rfl ((Box.only (Box.ex q29 hE37) hO42 oM).cells (n := 1) rfl) rfl (sd rfl (yC en45 rfl (oc rfl oz) (Cal.mono (c_l_toRow p_a.New (RdS.up (RdS.only gS (RdS.ex gS (RdS.only gS (RdS.ex gS (RdS.ex gS (RdS.ex gS h2 hE11) hE17) hE23) hO28 iV) hE37) hO42 iV) gS) o3.2) ?_))))))))
 rintro v53 w51 ⟨A52, c52, lo52, hi52, rfl, h52, hrn55, hE54⟩
 have hE54z := Ex.size hE54
 refine sd rfl (yl_fieldAddr fd44_2 rfl rfl (SeqR.u rfl rfl (yl_store (vs := [.slice A52 p_a.New.Vals.length c52]) ty42 rfl rfl rfl rfl rfl rfl (Box.ex hB41 hE54) (nb rfl) ?_)))
 intro w57 hB58 hO59
 have hB58 : Box w57 b18 44 [.int .i64 (p_a.Kind), .slice A35 p_a.Old.Vals.length c35, .slice A52 p_a.New.Vals.length c52] := hB58
 have hO59z := hO59.size
 refine dn (cR (sd rfl (yl_loadN ty44 rfl rfl (hB58.cells (n := 3) rfl) rfl (SeqR.u rfl rfl (yl_storeA (vs := [.int .i64 (p_a.Kind), .slice A35 p_a.Old.Vals.length c35, .slice A52 p_a.New.Vals.length c52]) ty44 rfl rfl rfl rfl rfl rfl (Box.only (Box.ex (Box.only (Box.ex (Box.only (Box.ex hB16 hE23) hO28 oM) hE37) hO42 oM) hE54) hO59 oM) rfl ?_)))))
 intro w66 hB67 hO68
 have hO68z := hO68.size
 refine dn (CW.ret (rr rfl (.cons ⟨_, rfl, run_loadN ty44 (cs := [.int .i64 (p_a.Kind), .slice A35 p_a.Old.Vals.length c35, .slice A52 p_a.New.Vals.length c52]) rfl (hB67.cells (n := 3) rfl)⟩ .nil) ?_))
 have hM69 : p_a = (p_a) := (to_RowAct _).symm.trans <| by simp only [l_toRowAct, cL]
 rw [hM69]
 exact ⟨A35, c35, lo35, hi35, A52, c52, lo52, hi52, rfl, (OwnL.only gS (OwnL.only gS (OwnL.ex gS (OwnL.only gS h35 hO42 oM) hE54) hO59 oM) hO68 oM), (OwnL.only gS (OwnL.only gS h52 hO59 oM) hO68 oM), oM, oM, oM, (Below.only (Below.only (Ex.trans (Below.only (Ex.trans (Below.only (Ex.trans (Ex.trans (Ex.trans (Ex.refl w) hE11) hE17) hE23) hO28 oM) hE37) hO42 oM) hE54) hO59 oM) hO68 oM)⟩
theorem c_i_within {w : World} (p_n : Int) (p_low : Int) (p_high : Int) : Cal Tryz.prog 96 #[.int .i64 (p_n), .int .i64 (p_low), .int .i64 (p_high)] w fun v w' => v = .bool ((i_within p_n p_low p_high)) ∧ Ex w w' := by
 refine Cal.of func96 rfl ntmps96 rfl (cR (sA rfl (dn (cR (sM rfl ?_)))))
 refine sM rfl (sd rfl (yl_geq rfl rfl rfl (sM rfl (bcD (q := p_low ≤ p_n) (fun hb1 hb1p => ?_) (fun hb1 hb1p => ?_)))))
 ·refine sy rfl rfl hb1 (yM rfl rfl (sy rfl rfl hb1 (yM rfl rfl (sy rfl rfl hb1 (yl_leq rfl rfl rfl (sd rfl (yl_pick_t rfl rfl hb1 rfl (sA rfl (dn (CW.ret (rr rfl (.cons rfl .nil) ?_)))))))))))
  rw [show (i_within p_n p_low p_high) = (decide (p_n ≤ p_high)) by simp only [i_within, hb1, cL]]
  exact ⟨rfl, (Ex.refl w)⟩
 ·refine sz rfl rfl hb1 (sz rfl rfl hb1 (sz rfl rfl hb1 (sd rfl (yl_pick_f rfl rfl hb1 rfl (sA rfl (dn (CW.ret (rr rfl (.cons rfl .nil) ?_))))))))
  rw [show (i_within p_n p_low p_high) = (false) by simp only [i_within, hb1, cL]]
  exact ⟨rfl, (Ex.refl w)⟩
theorem c_i_areLetters {w : World} (p_s : Str) (p_most : Int) (o1 : okS p_s) : Cal Tryz.prog 113 #[.string (bs (p_s)), .int .i64 (p_most)] w fun v w' => v = .bool ((i_areLetters p_s p_most)) ∧ Ex w w' := by
 have hol2 : p_s.length ≤ 1073741824 := o1
 refine Cal.of func113 rfl ntmps113 rfl (cR (sA rfl (dn (CW.seq (cR ?_)))))
 refine sM rfl (sd rfl (yl_slen un9 (a := p_s) rfl rfl (sM rfl (dn (CW.block (CW.loop (fun m4 L5 w6 => ∃ (k3 : Nat), m4 = p_s.length - k3 ∧ k3 ≤ p_s.length ∧ w.heap.size ≤ w6.heap.size ∧ Sub [(0, .string (bs (p_s))), (1, .int .i64 (p_most)), (7, .int .i64 ((p_s.length : Int))), (8, .int .i64 ((k3 : Int)))] L5 ∧ Ex w w6 ∧ loopM (B_i_areLetters_0 p_s p_most) (p_s.length - k3) k3 () = loopM (B_i_areLetters_0 p_s p_most) (p_s.length - 0) 0 ()) (p_s.length - 0) ?_ ?_))))))
 ·exact ⟨0, rfl, oM, Nat.le_refl _, (sR rfl), (Ex.refl w), rfl⟩
 ·rintro m7 L8 w9 ⟨k3, rfl, hk10, hsz12, hl13, hf14, hI11⟩
  refine CW.sub hl13 ?_
  have hf14z := Ex.size hf14
  have hbg15 : p_s.length ≤ 1073741824 := o1
  rcases Nat.lt_or_ge k3 p_s.length with hlt16 | hlt16
  ·refine cR (sd rfl (yl_lss rfl rfl rfl (dn (CW.seq (CW.cond_t rfl (lt_t hlt16) (CW.skip (tn ?_)))))))
   refine CW.seq (CW.block (cR (sM rfl (sA rfl (dn (CW.seq ?_))))))
   refine CW.region (sM rfl (sM rfl (sd rfl (yl_sindexN un9 (a := p_s) rfl rfl rfl Bo (sd rfl (yl_lss rfl rfl rfl (sM rfl (bcD (q := ((p_s.getD k3 0).toNat : Int) < 97) (fun hb17 hb17p => ?_) (fun hb17 hb17p => ?_)))))))))
   ·refine sz rfl rfl hb17 (sz rfl rfl hb17 (sz rfl rfl hb17 (sz rfl rfl hb17 (sd rfl (yl_pick_t rfl rfl hb17 rfl (dn (CW.cond_t rfl rfl (CW.seq ?_))))))))
    refine CW.region (sA rfl (dn (CW.ret (br (tr (tr ?_))))))
    have hB19 : B_i_areLetters_0 p_s p_most k3 () = .ret false := by simp only [B_i_areLetters_0, hb17, cL]
    have hL18 : loopM (B_i_areLetters_0 p_s p_most) (p_s.length - 0) 0 () = .ret false := hI11.symm.trans (loopM.ret hlt16 hB19)
    refine br (tr (rr rfl (.cons rfl .nil) ?_))
    rw [show (i_areLetters p_s p_most) = (false) by simp only [i_areLetters, hb17, hL18, cL]]
    exact ⟨rfl, hf14⟩
   ·refine sy rfl rfl hb17 (yM rfl rfl (sy rfl rfl hb17 (yM rfl rfl (sy rfl rfl hb17 (yl_sindexN un9 (a := p_s) rfl rfl rfl Bo (sy rfl rfl hb17 (yl_gtr rfl rfl rfl (sd rfl (yl_pick_f rfl rfl hb17 rfl (dn (bcD (q := 122 < ((p_s.getD k3 0).toNat : Int)) (fun hb21 hb21p => ?_) (fun hb21 hb21p => ?_))))))))))))
    ·refine CW.cond_t rfl hb21 (cR (sA rfl (dn (CW.ret (br (tr ?_))))))
     refine tr ?_
     have hB23 : B_i_areLetters_0 p_s p_most k3 () = .ret false := by simp only [B_i_areLetters_0, hb17, hb21, cL]
     have hL22 : loopM (B_i_areLetters_0 p_s p_most) (p_s.length - 0) 0 () = .ret false := hI11.symm.trans (loopM.ret hlt16 hB23)
     refine br (tr (rr rfl (.cons rfl .nil) ?_))
     rw [show (i_areLetters p_s p_most) = (false) by simp only [i_areLetters, hb17, hb21, hL22, cL]]
     exact ⟨rfl, hf14⟩
    ·refine CW.cond_f rfl hb21 (CW.skip (bn (tn (CW.region (sd rfl (yl_inc rfl rfl rfl oM (sM rfl (dn ?_))))))))
     have hB25 : B_i_areLetters_0 p_s p_most k3 () = .cont () := by simp only [B_i_areLetters_0, hb17, hb21, cL]
     exact ⟨p_s.length - (k3 + 1), oM, k3 + 1, rfl, hlt16, oM, (sR rfl), hf14, (loopM.cont hlt16 hB25).symm.trans hI11⟩
  ·refine cR (sd rfl (yl_lss rfl rfl rfl (dn (CW.seq (CW.cond_f rfl (lt_f hlt16) (CW.exit (tx ?_)))))))
   refine tx ?_
   have hL26 : loopM (B_i_areLetters_0 p_s p_most) (p_s.length - 0) 0 () = .done () := hI11.symm.trans (loopM.stop hlt16)
   refine bx (tn (cR (sM rfl (sd rfl (yl_slen un9 (a := p_s) rfl rfl (sM rfl (sd rfl (yC en96 rfl (oc rfl (oc rfl (oc rfl oz))) (Cal.mono (c_i_within (p_s.length : Int) 1 p_most) ?_)))))))))
   rintro v28 w27 ⟨rfl, hE29⟩
   have hE29z := Ex.size hE29
   refine sA rfl (dn (CW.ret (rr rfl (.cons rfl .nil) ?_)))
   rw [show (i_areLetters p_s p_most) = ((i_within (p_s.length : Int) 1 p_most)) by simp only [i_areLetters, hL26, cL]]
   exact ⟨rfl, (Ex.trans hf14 hE29)⟩
theorem c_g_slices_Index_string {A1 : Option Addr} {c1 : Nat} {w : World} (p_s : List Str) (p_v : Str) (h1 : RdS w (Iv 0 w.heap.size) (RF e_Str) 1 A1 p_s.length c1 p_s) (o2 : (okL okS) p_s) (o3 : okS p_v) : Cal Tryz.prog 154 #[.slice A1 p_s.length c1, .string (bs (p_v))] w fun v w' => v = .int .i64 ((g_slices_Index_string p_s p_v)) ∧ Ex w w' := by
 have hol4 := o2.1
 have hol5 : p_v.length ≤ 1073741824 := o3
 refine Cal.of func154 rfl ntmps154 rfl (cR (sA rfl (dn (CW.seq (cR ?_)))))
 refine sM rfl (sd rfl (yL un22 rfl rfl (sM rfl (dn (CW.block (CW.loop (fun m7 L8 w9 => ∃ (k6 : Nat), m7 = p_s.length - k6 ∧ k6 ≤ p_s.length ∧ w.heap.size ≤ w9.heap.size ∧ Sub [(0, .slice A1 p_s.length c1), (1, .string (bs (p_v))), (7, .int .i64 ((p_s.length : Int))), (8, .int .i64 ((k6 : Int)))] L8 ∧ RdS w9 (Iv 0 w.heap.size) (RF e_Str) 1 A1 p_s.length c1 p_s ∧ Ex w w9 ∧ loopM (B_g_slices_Index_string_0 p_s p_v) (p_s.length - k6) k6 () = loopM (B_g_slices_Index_string_0 p_s p_v) (p_s.length - 0) 0 ()) (p_s.length - 0) ?_ ?_))))))
 ·exact ⟨0, rfl, oM, Nat.le_refl _, (sR rfl), h1, (Ex.refl w), rfl⟩
 ·rintro m10 L11 w12 ⟨k6, rfl, hk13, hsz15, hl16, hf17, hf18, hI14⟩
  refine CW.sub hl16 ?_
  have hf18z := Ex.size hf18
  have hbg19 := RdS.big hf17
  rcases Nat.lt_or_ge k6 p_s.length with hlt20 | hlt20
  ·refine cR (sd rfl (yl_lss rfl rfl rfl (dn (CW.seq (CW.cond_t rfl (lt_t hlt20) (CW.skip (tn ?_)))))))
   refine CW.seq (CW.block (cR (sM rfl (sA rfl (dn (CW.seq ?_))))))
   refine CW.region (sM rfl (sM rfl (sM rfl ?_)))
   obtain ⟨_, _, _, eA21, _, ebl21, _, eR21, eC21⟩ := RdS.aD hf17 d_Str (i := k6)
   obtain rfl := eR21
   refine sd rfl (yl_ixN un22 ty9 rfl rfl rfl eA21 (sd rfl (yl_load1 ty9 rfl rfl (eC21 0 _ rfl) (sd rfl (yl_seql (a := p_v) (b := (p_s.getD k6 d_Str)) rfl rfl rfl (dn (bcase (p_v == (p_s.getD k6 d_Str)) (fun hb22 => ?_) (fun hb22 => ?_))))))))
   ·refine CW.cond_t rfl hb22 (cR (sM rfl (sA rfl (dn (CW.ret (br ?_))))))
    refine tr (tr ?_)
    have hB24 : B_g_slices_Index_string_0 p_s p_v k6 () = .ret (k6 : Int) := by simp only [B_g_slices_Index_string_0, hb22, cL]
    have hL23 : loopM (B_g_slices_Index_string_0 p_s p_v) (p_s.length - 0) 0 () = .ret (k6 : Int) := hI14.symm.trans (loopM.ret hlt20 hB24)
    refine br (tr (rr rfl (.cons rfl .nil) ?_))
    rw [show (g_slices_Index_string p_s p_v) = ((k6 : Int)) by simp only [g_slices_Index_string, hb22, hL23, cL]]
    exact ⟨rfl, hf18⟩
   ·refine CW.cond_f rfl hb22 (CW.skip (bn (tn (CW.region (sd rfl (yl_inc rfl rfl rfl oM (sM rfl (dn ?_))))))))
    have hB26 : B_g_slices_Index_string_0 p_s p_v k6 () = .cont () := by simp only [B_g_slices_Index_string_0, hb22, cL]
    exact ⟨p_s.length - (k6 + 1), oM, k6 + 1, rfl, hlt20, oM, (sR rfl), hf17, hf18, (loopM.cont hlt20 hB26).symm.trans hI14⟩
  ·refine cR (sd rfl (yl_lss rfl rfl rfl (dn (CW.seq (CW.cond_f rfl (lt_f hlt20) (CW.exit (tx ?_)))))))
   refine tx ?_
   have hL27 : loopM (B_g_slices_Index_string_0 p_s p_v) (p_s.length - 0) 0 () = .done () := hI14.symm.trans (loopM.stop hlt20)
   refine bx (tn (cR (sA rfl (dn (CW.ret (rr rfl (.cons rfl .nil) ?_))))))
   rw [show (g_slices_Index_string p_s p_v) = (-1) by simp only [g_slices_Index_string, hL27, cL]]
   exact ⟨rfl, hf18⟩
theorem c_g_slices_Contains_string {A1 : Option Addr} {c1 : Nat} {w : World} (p_s : List Str) (p_v : Str) (h1 : RdS w (Iv 0 w.heap.size) (RF e_Str) 1 A1 p_s.length c1 p_s) (o2 : (okL okS) p_s) (o3 : okS p_v) : Cal Tryz.prog 114 #[.slice A1 p_s.length c1, .string (bs (p_v))] w fun v w' => v = .bool ((g_slices_Contains_string p_s p_v)) ∧ Ex w w' := by
 refine Cal.of func114 rfl ntmps114 rfl (cR (sA rfl (dn (cR (sM rfl ?_)))))
 refine sM rfl (sd rfl (yC en154 rfl (oc rfl (oc rfl oz)) (Cal.mono (c_g_slices_Index_string p_s p_v (RdS.up h1 gS) o2 o3) ?_)))
 rintro v7 w6 ⟨rfl, hE8⟩
 refine sd rfl (yl_geq rfl rfl rfl (sA rfl (dn (CW.ret (rr rfl (.cons rfl .nil) ?_)))))
 rw [show (g_slices_Contains_string p_s p_v) = (decide (0 ≤ (g_slices_Index_string p_s p_v))) by simp only [g_slices_Contains_string, cL]]
 exact ⟨rfl, (Ex.trans (Ex.refl w) hE8)⟩
theorem c_i_isStage {w : World} (p_stage : Int) : Cal Tryz.prog 115 #[.int .i64 (p_stage)] w fun v w' => v = .bool ((i_isStage p_stage)) ∧ Ex w w' := by
 refine Cal.of func115 rfl ntmps115 rfl (cR (sA rfl (dn (cR (sM rfl ?_)))))
 refine sd rfl (yC en96 rfl (oc rfl (oc rfl (oc rfl oz))) (Cal.mono (c_i_within p_stage 0 3) ?_))
 rintro v2 w1 ⟨rfl, hE3⟩
 refine sA rfl (dn (CW.ret (rr rfl (.cons rfl .nil) ?_)))
 rw [show (i_isStage p_stage) = ((i_within p_stage 0 3)) by simp only [i_isStage, cL]]
 exact ⟨rfl, (Ex.trans (Ex.refl w) hE3)⟩
theorem c_i_GoodTable {A1 : Option Addr} {c1 : Nat} {A2 : Option Addr} {c2 : Nat} {w : World} (p_0 : DTable) (h1 : RdS w (Iv 0 w.heap.size) (RF e_Str) 1 A1 p_0.Cols.length c1 p_0.Cols) (h2 : RdS w (Iv 0 w.heap.size) (RF e_Idx) 3 A2 p_0.Idxs.length c2 p_0.Idxs) (o3 : ok_Table p_0) : Cal Tryz.prog 67 #[.agg #[.string (bs (p_0.Name)), .slice A1 p_0.Cols.length c1, .slice A2 p_0.Idxs.length c2]] w fun v w' => v = .bool ((i_GoodTable p_0)) ∧ Ex w w' := by
 have hol4 : p_0.Name.length ≤ 1073741824 := o3.1
 have hol5 := o3.2.1.1
 have hol6 := o3.2.2.1
 refine Cal.of func67 rfl ntmps67 rfl (cR (sd rfl (yl_box rfl rfl rfl ?_)))
 intro b7 w8 hs9 hz10 hB11 hE12
 refine sA rfl (dn (CW.seq (cR (sd rfl (yl_fieldAddr fd39_0 rfl rfl (sd rfl (yl_load1 ty9 rfl rfl ((hB11.cell 0).trans rfl) (sd rfl (yC en113 rfl (oc rfl (oc rfl oz)) (Cal.mono (c_i_areLetters p_0.Name 1 o3.1) ?_))))))))))
 rintro v14 w13 ⟨rfl, hE15⟩
 have hE15z := Ex.size hE15
 refine sd rfl (yl_not rfl rfl (sM rfl (bcase (i_areLetters p_0.Name 1) (fun hb16 => ?_) (fun hb16 => ?_))))
 ·refine sy rfl rfl (not_t hb16) (yl_fieldAddr fd39_1 rfl rfl ?_)
  have q17 := Box.ex hB11 hE15
  refine sy rfl rfl (not_t hb16) (yl_load1 ty22 rfl rfl ((q17.cell 1).trans rfl) (sy rfl rfl (not_t hb16) (yL un22 rfl rfl (sy rfl rfl (not_t hb16) (yC en96 rfl (oc rfl (oc rfl (oc rfl oz))) (Cal.mono (c_i_within (p_0.Cols.length : Int) 2 4) ?_))))))
  rintro v19 w18 ⟨rfl, hE20⟩
  have hE20z := Ex.size hE20
  refine sy rfl rfl (not_t hb16) (yl_not rfl rfl (sd rfl (yl_pick_f rfl rfl (not_t hb16) rfl (sM rfl (bcase (i_within (p_0.Cols.length : Int) 2 4) (fun hb21 => ?_) (fun hb21 => ?_))))))
  ·have hb21p := f_within hb21
   refine sy rfl rfl (not_t hb21) (yl_fieldAddr fd39_2 rfl rfl ?_)
   have q22 := Box.ex q17 hE20
   refine sy rfl rfl (not_t hb21) (yl_load1 ty37 rfl rfl ((q22.cell 2).trans rfl) (sy rfl rfl (not_t hb21) (yL un37 rfl rfl (sy rfl rfl (not_t hb21) (yl_gtr rfl rfl rfl (sd rfl (yl_pick_f rfl rfl (not_t hb21) rfl (dn (bcD (q := 3 < (p_0.Idxs.length : Int)) (fun hb23 hb23p => ?_) (fun hb23 hb23p => ?_))))))))))
   ·refine CW.cond_t rfl hb23 (cR (sA rfl (dn (CW.ret (tr (rr rfl (.cons rfl .nil) ?_))))))
    rw [show (i_GoodTable p_0) = (false) by simp only [i_GoodTable, hb16, hb21, hb23, cL]]
    exact ⟨rfl, (Ex.trans (Ex.trans (Ex.trans (Ex.refl w) hE12) hE15) hE20)⟩
   ·refine CW.cond_f rfl hb23 (CW.skip (tn (CW.seq (cR (sd rfl (yl_fieldAddr fd39_1 rfl rfl (sd rfl (yl_load1 ty22 rfl rfl ((q22.cell 1).trans rfl) (sd rfl (yL un22 rfl rfl ?_))))))))))
    refine sM rfl (dn (CW.block (CW.loop (fun m29 L30 w31 => ∃ (k28 : Nat), m29 = p_0.Cols.length - k28 ∧ k28 ≤ p_0.Cols.length ∧ w18.heap.size ≤ w31.heap.size ∧ Sub [(1, .pointer (some ⟨b7, 0, none⟩)), (25, .slice A1 p_0.Cols.length c1), (26, .int .i64 ((p_0.Cols.length : Int))), (27, .int .i64 ((k28 : Int)))] L30 ∧ Box w31 b7 39 [.string (bs (p_0.Name)), .slice A1 p_0.Cols.length c1, .slice A2 p_0.Idxs.length c2] ∧ RdS w31 (Iv 0 w.heap.size) (RF e_Str) 1 A1 p_0.Cols.length c1 p_0.Cols ∧ RdS w31 (Iv 0 w.heap.size) (RF e_Idx) 3 A2 p_0.Idxs.length c2 p_0.Idxs ∧ Ex w w31 ∧ loopM (B_i_GoodTable_0 p_0) (p_0.Cols.length - k28) k28 () = loopM (B_i_GoodTable_0 p_0) (p_0.Cols.length - 0) 0 ()) (p_0.Cols.length - 0) ?_ ?_)))
    ·exact ⟨0, rfl, oM, Nat.le_refl _, (sR rfl), q22, (RdS.ex gS (RdS.ex gS (RdS.ex gS h1 hE12) hE15) hE20), (RdS.ex gI (RdS.ex gI (RdS.ex gI h2 hE12) hE15) hE20), (Ex.trans (Ex.trans (Ex.trans (Ex.refl w) hE12) hE15) hE20), rfl⟩
    ·rintro m41 L42 w43 ⟨k28, rfl, hk44, hsz46, hl47, hf48, hf49, hf50, hf51, hI45⟩
     refine CW.sub hl47 ?_
     have hf48z := Box.lt hf48
     have hf51z := Ex.size hf51
     have hbg52 := RdS.big hf49
     rcases Nat.lt_or_ge k28 p_0.Cols.length with hlt53 | hlt53
     ·refine cR (sd rfl (yl_lss rfl rfl rfl (dn (CW.seq (CW.cond_t rfl (lt_t hlt53) (CW.skip (tn ?_)))))))
      refine CW.seq (CW.block (cR (sM rfl ?_)))
      obtain ⟨_, _, _, eA54, _, ebl54, _, eR54, eC54⟩ := RdS.aD hf49 d_Str (i := k28)
      obtain rfl := eR54
      refine sd rfl (yl_ixN un22 ty9 rfl rfl rfl eA54 (sd rfl (yl_load1 ty9 rfl rfl (eC54 0 _ rfl) (sA rfl (sA rfl (dn (cR (sM rfl ?_))))))))
      refine sd rfl (yC en113 rfl (oc rfl (oc rfl oz)) (Cal.mono (c_i_areLetters (p_0.Cols.getD k28 d_Str) 3 (okL.getD o3.2.1 ok_d_Str _)) ?_))
      rintro v56 w55 ⟨rfl, hE57⟩
      have hE57z := Ex.size hE57
      refine sd rfl (yl_not rfl rfl (sM rfl (bcase (i_areLetters (p_0.Cols.getD k28 d_Str) 3) (fun hb58 => ?_) (fun hb58 => ?_))))
      ·refine sy rfl rfl (not_t hb58) (yl_fieldAddr fd39_1 rfl rfl ?_)
       have q59 := Box.ex hf48 hE57
       refine sy rfl rfl (not_t hb58) (yl_load1 ty22 rfl rfl ((q59.cell 1).trans rfl) (sy rfl rfl (not_t hb58) (yM rfl rfl ?_)))
       have q60 := RdS.ex gS hf49 hE57
       obtain ⟨A61, c62, he65, h64⟩ := RdS.sl (RdS.drop (RdS.take q60 (k := k28) oM) (k := 0) oM)
       have hrc66 := (q60).2.1
       refine sy rfl rfl (not_t hb58) (yl_sliceR (kl := .i64) (l := 0) (h := k28) un22 ty9 rfl rfl (.inl ⟨rfl, rfl⟩) (.inr ⟨_, rfl, rfl⟩) oM oM he65 (sy rfl rfl (not_t hb58) (yM rfl rfl (sy rfl rfl (not_t hb58) (yC en114 rfl (oc rfl (oc rfl oz)) (Cal.mono (c_g_slices_Contains_string (p_0.Cols.take k28) (p_0.Cols.getD k28 d_Str) (RdS.up h64 gS) (okL.take o3.2.1 _) (okL.getD o3.2.1 ok_d_Str _)) ?_))))))
       rintro v68 w67 ⟨rfl, hE69⟩
       have hE69z := Ex.size hE69
       refine sd rfl (yl_pick_f rfl rfl (not_t hb58) rfl (dn (bcase (g_slices_Contains_string (p_0.Cols.take k28) (p_0.Cols.getD k28 d_Str)) (fun hb70 => ?_) (fun hb70 => ?_))))
       ·refine CW.cond_t rfl hb70 (cR (sA rfl (dn (CW.ret (br (tr ?_))))))
        refine tr ?_
        have hB72 : B_i_GoodTable_0 p_0 k28 () = .ret false := by simp only [B_i_GoodTable_0, hb16, hb21, hb23, hb58, hb70, cL]
        have hL71 : loopM (B_i_GoodTable_0 p_0) (p_0.Cols.length - 0) 0 () = .ret false := hI45.symm.trans (loopM.ret hlt53 hB72)
        refine br (tr (rr rfl (.cons rfl .nil) ?_))
        rw [show (i_GoodTable p_0) = (false) by simp only [i_GoodTable, hb16, hb21, hb23, hb58, hb70, hL71, cL]]
        exact ⟨rfl, (Ex.trans (Ex.trans hf51 hE57) hE69)⟩
       ·refine CW.cond_f rfl hb70 (CW.skip (bn (tn (CW.region (sd rfl (yl_inc rfl rfl rfl oM (sM rfl (dn ?_))))))))
        have hB76 : B_i_GoodTable_0 p_0 k28 () = .cont () := by simp only [B_i_GoodTable_0, hb16, hb21, hb23, hb58, hb70, cL]
        exact ⟨p_0.Cols.length - (k28 + 1), oM, k28 + 1, rfl, hlt53, oM, (sR rfl), (Box.ex q59 hE69), (RdS.ex gS q60 hE69), (RdS.ex gI (RdS.ex gI hf50 hE57) hE69), (Ex.trans (Ex.trans hf51 hE57) hE69), (loopM.cont hlt53 hB76).symm.trans hI45⟩
      ·refine sz rfl rfl (not_f hb58) (sz rfl rfl (not_f hb58) (sz rfl rfl (not_f hb58) (sz rfl rfl (not_f hb58) (sz rfl rfl (not_f hb58) (sz rfl rfl (not_f hb58) (sd rfl (yl_pick_t rfl rfl (not_f hb58) rfl (dn ?_))))))))
       refine CW.cond_t rfl rfl (cR (sA rfl (dn (CW.ret (br (tr ?_))))))
       refine tr ?_
       have hB84 : B_i_GoodTable_0 p_0 k28 () = .ret false := by simp only [B_i_GoodTable_0, hb16, hb21, hb23, hb58, cL]
       have hL83 : loopM (B_i_GoodTable_0 p_0) (p_0.Cols.length - 0) 0 () = .ret false := hI45.symm.trans (loopM.ret hlt53 hB84)
       refine br (tr (rr rfl (.cons rfl .nil) ?_))
       rw [show (i_GoodTable p_0) = (false) by simp only [i_GoodTable, hb16, hb21, hb23, hb58, hL83, cL]]
       exact ⟨rfl, (Ex.trans hf51 hE57)⟩
     ·refine cR (sd rfl (yl_lss rfl rfl rfl (dn (CW.seq (CW.cond_f rfl (lt_f hlt53) (CW.exit (tx ?_)))))))
      refine tx ?_
      have hL87 : loopM (B_i_GoodTable_0 p_0) (p_0.Cols.length - 0) 0 () = .done () := hI45.symm.trans (loopM.stop hlt53)
      refine bx (tn (CW.seq (cR (sd rfl (yl_fieldAddr fd39_2 rfl rfl (sd rfl (yl_load1 ty37 rfl rfl ((hf48.cell 2).trans rfl) (sd rfl (yL un37 rfl rfl (sM rfl ?_))))))))))
      refine dn (CW.block (CW.loop (fun m126 L127 w128 => ∃ (k88 : Nat), m126 = p_0.Idxs.length - k88 ∧ k88 ≤ p_0.Idxs.length ∧ w43.heap.size ≤ w128.heap.size ∧ Sub [(1, .pointer (some ⟨b7, 0, none⟩)), (45, .slice A2 p_0.Idxs.length c2), (46, .int .i64 ((p_0.Idxs.length : Int))), (47, .int .i64 ((k88 : Int)))] L127 ∧ Box w128 b7 39 [.string (bs (p_0.Name)), .slice A1 p_0.Cols.length c1, .slice A2 p_0.Idxs.length c2] ∧ RdS w128 (Iv 0 w.heap.size) (RF e_Str) 1 A1 p_0.Cols.length c1 p_0.Cols ∧ RdS w128 (Iv 0 w.heap.size) (RF e_Idx) 3 A2 p_0.Idxs.length c2 p_0.Idxs ∧ Ex w w128 ∧ loopM (B_i_GoodTable_1 p_0) (p_0.Idxs.length - k88) k88 () = loopM (B_i_GoodTable_1 p_0) (p_0.Idxs.length - 0) 0 ()) (p_0.Idxs.length - 0) ?_ ?_))
      ·exact ⟨0, rfl, oM, Nat.le_refl _, (sR rfl), hf48, hf49, hf50, hf51, rfl⟩
      ·rintro m129 L130 w131 ⟨k88, rfl, hk132, hsz134, hl135, hf136, hf137, hf138, hf139, hI133⟩
       refine CW.sub hl135 ?_
       have hf136z := Box.lt hf136
       have hf139z := Ex.size hf139
       have hbg140 := RdS.big hf138
       rcases Nat.lt_or_ge k88 p_0.Idxs.length with hlt141 | hlt141
       ·refine cR (sd rfl (yl_lss rfl rfl rfl (dn (CW.seq (CW.cond_t rfl (lt_t hlt141) (CW.skip (tn ?_)))))))
        refine CW.seq (CW.block (cR (sM rfl ?_)))
        obtain ⟨_, _, _, eA142, _, ebl142, _, eR142, eC142⟩ := RdS.aD hf138 d_Idx (i := k88)
        obtain rfl := eR142
        refine sd rfl (yl_ixN un37 ty111 rfl rfl rfl eA142 (sd rfl (yl_loadN ty111 rfl rfl eC142 rfl (sd rfl (yB ty111 (cs := [.string (bs (([] : Str))), .int .i64 (0), .int .i64 (0)]) rfl rfl ?_)))))
        intro b143 w144 hs145 hz146 hB147 hE148
        refine sA rfl (SeqR.u rfl rfl (yl_storeA (vs := [.string (bs ((p_0.Idxs.getD k88 d_Idx).Name)), .int .i64 ((p_0.Idxs.getD k88 d_Idx).Col), .int .i64 ((p_0.Idxs.getD k88 d_Idx).Stage)]) ty111 rfl rfl rfl rfl rfl rfl hB147 rfl ?_))
        intro w149 hB150 hO151
        have hO151z := hO151.size
        refine dn (CW.seq (bcase (i_areLetters ((p_0.Idxs.getD k88 d_Idx).Name) 1) (fun hb153 => ?_) (fun hb153 => ?_)))
        ·refine bcase (i_within ((p_0.Idxs.getD k88 d_Idx).Col) 1 (IntKind.wrap .i64 ((p_0.Cols.length : Int) - 1))) (fun hb158 => ?_) (fun hb158 => ?_)
         ·have hb158p := f_within hb158
          refine bcase (i_isStage ((p_0.Idxs.getD k88 d_Idx).Stage)) (fun hb164 => ?_) (fun hb164 => ?_)
          ·have hb164p := f_i_isStage hb164
           refine bcD (q := 0 < (k88 : Int)) (fun hb170 hb170p => ?_) (fun hb170 hb170p => ?_)
           ·have q173 := Box.only (Box.ex hf136 hE148) hO151 oM
            have q177 := RdS.only gI (RdS.ex gI hf138 hE148) hO151 iV
            obtain ⟨eb178, eo178, _, eA178, _, ebl178, _, eR178, eC178⟩ := RdS.atD q177 d_Idx (i := (IntKind.wrap .i64 ((k88 : Int) - 1)).toNat) Bo
            obtain rfl := eR178
            refine drJ 36 [.pointer (some ⟨b143, 0 + 0, none⟩), .string (bs ((p_0.Idxs.getD k88 d_Idx).Name)), .bool ((i_areLetters ((p_0.Idxs.getD k88 d_Idx).Name) 1)), .bool (!(i_areLetters ((p_0.Idxs.getD k88 d_Idx).Name) 1)), .bool (!(i_areLetters ((p_0.Idxs.getD k88 d_Idx).Name) 1)), .pointer (some ⟨b143, 0 + 1, none⟩), .int .i64 ((p_0.Idxs.getD k88 d_Idx).Col), .pointer (some ⟨b7, 0 + 1, none⟩), .slice A1 p_0.Cols.length c1, .int .i64 ((p_0.Cols.length : Int)), .int .i64 (IntKind.wrap .i64 ((p_0.Cols.length : Int) - 1)), .bool ((i_within ((p_0.Idxs.getD k88 d_Idx).Col) 1 (IntKind.wrap .i64 ((p_0.Cols.length : Int) - 1)))), .bool (!(i_within ((p_0.Idxs.getD k88 d_Idx).Col) 1 (IntKind.wrap .i64 ((p_0.Cols.length : Int) - 1)))), .bool (!(i_within ((p_0.Idxs.getD k88 d_Idx).Col) 1 (IntKind.wrap .i64 ((p_0.Cols.length : Int) - 1)))), .bool (!(i_within ((p_0.Idxs.getD k88 d_Idx).Col) 1 (IntKind.wrap .i64 ((p_0.Cols.length : Int) - 1)))), .pointer (some ⟨b143, 0 + 2, none⟩), .int .i64 ((p_0.Idxs.getD k88 d_Idx).Stage), .bool ((i_isStage ((p_0.Idxs.getD k88 d_Idx).Stage))), .bool (!(i_isStage ((p_0.Idxs.getD k88 d_Idx).Stage))), .bool (!(i_isStage ((p_0.Idxs.getD k88 d_Idx).Stage))), .bool (!(i_isStage ((p_0.Idxs.getD k88 d_Idx).Stage))), .int .i64 ((k88 : Int)), .bool (decide (0 < (k88 : Int))), .bool (decide (0 < (k88 : Int))), .pointer (some ⟨b143, 0 + 0, none⟩), .string (bs ((p_0.Idxs.getD k88 d_Idx).Name)), .pointer (some ⟨b7, 0 + 2, none⟩), .slice A2 p_0.Idxs.length c2, .int .i64 ((k88 : Int)), .int .i64 (IntKind.wrap .i64 ((k88 : Int) - 1)), .pointer (some ⟨eb178, eo178 + ((IntKind.wrap .i64 ((k88 : Int) - 1)).toNat) * 3, none⟩), .pointer (some ⟨eb178, eo178 + ((IntKind.wrap .i64 ((k88 : Int) - 1)).toNat) * 3 + 0, none⟩), .string (bs ((p_0.Idxs.getD ((IntKind.wrap .i64 ((k88 : Int) - 1)).toNat) d_Idx).Name)), .bool (sLe ((p_0.Idxs.getD k88 d_Idx).Name) ((p_0.Idxs.getD ((IntKind.wrap .i64 ((k88 : Int) - 1)).toNat) d_Idx).Name)), .bool (sLe ((p_0.Idxs.getD k88 d_Idx).Name) ((p_0.Idxs.getD ((IntKind.wrap .i64 ((k88 : Int) - 1)).toNat) d_Idx).Name)), .bool (sLe ((p_0.Idxs.getD k88 d_Idx).Name) ((p_0.Idxs.getD ((IntKind.wrap .i64 ((k88 : Int) - 1)).toNat) d_Idx).Name))] Tryz.follows rfl ?_ ?_
            ·refine ⟨oI rfl fun h => yl_fieldAddr fd111_0 rfl (h.g 6 rfl) kI, oI rfl fun h => yl_load1 ty9 rfl (h.g 52 rfl) (((Box.ex hB150 h.ex).cell 0).trans rfl) kI, ?_, oI rfl fun h => yl_not rfl (h.g 54 rfl) kI, oI rfl fun h => yM rfl (h.g 55 rfl) kI, oW rfl rfl rfl rfl (not_t hb153) fun h => yl_fieldAddr fd111_1 rfl (h.g 6 rfl) kI, oW rfl rfl rfl rfl (not_t hb153) fun h => yl_load1 ty3 rfl (h.g 57 rfl) (((Box.ex hB150 h.ex).cell 1).trans rfl) kI, oW rfl rfl rfl rfl (not_t hb153) fun h => yl_fieldAddr fd39_1 rfl (h.g 1 rfl) kI, oW rfl rfl rfl rfl (not_t hb153) fun h => yl_load1 ty22 rfl (h.g 59 rfl) (((Box.ex q173 h.ex).cell 1).trans rfl) kI, oW rfl rfl rfl rfl (not_t hb153) fun h => yL un22 rfl (h.g 60 rfl) kI, oW rfl rfl rfl rfl (not_t hb153) fun h => yl_sub rfl (h.g 61 rfl) rfl kI, ?_, oW rfl rfl rfl rfl (not_t hb153) fun h => yl_not rfl (h.g 63 rfl) kI, oI rfl fun h => yl_pick_f rfl (h.g 56 rfl) (not_t hb153) (h.g 64 rfl) kI, oI rfl fun h => yM rfl (h.g 65 rfl) kI, oW rfl rfl rfl rfl (not_t hb158) fun h => yl_fieldAddr fd111_2 rfl (h.g 6 rfl) kI, oW rfl rfl rfl rfl (not_t hb158) fun h => yl_load1 ty3 rfl (h.g 67 rfl) (((Box.ex hB150 h.ex).cell 2).trans rfl) kI, ?_, oW rfl rfl rfl rfl (not_t hb158) fun h => yl_not rfl (h.g 69 rfl) kI, oI rfl fun h => yl_pick_f rfl (h.g 66 rfl) (not_t hb158) (h.g 70 rfl) kI, oI rfl fun h => yM rfl (h.g 71 rfl) kI, oW rfl rfl rfl rfl (not_t hb164) fun h => yM rfl (h.g 5 rfl) kI, oW rfl rfl rfl rfl (not_t hb164) fun h => yl_gtr rfl (h.g 73 rfl) rfl kI, oW rfl rfl rfl rfl (not_t hb164) fun h => yM rfl (h.g 74 rfl) kI, oW rfl rfl rfl rfl hb170 fun h => yl_fieldAddr fd111_0 rfl (h.g 6 rfl) kI, oW rfl rfl rfl rfl hb170 fun h => yl_load1 ty9 rfl (h.g 76 rfl) (((Box.ex hB150 h.ex).cell 0).trans rfl) kI, oW rfl rfl rfl rfl hb170 fun h => yl_fieldAddr fd39_2 rfl (h.g 1 rfl) kI, oW rfl rfl rfl rfl hb170 fun h => yl_load1 ty37 rfl (h.g 78 rfl) (((Box.ex q173 h.ex).cell 2).trans rfl) kI, oW rfl rfl rfl rfl hb170 fun h => yM rfl (h.g 5 rfl) kI, oW rfl rfl rfl rfl hb170 fun h => yl_sub rfl (h.g 80 rfl) rfl kI, ?_, oW rfl rfl rfl rfl hb170 fun h => yl_fieldAddr fd111_0 rfl (h.g 82 rfl) kI, oW rfl rfl rfl rfl hb170 fun h => yl_load1 ty9 rfl (h.g 83 rfl) ((Cells.ex eC178 h.ex) 0 _ rfl) kI, oW rfl rfl rfl rfl hb170 fun h => yl_sleq (a := ((p_0.Idxs.getD k88 d_Idx).Name)) (b := ((p_0.Idxs.getD ((IntKind.wrap .i64 ((k88 : Int) - 1)).toNat) d_Idx).Name)) rfl (h.g 77 rfl) (h.g 84 rfl) kI, oW rfl rfl rfl rfl (not_t hb164) fun h => yl_pick_t rfl (h.g 75 rfl) hb170 (h.g 85 rfl) kI, oI rfl fun h => yl_pick_f rfl (h.g 72 rfl) (not_t hb164) (h.g 86 rfl) kI, trivial⟩
             ·intro L190 w191 hi192
              exact OpR.op' rfl (yC en113 rfl (oc (hi192.g 53 rfl) (oc rfl oz)) (Cal.mono (c_i_areLetters ((p_0.Idxs.getD k88 d_Idx).Name) 1 (okL.getD o3.2.2 ok_d_Idx _)) fun _ _ h => h))
             ·intro L246 w247 hi248
              exact OpR.want rfl rfl (hi248.g 56 rfl) (not_t hb153) (yC en96 rfl (oc (hi248.g 58 rfl) (oc rfl (oc (hi248.g 62 rfl) oz))) (Cal.mono (c_i_within ((p_0.Idxs.getD k88 d_Idx).Col) 1 (IntKind.wrap .i64 ((p_0.Cols.length : Int) - 1))) fun _ _ h => h))
             ·intro L286 w287 hi288
              exact OpR.want rfl rfl (hi288.g 66 rfl) (not_t hb158) (yC en115 rfl (oc (hi288.g 68 rfl) oz) (Cal.mono (c_i_isStage ((p_0.Idxs.getD k88 d_Idx).Stage)) fun _ _ h => h))
             ·intro L368 w369 hi370
              have hE371 := hi370.ex
              have hE371z := Ex.size hE371
              exact OpR.want rfl rfl (hi370.g 75 rfl) hb170 (Yl.sameI (yl_indexAddr un37 ty111 rfl (hi370.g 79 rfl) (hi370.g 81 rfl) eA178 Bo Bo kI))
            ·intro fl411 fh412 L408 w409 hp410
             have hE413 := hp410.ex
             have hE413z := Ex.size hE413
             refine dn (CW.sub (hp410.ss [1, 45, 46, 47, 87] rfl) (bcase (sLe ((p_0.Idxs.getD k88 d_Idx).Name) ((p_0.Idxs.getD ((IntKind.wrap .i64 ((k88 : Int) - 1)).toNat) d_Idx).Name)) (fun hb419 => ?_) (fun hb419 => ?_)))
             ·refine CW.cond_t rfl hb419 (cR (sA rfl (dn (CW.ret (br (tr ?_))))))
              refine tr ?_
              have hB421 : B_i_GoodTable_1 p_0 k88 () = .ret false := by simp only [B_i_GoodTable_1, hb16, hb21, hb23, hb153, hb158, hb164, hb170, hb419, hL87, cL]
              have hL420 : loopM (B_i_GoodTable_1 p_0) (p_0.Idxs.length - 0) 0 () = .ret false := hI133.symm.trans (loopM.ret hlt141 hB421)
              refine br (tr (rr rfl (.cons rfl .nil) ?_))
              rw [show (i_GoodTable p_0) = (false) by simp only [i_GoodTable, hb16, hb21, hb23, hb153, hb158, hb164, hb170, hb419, hL87, hL420, cL]]
              exact ⟨rfl, (Ex.trans (Below.only (Ex.trans hf139 hE148) hO151 oM) hE413)⟩
             ·refine CW.cond_f rfl hb419 (CW.skip (bn (tn (CW.region (sd rfl (yl_inc rfl rfl rfl oM (sM rfl (dn ?_))))))))
              have hB426 : B_i_GoodTable_1 p_0 k88 () = .cont () := by simp only [B_i_GoodTable_1, hb16, hb21, hb23, hb153, hb158, hb164, hb170, hb419, hL87, cL]
              exact ⟨p_0.Idxs.length - (k88 + 1), oM, k88 + 1, rfl, hlt141, oM, (sR rfl), (Box.ex q173 hE413), (RdS.ex gS (RdS.only gS (RdS.ex gS hf137 hE148) hO151 iV) hE413), (RdS.ex gI q177 hE413), (Ex.trans (Below.only (Ex.trans hf139 hE148) hO151 oM) hE413), (loopM.cont hlt141 hB426).symm.trans hI133⟩
           ·have q437 := Box.only (Box.ex hf136 hE148) hO151 oM
            refine drJ 36 [.pointer (some ⟨b143, 0 + 0, none⟩), .string (bs ((p_0.Idxs.getD k88 d_Idx).Name)), .bool ((i_areLetters ((p_0.Idxs.getD k88 d_Idx).Name) 1)), .bool (!(i_areLetters ((p_0.Idxs.getD k88 d_Idx).Name) 1)), .bool (!(i_areLetters ((p_0.Idxs.getD k88 d_Idx).Name) 1)), .pointer (some ⟨b143, 0 + 1, none⟩), .int .i64 ((p_0.Idxs.getD k88 d_Idx).Col), .pointer (some ⟨b7, 0 + 1, none⟩), .slice A1 p_0.Cols.length c1, .int .i64 ((p_0.Cols.length : Int)), .int .i64 (IntKind.wrap .i64 ((p_0.Cols.length : Int) - 1)), .bool ((i_within ((p_0.Idxs.getD k88 d_Idx).Col) 1 (IntKind.wrap .i64 ((p_0.Cols.length : Int) - 1)))), .bool (!(i_within ((p_0.Idxs.getD k88 d_Idx).Col) 1 (IntKind.wrap .i64 ((p_0.Cols.length : Int) - 1)))), .bool (!(i_within ((p_0.Idxs.getD k88 d_Idx).Col) 1 (IntKind.wrap .i64 ((p_0.Cols.length : Int) - 1)))), .bool (!(i_within ((p_0.Idxs.getD k88 d_Idx).Col) 1 (IntKind.wrap .i64 ((p_0.Cols.length : Int) - 1)))), .pointer (some ⟨b143, 0 + 2, none⟩), .int .i64 ((p_0.Idxs.getD k88 d_Idx).Stage), .bool ((i_isStage ((p_0.Idxs.getD k88 d_Idx).Stage))), .bool (!(i_isStage ((p_0.Idxs.getD k88 d_Idx).Stage))), .bool (!(i_isStage ((p_0.Idxs.getD k88 d_Idx).Stage))), .bool (!(i_isStage ((p_0.Idxs.getD k88 d_Idx).Stage))), .int .i64 ((k88 : Int)), .bool (decide (0 < (k88 : Int))), .bool (decide (0 < (k88 : Int))), undef, undef, undef, undef, undef, undef, undef, undef, undef, undef, .bool (false), .bool (false)] Tryz.follows rfl ?_ ?_
            ·refine ⟨oI rfl fun h => yl_fieldAddr fd111_0 rfl (h.g 6 rfl) kI, oI rfl fun h => yl_load1 ty9 rfl (h.g 52 rfl) (((Box.ex hB150 h.ex).cell 0).trans rfl) kI, ?_, oI rfl fun h => yl_not rfl (h.g 54 rfl) kI, oI rfl fun h => yM rfl (h.g 55 rfl) kI, oW rfl rfl rfl rfl (not_t hb153) fun h => yl_fieldAddr fd111_1 rfl (h.g 6 rfl) kI, oW rfl rfl rfl rfl (not_t hb153) fun h => yl_load1 ty3 rfl (h.g 57 rfl) (((Box.ex hB150 h.ex).cell 1).trans rfl) kI, oW rfl rfl rfl rfl (not_t hb153) fun h => yl_fieldAddr fd39_1 rfl (h.g 1 rfl) kI, oW rfl rfl rfl rfl (not_t hb153) fun h => yl_load1 ty22 rfl (h.g 59 rfl) (((Box.ex q437 h.ex).cell 1).trans rfl) kI, oW rfl rfl rfl rfl (not_t hb153) fun h => yL un22 rfl (h.g 60 rfl) kI, oW rfl rfl rfl rfl (not_t hb153) fun h => yl_sub rfl (h.g 61 rfl) rfl kI, ?_, oW rfl rfl rfl rfl (not_t hb153) fun h => yl_not rfl (h.g 63 rfl) kI, oI rfl fun h => yl_pick_f rfl (h.g 56 rfl) (not_t hb153) (h.g 64 rfl) kI, oI rfl fun h => yM rfl (h.g 65 rfl) kI, oW rfl rfl rfl rfl (not_t hb158) fun h => yl_fieldAddr fd111_2 rfl (h.g 6 rfl) kI, oW rfl rfl rfl rfl (not_t hb158) fun h => yl_load1 ty3 rfl (h.g 67 rfl) (((Box.ex hB150 h.ex).cell 2).trans rfl) kI, ?_, oW rfl rfl rfl rfl (not_t hb158) fun h => yl_not rfl (h.g 69 rfl) kI, oI rfl fun h => yl_pick_f rfl (h.g 66 rfl) (not_t hb158) (h.g 70 rfl) kI, oI rfl fun h => yM rfl (h.g 71 rfl) kI, oW rfl rfl rfl rfl (not_t hb164) fun h => yM rfl (h.g 5 rfl) kI, oW rfl rfl rfl rfl (not_t hb164) fun h => yl_gtr rfl (h.g 73 rfl) rfl kI, oW rfl rfl rfl rfl (not_t hb164) fun h => yM rfl (h.g 74 rfl) kI, oS rfl rfl rfl rfl rfl hb170, oS rfl rfl rfl rfl rfl hb170, oS rfl rfl rfl rfl rfl hb170, oS rfl rfl rfl rfl rfl hb170, oS rfl rfl rfl rfl rfl hb170, oS rfl rfl rfl rfl rfl hb170, oS rfl rfl rfl rfl rfl hb170, oS rfl rfl rfl rfl rfl hb170, oS rfl rfl rfl rfl rfl hb170, oS rfl rfl rfl rfl rfl hb170, oW rfl rfl rfl rfl (not_t hb164) fun h => yl_pick_f rfl (h.g 75 rfl) hb170 rfl kI, oI rfl fun h => yl_pick_f rfl (h.g 72 rfl) (not_t hb164) (h.g 86 rfl) kI, trivial⟩
             ·intro L451 w452 hi453
              exact OpR.op' rfl (yC en113 rfl (oc (hi453.g 53 rfl) (oc rfl oz)) (Cal.mono (c_i_areLetters ((p_0.Idxs.getD k88 d_Idx).Name) 1 (okL.getD o3.2.2 ok_d_Idx _)) fun _ _ h => h))
             ·intro L507 w508 hi509
              exact OpR.want rfl rfl (hi509.g 56 rfl) (not_t hb153) (yC en96 rfl (oc (hi509.g 58 rfl) (oc rfl (oc (hi509.g 62 rfl) oz))) (Cal.mono (c_i_within ((p_0.Idxs.getD k88 d_Idx).Col) 1 (IntKind.wrap .i64 ((p_0.Cols.length : Int) - 1))) fun _ _ h => h))
             ·intro L547 w548 hi549
              exact OpR.want rfl rfl (hi549.g 66 rfl) (not_t hb158) (yC en115 rfl (oc (hi549.g 68 rfl) oz) (Cal.mono (c_i_isStage ((p_0.Idxs.getD k88 d_Idx).Stage)) fun _ _ h => h))
            ·intro fl657 fh658 L654 w655 hp656
             have hE659 := hp656.ex
             have hE659z := Ex.size hE659
             refine dn (CW.sub (hp656.ss [1, 45, 46, 47, 87] rfl) (CW.cond_f rfl rfl (CW.skip (bn (tn (CW.region (sd rfl (yl_inc rfl rfl rfl oM ?_))))))))
             refine sM rfl (dn ?_)
             have hB665 : B_i_GoodTable_1 p_0 k88 () = .cont () := by simp only [B_i_GoodTable_1, hb16, hb21, hb23, hb153, hb158, hb164, hb170, hL87, cL]
             exact ⟨p_0.Idxs.length - (k88 + 1), oM, k88 + 1, rfl, hlt141, oM, (sR rfl), (Box.ex q437 hE659), (RdS.ex gS (RdS.only gS (RdS.ex gS hf137 hE148) hO151 iV) hE659), (RdS.ex gI (RdS.only gI (RdS.ex gI hf138 hE148) hO151 iV) hE659), (Ex.trans (Below.only (Ex.trans hf139 hE148) hO151 oM) hE659), (loopM.cont hlt141 hB665).symm.trans hI133⟩
          ·refine drJ 36 [.pointer (some ⟨b143, 0 + 0, none⟩), .string (bs ((p_0.Idxs.getD k88 d_Idx).Name)), .bool ((i_areLetters ((p_0.Idxs.getD k88 d_Idx).Name) 1)), .bool (!(i_areLetters ((p_0.Idxs.getD k88 d_Idx).Name) 1)), .bool (!(i_areLetters ((p_0.Idxs.getD k88 d_Idx).Name) 1)), .pointer (some ⟨b143, 0 + 1, none⟩), .int .i64 ((p_0.Idxs.getD k88 d_Idx).Col), .pointer (some ⟨b7, 0 + 1, none⟩), .slice A1 p_0.Cols.length c1, .int .i64 ((p_0.Cols.length : Int)), .int .i64 (IntKind.wrap .i64 ((p_0.Cols.length : Int) - 1)), .bool ((i_within ((p_0.Idxs.getD k88 d_Idx).Col) 1 (IntKind.wrap .i64 ((p_0.Cols.length : Int) - 1)))), .bool (!(i_within ((p_0.Idxs.getD k88 d_Idx).Col) 1 (IntKind.wrap .i64 ((p_0.Cols.length : Int) - 1)))), .bool (!(i_within ((p_0.Idxs.getD k88 d_Idx).Col) 1 (IntKind.wrap .i64 ((p_0.Cols.length : Int) - 1)))), .bool (!(i_within ((p_0.Idxs.getD k88 d_Idx).Col) 1 (IntKind.wrap .i64 ((p_0.Cols.length : Int) - 1)))), .pointer (some ⟨b143, 0 + 2, none⟩), .int .i64 ((p_0.Idxs.getD k88 d_Idx).Stage), .bool ((i_isStage ((p_0.Idxs.getD k88 d_Idx).Stage))), .bool (!(i_isStage ((p_0.Idxs.getD k88 d_Idx).Stage))), .bool (!(i_isStage ((p_0.Idxs.getD k88 d_Idx).Stage))), .bool (!(i_isStage ((p_0.Idxs.getD k88 d_Idx).Stage))), undef, undef, undef, undef, undef, undef, undef, undef, undef, undef, undef, undef, undef, undef, .bool (true)] Tryz.follows rfl ?_ ?_
           ·refine ⟨oI rfl fun h => yl_fieldAddr fd111_0 rfl (h.g 6 rfl) kI, oI rfl fun h => yl_load1 ty9 rfl (h.g 52 rfl) (((Box.ex hB150 h.ex).cell 0).trans rfl) kI, ?_, oI rfl fun h => yl_not rfl (h.g 54 rfl) kI, oI rfl fun h => yM rfl (h.g 55 rfl) kI, oW rfl rfl rfl rfl (not_t hb153) fun h => yl_fieldAddr fd111_1 rfl (h.g 6 rfl) kI, oW rfl rfl rfl rfl (not_t hb153) fun h => yl_load1 ty3 rfl (h.g 57 rfl) (((Box.ex hB150 h.ex).cell 1).trans rfl) kI, oW rfl rfl rfl rfl (not_t hb153) fun h => yl_fieldAddr fd39_1 rfl (h.g 1 rfl) kI, ?_, oW rfl rfl rfl rfl (not_t hb153) fun h => yL un22 rfl (h.g 60 rfl) kI, oW rfl rfl rfl rfl (not_t hb153) fun h => yl_sub rfl (h.g 61 rfl) rfl kI, ?_, oW rfl rfl rfl rfl (not_t hb153) fun h => yl_not rfl (h.g 63 rfl) kI, oI rfl fun h => yl_pick_f rfl (h.g 56 rfl) (not_t hb153) (h.g 64 rfl) kI, oI rfl fun h => yM rfl (h.g 65 rfl) kI, oW rfl rfl rfl rfl (not_t hb158) fun h => yl_fieldAddr fd111_2 rfl (h.g 6 rfl) kI, oW rfl rfl rfl rfl (not_t hb158) fun h => yl_load1 ty3 rfl (h.g 67 rfl) (((Box.ex hB150 h.ex).cell 2).trans rfl) kI, ?_, oW rfl rfl rfl rfl (not_t hb158) fun h => yl_not rfl (h.g 69 rfl) kI, oI rfl fun h => yl_pick_f rfl (h.g 66 rfl) (not_t hb158) (h.g 70 rfl) kI, oI rfl fun h => yM rfl (h.g 71 rfl) kI, oS rfl rfl rfl rfl rfl (not_f hb164), oS rfl rfl rfl rfl rfl (not_f hb164), oS rfl rfl rfl rfl rfl (not_f hb164), oU rfl rfl rfl rfl rfl, oU rfl rfl rfl rfl rfl, oU rfl rfl rfl rfl rfl, oU rfl rfl rfl rfl rfl, oU rfl rfl rfl rfl rfl, oU rfl rfl rfl rfl rfl, oU rfl rfl rfl rfl rfl, oU rfl rfl rfl rfl rfl, oU rfl rfl rfl rfl rfl, oU rfl rfl rfl rfl rfl, oS rfl rfl rfl rfl rfl (not_f hb164), oI rfl fun h => yl_pick_t rfl (h.g 72 rfl) (not_f hb164) rfl kI, trivial⟩
            ·intro L692 w693 hi694
             exact OpR.op' rfl (yC en113 rfl (oc (hi694.g 53 rfl) (oc rfl oz)) (Cal.mono (c_i_areLetters ((p_0.Idxs.getD k88 d_Idx).Name) 1 (okL.getD o3.2.2 ok_d_Idx _)) fun _ _ h => h))
            ·intro L729 w730 hi731
             have hE732 := hi731.ex
             have hE732z := Ex.size hE732
             exact OpR.want rfl rfl (hi731.g 56 rfl) (not_t hb153) (Yl.sameI (yl_load1 ty22 rfl (hi731.g 59 rfl) (((Box.ex (Box.only (Box.ex hf136 hE148) hO151 oM) hE732).cell 1).trans rfl) kI))
            ·intro L748 w749 hi750
             exact OpR.want rfl rfl (hi750.g 56 rfl) (not_t hb153) (yC en96 rfl (oc (hi750.g 58 rfl) (oc rfl (oc (hi750.g 62 rfl) oz))) (Cal.mono (c_i_within ((p_0.Idxs.getD k88 d_Idx).Col) 1 (IntKind.wrap .i64 ((p_0.Cols.length : Int) - 1))) fun _ _ h => h))
            ·intro L788 w789 hi790
             exact OpR.want rfl rfl (hi790.g 66 rfl) (not_t hb158) (yC en115 rfl (oc (hi790.g 68 rfl) oz) (Cal.mono (c_i_isStage ((p_0.Idxs.getD k88 d_Idx).Stage)) fun _ _ h => h))
           ·intro fl893 fh894 L890 w891 hp892
            have hE895 := hp892.ex
            have hE895z := Ex.size hE895
            refine dn (CW.sub (hp892.ss [1, 45, 46, 47, 87] rfl) (CW.cond_t rfl rfl (cR (sA rfl (dn ?_)))))
            refine CW.ret (br (tr (tr ?_)))
            have hB902 : B_i_GoodTable_1 p_0 k88 () = .ret false := by simp only [B_i_GoodTable_1, hb16, hb21, hb23, hb153, hb158, hb164, hL87, cL]
            have hL901 : loopM (B_i_GoodTable_1 p_0) (p_0.Idxs.length - 0) 0 () = .ret false := hI133.symm.trans (loopM.ret hlt141 hB902)
            refine br (tr (rr rfl (.cons rfl .nil) ?_))
            rw [show (i_GoodTable p_0) = (false) by simp only [i_GoodTable, hb16, hb21, hb23, hb153, hb158, hb164, hL87, hL901, cL]]
            exact ⟨rfl, (Ex.trans (Below.only (Ex.trans hf139 hE148) hO151 oM) hE895)⟩
         ·refine drJ 36 [.pointer (some ⟨b143, 0 + 0, none⟩), .string (bs ((p_0.Idxs.getD k88 d_Idx).Name)), .bool ((i_areLetters ((p_0.Idxs.getD k88 d_Idx).Name) 1)), .bool (!(i_areLetters ((p_0.Idxs.getD k88 d_Idx).Name) 1)), .bool (!(i_areLetters ((p_0.Idxs.getD k88 d_Idx).Name) 1)), .pointer (some ⟨b143, 0 + 1, none⟩), .int .i64 ((p_0.Idxs.getD k88 d_Idx).Col), .pointer (some ⟨b7, 0 + 1, none⟩), .slice A1 p_0.Cols.length c1, .int .i64 ((p_0.Cols.length : Int)), .int .i64 (IntKind.wrap .i64 ((p_0.Cols.length : Int) - 1)), .bool ((i_within ((p_0.Idxs.getD k88 d_Idx).Col) 1 (IntKind.wrap .i64 ((p_0.Cols.length : Int) - 1)))), .bool (!(i_within ((p_0.Idxs.getD k88 d_Idx).Col) 1 (IntKind.wrap .i64 ((p_0.Cols.length : Int) - 1)))), .bool (!(i_within ((p_0.Idxs.getD k88 d_Idx).Col) 1 (IntKind.wrap .i64 ((p_0.Cols.length : Int) - 1)))), .bool (!(i_within ((p_0.Idxs.getD k88 d_Idx).Col) 1 (IntKind.wrap .i64 ((p_0.Cols.length : Int) - 1)))), undef, undef, undef, undef, .bool (true), .bool (true), undef, undef, undef, undef, undef, undef, undef, undef, undef, undef, undef, undef, undef, undef, .bool (true)] Tryz.follows rfl ?_ ?_
          ·refine ⟨oI rfl fun h => yl_fieldAddr fd111_0 rfl (h.g 6 rfl) kI, oI rfl fun h => yl_load1 ty9 rfl (h.g 52 rfl) (((Box.ex hB150 h.ex).cell 0).trans rfl) kI, ?_, oI rfl fun h => yl_not rfl (h.g 54 rfl) kI, oI rfl fun h => yM rfl (h.g 55 rfl) kI, oW rfl rfl rfl rfl (not_t hb153) fun h => yl_fieldAddr fd111_1 rfl (h.g 6 rfl) kI, oW rfl rfl rfl rfl (not_t hb153) fun h => yl_load1 ty3 rfl (h.g 57 rfl) (((Box.ex hB150 h.ex).cell 1).trans rfl) kI, oW rfl rfl rfl rfl (not_t hb153) fun h => yl_fieldAddr fd39_1 rfl (h.g 1 rfl) kI, ?_, oW rfl rfl rfl rfl (not_t hb153) fun h => yL un22 rfl (h.g 60 rfl) kI, oW rfl rfl rfl rfl (not_t hb153) fun h => yl_sub rfl (h.g 61 rfl) rfl kI, ?_, oW rfl rfl rfl rfl (not_t hb153) fun h => yl_not rfl (h.g 63 rfl) kI, oI rfl fun h => yl_pick_f rfl (h.g 56 rfl) (not_t hb153) (h.g 64 rfl) kI, oI rfl fun h => yM rfl (h.g 65 rfl) kI, oS rfl rfl rfl rfl rfl (not_f hb158), oS rfl rfl rfl rfl rfl (not_f hb158), oS rfl rfl rfl rfl rfl (not_f hb158), oS rfl rfl rfl rfl rfl (not_f hb158), oI rfl fun h => yl_pick_t rfl (h.g 66 rfl) (not_f hb158) rfl kI, oI rfl fun h => yM rfl (h.g 71 rfl) kI, oS rfl rfl rfl rfl rfl rfl, oS rfl rfl rfl rfl rfl rfl, oS rfl rfl rfl rfl rfl rfl, oU rfl rfl rfl rfl rfl, oU rfl rfl rfl rfl rfl, oU rfl rfl rfl rfl rfl, oU rfl rfl rfl rfl rfl, oU rfl rfl rfl rfl rfl, oU rfl rfl rfl rfl rfl, oU rfl rfl rfl rfl rfl, oU rfl rfl rfl rfl rfl, oU rfl rfl rfl rfl rfl, oU rfl rfl rfl rfl rfl, oS rfl rfl rfl rfl rfl rfl, oI rfl fun h => yl_pick_t rfl (h.g 72 rfl) rfl rfl kI, trivial⟩
           ·intro L922 w923 hi924
            exact OpR.op' rfl (yC en113 rfl (oc (hi924.g 53 rfl) (oc rfl oz)) (Cal.mono (c_i_areLetters ((p_0.Idxs.getD k88 d_Idx).Name) 1 (okL.getD o3.2.2 ok_d_Idx _)) fun _ _ h => h))
           ·intro L959 w960 hi961
            have hE962 := hi961.ex
            have hE962z := Ex.size hE962
            exact OpR.want rfl rfl (hi961.g 56 rfl) (not_t hb153) (Yl.sameI (yl_load1 ty22 rfl (hi961.g 59 rfl) (((Box.ex (Box.only (Box.ex hf136 hE148) hO151 oM) hE962).cell 1).trans rfl) kI))
           ·intro L978 w979 hi980
            exact OpR.want rfl rfl (hi980.g 56 rfl) (not_t hb153) (yC en96 rfl (oc (hi980.g 58 rfl) (oc rfl (oc (hi980.g 62 rfl) oz))) (Cal.mono (c_i_within ((p_0.Idxs.getD k88 d_Idx).Col) 1 (IntKind.wrap .i64 ((p_0.Cols.length : Int) - 1))) fun _ _ h => h))
          ·intro fl1115 fh1116 L1112 w1113 hp1114
           have hE1117 := hp1114.ex
           have hE1117z := Ex.size hE1117
           refine dn (CW.sub (hp1114.ss [1, 45, 46, 47, 87] rfl) (CW.cond_t rfl rfl (cR (sA rfl (dn ?_)))))
           refine CW.ret (br (tr (tr ?_)))
           have hB1124 : B_i_GoodTable_1 p_0 k88 () = .ret false := by simp only [B_i_GoodTable_1, hb16, hb21, hb23, hb153, hb158, hL87, cL]
           have hL1123 : loopM (B_i_GoodTable_1 p_0) (p_0.Idxs.length - 0) 0 () = .ret false := hI133.symm.trans (loopM.ret hlt141 hB1124)
           refine br (tr (rr rfl (.cons rfl .nil) ?_))
           rw [show (i_GoodTable p_0) = (false) by simp only [i_GoodTable, hb16, hb21, hb23, hb153, hb158, hL87, hL1123, cL]]
           exact ⟨rfl, (Ex.trans (Below.only (Ex.trans hf139 hE148) hO151 oM) hE1117)⟩
        ·refine drJ 36 [.pointer (some ⟨b143, 0 + 0, none⟩), .string (bs ((p_0.Idxs.getD k88 d_Idx).Name)), .bool ((i_areLetters ((p_0.Idxs.getD k88 d_Idx).Name) 1)), .bool (!(i_areLetters ((p_0.Idxs.getD k88 d_Idx).Name) 1)), .bool (!(i_areLetters ((p_0.Idxs.getD k88 d_Idx).Name) 1)), undef, undef, undef, undef, undef, undef, undef, undef, .bool (true), .bool (true), undef, undef, undef, undef, .bool (true), .bool (true), undef, undef, undef, undef, undef, undef, undef, undef, undef, undef, undef, undef, undef, undef, .bool (true)] Tryz.follows rfl ?_ ?_
         ·refine ⟨oI rfl fun h => yl_fieldAddr fd111_0 rfl (h.g 6 rfl) kI, oI rfl fun h => yl_load1 ty9 rfl (h.g 52 rfl) (((Box.ex hB150 h.ex).cell 0).trans rfl) kI, ?_, oI rfl fun h => yl_not rfl (h.g 54 rfl) kI, oI rfl fun h => yM rfl (h.g 55 rfl) kI, oS rfl rfl rfl rfl rfl (not_f hb153), oS rfl rfl rfl rfl rfl (not_f hb153), oS rfl rfl rfl rfl rfl (not_f hb153), oS rfl rfl rfl rfl rfl (not_f hb153), oS rfl rfl rfl rfl rfl (not_f hb153), oS rfl rfl rfl rfl rfl (not_f hb153), oS rfl rfl rfl rfl rfl (not_f hb153), oS rfl rfl rfl rfl rfl (not_f hb153), oI rfl fun h => yl_pick_t rfl (h.g 56 rfl) (not_f hb153) rfl kI, oI rfl fun h => yM rfl (h.g 65 rfl) kI, oS rfl rfl rfl rfl rfl rfl, oS rfl rfl rfl rfl rfl rfl, oS rfl rfl rfl rfl rfl rfl, oS rfl rfl rfl rfl rfl rfl, oI rfl fun h => yl_pick_t rfl (h.g 66 rfl) rfl rfl kI, oI rfl fun h => yM rfl (h.g 71 rfl) kI, oS rfl rfl rfl rfl rfl rfl, oS rfl rfl rfl rfl rfl rfl, oS rfl rfl rfl rfl rfl rfl, oU rfl rfl rfl rfl rfl, oU rfl rfl rfl rfl rfl, oU rfl rfl rfl rfl rfl, oU rfl rfl rfl rfl rfl, oU rfl rfl rfl rfl rfl, oU rfl rfl rfl rfl rfl, oU rfl rfl rfl rfl rfl, oU rfl rfl rfl rfl rfl, oU rfl rfl rfl rfl rfl, oU rfl rfl rfl rfl rfl, oS rfl rfl rfl rfl rfl rfl, oI rfl fun h => yl_pick_t rfl (h.g 72 rfl) rfl rfl kI, trivial⟩
          ·intro L1141 w1142 hi1143
           exact OpR.op' rfl (yC en113 rfl (oc (hi1143.g 53 rfl) (oc rfl oz)) (Cal.mono (c_i_areLetters ((p_0.Idxs.getD k88 d_Idx).Name) 1 (okL.getD o3.2.2 ok_d_Idx _)) fun _ _ h => h))
         ·intro fl1320 fh1321 L1317 w1318 hp1319
          have hE1322 := hp1319.ex
          have hE1322z := Ex.size hE1322
          refine dn (CW.sub (hp1319.ss [1, 45, 46, 47, 87] rfl) (CW.cond_t rfl rfl (cR (sA rfl (dn ?_)))))
          refine CW.ret (br (tr (tr ?_)))
          have hB1329 : B_i_GoodTable_1 p_0 k88 () = .ret false := by simp only [B_i_GoodTable_1, hb16, hb21, hb23, hb153, hL87, cL]
          have hL1328 : loopM (B_i_GoodTable_1 p_0) (p_0.Idxs.length - 0) 0 () = .ret false := hI133.symm.trans (loopM.ret hlt141 hB1329)
          refine br (tr (rr rfl (.cons rfl .nil) ?_))
          rw [show (i_GoodTable p_0) = (false) by simp only [i_GoodTable, hb16, hb21, hb23, hb153, hL87, hL1328, cL]]
          exact ⟨rfl, (Ex.trans (Below.only (Ex.trans hf139 hE148) hO151 oM) hE1322)⟩
       ·refine cR (sd rfl (yl_lss rfl rfl rfl (dn (CW.seq (CW.cond_f rfl (lt_f hlt141) (CW.exit (tx ?_)))))))
        refine tx ?_
        have hL1334 : loopM (B_i_GoodTable_1 p_0) (p_0.Idxs.length - 0) 0 () = .done () := hI133.symm.trans (loopM.stop hlt141)
        refine bx (tn (cR (sA rfl (dn (CW.ret (rr rfl (.cons rfl .nil) ?_))))))
        rw [show (i_GoodTable p_0) = (true) by simp only [i_GoodTable, hb16, hb21, hb23, hL87, hL1334, cL]]
        exact ⟨rfl, hf139⟩
  ·refine sz rfl rfl (not_f hb21) (sz rfl rfl (not_f hb21) (sz rfl rfl (not_f hb21) (sz rfl rfl (not_f hb21) (sd rfl (yl_pick_t rfl rfl (not_f hb21) rfl (dn (CW.cond_t rfl rfl (CW.seq ?_))))))))
   refine CW.region (sA rfl (dn (CW.ret (tr (rr rfl (.cons rfl .nil) ?_)))))
   rw [show (i_GoodTable p_0) = (false) by simp only [i_GoodTable, hb16, hb21, cL]]
   exact ⟨rfl, (Ex.trans (Ex.trans (Ex.trans (Ex.refl w) hE12) hE15) hE20)⟩
 ·refine sz rfl rfl (not_f hb16) (sz rfl rfl (not_f hb16) (sz rfl rfl (not_f hb16) (sz rfl rfl (not_f hb16) (sz rfl rfl (not_f hb16) (sd rfl (yl_pick_t rfl rfl (not_f hb16) rfl (sM rfl (sz rfl rfl rfl (sz rfl rfl rfl ?_)))))))))
  refine sz rfl rfl rfl (sz rfl rfl rfl (sd rfl (yl_pick_t rfl rfl rfl rfl (dn (CW.cond_t rfl rfl (cR (sA rfl ?_)))))))
  refine dn (CW.ret (tr (rr rfl (.cons rfl .nil) ?_)))
  rw [show (i_GoodTable p_0) = (false) by simp only [i_GoodTable, hb16, cL]]
  exact ⟨rfl, (Ex.trans (Ex.trans (Ex.refl w) hE12) hE15)⟩
theorem c_g_slices_IndexFunc_string {A1 : Option Addr} {c1 : Nat} {g3 : Nat} {cp4 : List Value} {w : World} (p_s : List Str) (p_f : Str → Bool) (h1 : RdS w (Iv 0 w.heap.size) (RF e_Str) 1 A1 p_s.length c1 p_s) (hen5 : Go.X.Enters Tryz.prog g3) (hfn6 : ∀ (w1 : World) (y0 : Str), Ex w w1 → y0 ∈ p_s → okS y0 → Cal Tryz.prog g3 (([.string (bs (y0))] : List Value) ++ cp4).toArray w1 fun v w2 => v = .bool (p_f y0) ∧ Ex w1 w2) (o2 : (okL okS) p_s) : Cal Tryz.prog 203 #[.slice A1 p_s.length c1, .func (.func g3) #[] cp4.toArray] w fun v w' => v = .int .i64 ((g_slices_IndexFunc_string p_s p_f)) ∧ Ex w w' := by
 have hol7 := o2.1
 refine Cal.of func203 rfl ntmps203 rfl (cR (sA rfl (dn (CW.seq (cR ?_)))))
 refine sM rfl (sd rfl (yL un22 rfl rfl (sM rfl (dn (CW.block (CW.loop (fun m9 L10 w11 => ∃ (k8 : Nat), m9 = p_s.length - k8 ∧ k8 ≤ p_s.length ∧ w.heap.size ≤ w11.heap.size ∧ Sub [(0, .slice A1 p_s.length c1), (1, .func (.func g3) #[] cp4.toArray), (7, .int .i64 ((p_s.length : Int))), (8, .int .i64 ((k8 : Int)))] L10 ∧ RdS w11 (Iv 0 w.heap.size) (RF e_Str) 1 A1 p_s.length c1 p_s ∧ Ex w w11 ∧ loopM (B_g_slices_IndexFunc_string_0 p_s p_f) (p_s.length - k8) k8 () = loopM (B_g_slices_IndexFunc_string_0 p_s p_f) (p_s.length - 0) 0 ()) (p_s.length - 0) ?_ ?_))))))
 ·exact ⟨0, rfl, oM, Nat.le_refl _, (sR rfl), h1, (Ex.refl w), rfl⟩
 ·rintro m12 L13 w14 ⟨k8, rfl, hk15, hsz17, hl18, hf19, hf20, hI16⟩
  refine CW.sub hl18 ?_
  have hf20z := Ex.size hf20
  have hbg21 := RdS.big hf19
  rcases Nat.lt_or_ge k8 p_s.length with hlt22 | hlt22
  ·refine cR (sd rfl (yl_lss rfl rfl rfl (dn (CW.seq (CW.cond_t rfl (lt_t hlt22) (CW.skip (tn ?_)))))))
   refine CW.seq (CW.block (cR (sM rfl (sA rfl (dn (CW.seq ?_))))))
   refine CW.region (sM rfl (sM rfl (sM rfl ?_)))
   obtain ⟨_, _, _, eA23, _, ebl23, _, eR23, eC23⟩ := RdS.aD hf19 d_Str (i := k8)
   obtain rfl := eR23
   refine sd rfl (yl_ixN un22 ty9 rfl rfl rfl eA23 (sd rfl (yl_load1 ty9 rfl rfl (eC23 0 _ rfl) (sd rfl (yl_callv hen5 rfl rfl (oc rfl oz) (Cal.mono (hfn6 w14 (p_s.getD k8 d_Str) hf20 (getD_mem oM) (okL.getD o2 ok_d_Str _)) ?_))))))
   rintro v25 w24 ⟨rfl, hE26⟩
   have hE26z := Ex.size hE26
   refine dn (bcase (p_f (p_s.getD k8 d_Str)) (fun hb27 => ?_) (fun hb27 => ?_))
   ·refine CW.cond_t rfl hb27 (cR (sM rfl (sA rfl (dn (CW.ret (br ?_))))))
    refine tr (tr ?_)
    have hB29 : B_g_slices_IndexFunc_string_0 p_s p_f k8 () = .ret (k8 : Int) := by simp only [B_g_slices_IndexFunc_string_0, hb27, cL]
    have hL28 : loopM (B_g_slices_IndexFunc_string_0 p_s p_f) (p_s.length - 0) 0 () = .ret (k8 : Int) := hI16.symm.trans (loopM.ret hlt22 hB29)
    refine br (tr (rr rfl (.cons rfl .nil) ?_))
    rw [show (g_slices_IndexFunc_string p_s p_f) = ((k8 : Int)) by simp only [g_slices_IndexFunc_string, hb27, hL28, cL]]
    exact ⟨rfl, (Ex.trans hf20 hE26)⟩
   ·refine CW.cond_f rfl hb27 (CW.skip (bn (tn (CW.region (sd rfl (yl_inc rfl rfl rfl oM (sM rfl (dn ?_))))))))
    have hB32 : B_g_slices_IndexFunc_string_0 p_s p_f k8 () = .cont () := by simp only [B_g_slices_IndexFunc_string_0, hb27, cL]
    exact ⟨p_s.length - (k8 + 1), oM, k8 + 1, rfl, hlt22, oM, (sR rfl), (RdS.ex gS hf19 hE26), (Ex.trans hf20 hE26), (loopM.cont hlt22 hB32).symm.trans hI16⟩
  ·refine cR (sd rfl (yl_lss rfl rfl rfl (dn (CW.seq (CW.cond_f rfl (lt_f hlt22) (CW.exit (tx ?_)))))))
   refine tx ?_
   have hL35 : loopM (B_g_slices_IndexFunc_string_0 p_s p_f) (p_s.length - 0) 0 () = .done () := hI16.symm.trans (loopM.stop hlt22)
   refine bx (tn (cR (sA rfl (dn (CW.ret (rr rfl (.cons rfl .nil) ?_))))))
   rw [show (g_slices_IndexFunc_string p_s p_f) = (-1) by simp only [g_slices_IndexFunc_string, hL35, cL]]
   exact ⟨rfl, hf20⟩
theorem c_g_slices_ContainsFunc_string {A1 : Option Addr} {c1 : Nat} {g3 : Nat} {cp4 : List Value} {w : World} (p_s : List Str) (p_f : Str → Bool) (h1 : RdS w (Iv 0 w.heap.size) (RF e_Str) 1 A1 p_s.length c1 p_s) (hen5 : Go.X.Enters Tryz.prog g3) (hfn6 : ∀ (w1 : World) (y0 : Str), Ex w w1 → y0 ∈ p_s → okS y0 → Cal Tryz.prog g3 (([.string (bs (y0))] : List Value) ++ cp4).toArray w1 fun v w2 => v = .bool (p_f y0) ∧ Ex w1 w2) (o2 : (okL okS) p_s) : Cal Tryz.prog 173 #[.slice A1 p_s.length c1, .func (.func g3) #[] cp4.toArray] w fun v w' => v = .bool ((g_slices_ContainsFunc_string p_s p_f)) ∧ Ex w w' := by
 refine Cal.of func173 rfl ntmps173 rfl (cR (sA rfl (dn (cR (sM rfl ?_)))))
 refine sM rfl (sd rfl (yC en203 rfl (oc rfl (oc rfl oz)) (Cal.mono (c_g_slices_IndexFunc_string p_s p_f (RdS.up h1 gS) hen5 (fun w1 y0 => fun hE => hfn6 w1 y0 (Ex.trans (Ex.refl w) hE)) o2) ?_)))
 rintro v9 w8 ⟨rfl, hE10⟩
 refine sd rfl (yl_geq rfl rfl rfl (sA rfl (dn (CW.ret (rr rfl (.cons rfl .nil) ?_)))))
 rw [show (g_slices_ContainsFunc_string p_s p_f) = (decide (0 ≤ (g_slices_IndexFunc_string p_s p_f))) by simp only [g_slices_ContainsFunc_string, cL]]
 exact ⟨rfl, (Ex.trans (Ex.refl w) hE10)⟩
end Go.Proofs.YtoimdjojffkefaaGreatDoor
