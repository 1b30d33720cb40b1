/- Fn Entries: what each call returns, part 5. -/
import Derived.Test.YtlnjgkmpaebioaaGreatDoorFnEntriesC4
set_option maxRecDepth 100000
set_option maxHeartbeats 2000000
open Go.Proofs.Tryz Go.Proofs.YtlnjgkmpaebioaaGreatDoor.Tryz
set_option linter.unusedVariables false
set_option linter.unusedSimpArgs false
namespace Go.Proofs.YtlnjgkmpaebioaaGreatDoor
open Go.RowKit Go.X
theorem c_l_qSameS {A1 : Option Addr} {c1 : Nat} {A3 : Option Addr} {c3 : Nat} {w : World} (p_a : List Str) (p_b : List Str) (h1 : RdS w (Iv 0 w.heap.size) (RF e_Str) 1 A1 p_a.length c1 p_a) (h3 : RdS w (Iv 0 w.heap.size) (RF e_Str) 1 A3 p_b.length c3 p_b) (o2 : (okL okS) p_a) (o4 : (okL okS) p_b) : Cal Tryz.prog 13 #[.slice A1 p_a.length c1, .slice A3 p_b.length c3] w fun v w' => v = .bool ((l_qSameS p_a p_b)) ∧ Ex w w' := by
 have hol5 := o2.1
 have hol6 := o4.1
 refine Cal.of func13 rfl ntmps13 rfl (CW.seq (CW.region (sd rfl (yA rfl rfl (dn (CW.seq (CW.seq (CW.region ?_))))))))
 refine sd rfl (yM rfl rfl (sd rfl (yL un23 rfl rfl (sd rfl (yM rfl rfl (sd rfl (yL un23 rfl rfl (sd rfl (yl_neq rfl rfl rfl (dn (bcase (decide ((p_a.length : Int) = (p_b.length : Int))) (fun hb7 => ?_) (fun hb7 => ?_))))))))))))
 ·have hb7p := dec_t hb7
  refine CW.cond_f rfl (not_t hb7) (CW.skip (tn (CW.seq (CW.seq (CW.region (sd rfl (yM rfl rfl (sd rfl (yL un23 rfl rfl (sd rfl (yM rfl rfl ?_)))))))))))
  refine dn (CW.block (CW.loop (fun m9 L10 w11 => ∃ (k8 : Nat), m9 = p_a.length - k8 ∧ k8 ≤ p_a.length ∧ w.heap.size ≤ w11.heap.size ∧ lkp L10 0 = some (.slice A1 p_a.length c1) ∧ lkp L10 1 = some (.slice A3 p_b.length c3) ∧ lkp L10 12 = some (.int .i64 ((p_a.length : Int))) ∧ lkp L10 13 = some (.int .i64 ((k8 : Int))) ∧ RdS w11 (Iv 0 w.heap.size) (RF e_Str) 1 A1 p_a.length c1 p_a ∧ RdS w11 (Iv 0 w.heap.size) (RF e_Str) 1 A3 p_b.length c3 p_b ∧ Ex w w11 ∧ loopM (B_l_qSameS_0 p_a p_b) (p_a.length - k8) k8 () = loopM (B_l_qSameS_0 p_a p_b) (p_a.length - 0) 0 ()) (p_a.length - 0) ?_ ?_))
  ·exact ⟨0, rfl, (by omega), Nat.le_refl _, rfl, rfl, rfl, rfl, h1, h3, (Ex.refl w), rfl⟩
  ·rintro m12 L13 w14 ⟨k8, rfl, hk15, hsz17, hl18, hl19, hl20, hl21, hf22, hf23, hf24, hI16⟩
   refine CW.sub (Sub.cons hl18 (Sub.cons hl19 (Sub.cons hl20 (Sub.cons hl21 (Sub.nil _))))) ?_
   have hf24z := Ex.size hf24
   have hbg25 := RdS.big hf22
   rcases Nat.lt_or_ge k8 p_a.length with hlt26 | hlt26
   ·refine CW.seq (CW.region (sd rfl (yl_lss rfl rfl rfl (dn (CW.seq (CW.cond_t rfl (lt_t hlt26) (CW.skip (tn ?_))))))))
    refine CW.seq (CW.block (CW.seq (CW.region (sd rfl (yM rfl rfl (sd rfl (yA rfl rfl (dn (CW.seq ?_)))))))))
    obtain ⟨eb27, eo27, _, eA27, _, ebl27, _, eR27, eC27⟩ := RdS.aD hf22 d_Str (i := k8)
    obtain rfl := eR27
    have eC27 : Cells w14 eb27 (eo27 + k8 * 1) [.string (bs ((p_a.getD k8 d_Str)))] := eC27
    obtain ⟨eb28, eo28, _, eA28, _, ebl28, _, eR28, eC28⟩ := RdS.aD hf23 d_Str (i := k8)
    obtain rfl := eR28
    have eC28 : Cells w14 eb28 (eo28 + k8 * 1) [.string (bs ((p_b.getD k8 d_Str)))] := eC28
    refine CW.drawsI 9 (vgetI ([.slice A1 p_a.length c1, .int .i64 ((k8 : Int)), .pointer (some ⟨eb27, eo27 + k8 * 1, none⟩), .string (bs ((p_a.getD k8 d_Str))), .slice A3 p_b.length c3, .int .i64 ((k8 : Int)), .pointer (some ⟨eb28, eo28 + k8 * 1, none⟩), .string (bs ((p_b.getD k8 d_Str))), .bool (!((p_a.getD k8 d_Str) == (p_b.getD k8 d_Str)))].map DetI)) Tryz.follows rfl rfl rfl rfl rfl rfl (vgetI_stable (stD _)) ⟨?_, ?_, ?_, ?_, ?_, ?_, ?_, ?_, ?_, trivial⟩ ?_
    ·exact oI rfl fun h => yM rfl (h.old 0 _ rfl rfl) kI
    ·exact oI rfl fun h => yM rfl (h.old 5 _ rfl rfl) kI
    ·intro L39 w40 hi41
     have hE42 := hi41.ex
     have hE42z := Ex.size hE42
     exact os rfl ((yl_ixN un23 ty9 rfl (hi41.dt 0 16 rfl rfl rfl) (hi41.dt 1 17 rfl rfl rfl) eA27 kI))
    ·exact oI rfl fun h => yl_load1 ty9 rfl (h.dt 2 18 rfl rfl rfl) ((Cells.ex eC27 h.ex) 0 _ rfl) kI
    ·exact oI rfl fun h => yM rfl (h.old 1 _ rfl rfl) kI
    ·exact oI rfl fun h => yM rfl (h.old 5 _ rfl rfl) kI
    ·intro L61 w62 hi63
     have hE64 := hi63.ex
     have hE64z := Ex.size hE64
     exact os rfl ((yl_ixN un23 ty9 rfl (hi63.dt 4 20 rfl rfl rfl) (hi63.dt 5 21 rfl rfl rfl) eA28 kI))
    ·exact oI rfl fun h => yl_load1 ty9 rfl (h.dt 6 22 rfl rfl rfl) ((Cells.ex eC28 h.ex) 0 _ rfl) kI
    ·exact oI rfl fun h => yl_sneq (a := (p_a.getD k8 d_Str)) (b := (p_b.getD k8 d_Str)) rfl (h.dt 3 19 rfl rfl rfl) (h.dt 7 23 rfl rfl rfl) kI
    ·intro fl82 fh83 L79 w80 hp81
     have hE84 := hp81.ex
     have hE84z := Ex.size hE84
     refine dn (CW.sub (Sub.cons (d := 0) (hp81.old 0 _ rfl rfl) (Sub.cons (d := 1) (hp81.old 1 _ rfl rfl) (Sub.cons (d := 12) (hp81.old 12 _ rfl rfl) (Sub.cons (d := 13) (hp81.old 13 _ rfl rfl) (Sub.cons (d := 24) (hp81.nt 8 24 rfl rfl rfl) (Sub.nil _)))))) (bcase ((p_a.getD k8 d_Str) == (p_b.getD k8 d_Str)) (fun hb90 => ?_) (fun hb90 => ?_)))
     ·refine CW.cond_f rfl (not_t hb90) (CW.skip (bn (tn (CW.region (sd rfl (yl_inc rfl rfl rfl (by omega) (sd rfl (yM rfl rfl (dn ?_)))))))))
      have hB91 : B_l_qSameS_0 p_a p_b k8 () = .cont () := by simp only [B_l_qSameS_0, hb7, hb90, cL]
      exact ⟨p_a.length - (k8 + 1), by omega, k8 + 1, rfl, hlt26, (by omega), rfl, rfl, rfl, rfl, (RdS.ex gS hf22 hE84), (RdS.ex gS hf23 hE84), (Ex.trans hf24 hE84), (loopM.cont hlt26 hB91).symm.trans hI16⟩
     ·refine CW.cond_t rfl (not_f hb90) (CW.seq (CW.region (sd rfl (yA rfl rfl (dn (CW.ret (br (tr ?_))))))))
      refine tr ?_
      have hB96 : B_l_qSameS_0 p_a p_b k8 () = .ret false := by simp only [B_l_qSameS_0, hb7, hb90, cL]
      have hL95 : loopM (B_l_qSameS_0 p_a p_b) (p_a.length - 0) 0 () = .ret false := hI16.symm.trans (loopM.ret hlt26 hB96)
      refine br (tr (rr rfl (.cons rfl .nil) ?_))
      have hM97 : (l_qSameS p_a p_b) = (false) := by simp only [l_qSameS, hb7, hb90, hL95, cL]
      rw [hM97]
      exact ⟨rfl, (Ex.trans hf24 hE84)⟩
   ·refine CW.seq (CW.region (sd rfl (yl_lss rfl rfl rfl (dn (CW.seq (CW.cond_f rfl (lt_f hlt26) (CW.exit (tx ?_))))))))
    refine tx ?_
    have hL99 : loopM (B_l_qSameS_0 p_a p_b) (p_a.length - 0) 0 () = .done () := hI16.symm.trans (loopM.stop hlt26)
    refine bx (tn (CW.seq (CW.region (sd rfl (yA rfl rfl (dn (CW.ret (rr rfl (.cons rfl .nil) ?_))))))))
    have hM100 : (l_qSameS p_a p_b) = (true) := by simp only [l_qSameS, hb7, hL99, cL]
    rw [hM100]
    exact ⟨rfl, hf24⟩
 ·have hb7p := dec_f hb7
  refine CW.cond_t rfl (not_f hb7) (CW.seq (CW.region (sd rfl (yA rfl rfl (dn (CW.ret (tr (rr rfl (.cons rfl .nil) ?_))))))))
  have hM101 : (l_qSameS p_a p_b) = (false) := by simp only [l_qSameS, hb7, cL]
  rw [hM101]
  exact ⟨rfl, (Ex.refl w)⟩
theorem c_l_qSameRows {A1 : Option Addr} {c1 : Nat} {A3 : Option Addr} {c3 : Nat} {w : World} (p_a : List DRow) (p_b : List DRow) (h1 : RdS w (Iv 0 w.heap.size) R_Row 1 A1 p_a.length c1 p_a) (h3 : RdS w (Iv 0 w.heap.size) R_Row 1 A3 p_b.length c3 p_b) (o2 : (okL ok_Row) p_a) (o4 : (okL ok_Row) p_b) : Cal Tryz.prog 14 #[.slice A1 p_a.length c1, .slice A3 p_b.length c3] w fun v w' => v = .bool ((l_qSameRows p_a p_b)) ∧ Ex w w' := by
 have hol5 := o2.1
 have hol6 := o4.1
 refine Cal.of func14 rfl ntmps14 rfl (CW.seq (CW.region (sd rfl (yA rfl rfl (dn (CW.seq (CW.seq (CW.region ?_))))))))
 refine sd rfl (yM rfl rfl (sd rfl (yL un32 rfl rfl (sd rfl (yM rfl rfl (sd rfl (yL un32 rfl rfl (sd rfl (yl_neq rfl rfl rfl (dn (bcase (decide ((p_a.length : Int) = (p_b.length : Int))) (fun hb7 => ?_) (fun hb7 => ?_))))))))))))
 ·have hb7p := dec_t hb7
  refine CW.cond_f rfl (not_t hb7) (CW.skip (tn (CW.seq (CW.seq (CW.region (sd rfl (yM rfl rfl (sd rfl (yL un32 rfl rfl (sd rfl (yM rfl rfl ?_)))))))))))
  refine dn (CW.block (CW.loop (fun m9 L10 w11 => ∃ (k8 : Nat), m9 = p_a.length - k8 ∧ k8 ≤ p_a.length ∧ w.heap.size ≤ w11.heap.size ∧ lkp L10 0 = some (.slice A1 p_a.length c1) ∧ lkp L10 1 = some (.slice A3 p_b.length c3) ∧ lkp L10 12 = some (.int .i64 ((p_a.length : Int))) ∧ lkp L10 13 = some (.int .i64 ((k8 : Int))) ∧ RdS w11 (Iv 0 w.heap.size) R_Row 1 A1 p_a.length c1 p_a ∧ RdS w11 (Iv 0 w.heap.size) R_Row 1 A3 p_b.length c3 p_b ∧ Ex w w11 ∧ loopM (B_l_qSameRows_0 p_a p_b) (p_a.length - k8) k8 () = loopM (B_l_qSameRows_0 p_a p_b) (p_a.length - 0) 0 ()) (p_a.length - 0) ?_ ?_))
  ·exact ⟨0, rfl, (by omega), Nat.le_refl _, rfl, rfl, rfl, rfl, h1, h3, (Ex.refl w), rfl⟩
  ·rintro m12 L13 w14 ⟨k8, rfl, hk15, hsz17, hl18, hl19, hl20, hl21, hf22, hf23, hf24, hI16⟩
   refine CW.sub (Sub.cons hl18 (Sub.cons hl19 (Sub.cons hl20 (Sub.cons hl21 (Sub.nil _))))) ?_
   have hf24z := Ex.size hf24
   have hbg25 := RdS.big hf22
   rcases Nat.lt_or_ge k8 p_a.length with hlt26 | hlt26
   ·refine CW.seq (CW.region (sd rfl (yl_lss rfl rfl rfl (dn (CW.seq (CW.cond_t rfl (lt_t hlt26) (CW.skip (tn ?_))))))))
    refine CW.seq (CW.block (CW.seq (CW.region (sd rfl (yM rfl rfl (sd rfl (yA rfl rfl (dn (CW.seq ?_)))))))))
    obtain ⟨eb27, eo27, _, eA27, _, ebl27, _, eR27, eC27⟩ := RdS.aD hf22 d_Row (i := k8)
    obtain ⟨A28, c28, rfl, h28⟩ := eR27
    obtain ⟨eb29, eo29, _, eA29, _, ebl29, _, eR29, eC29⟩ := RdS.aD hf23 d_Row (i := k8)
    obtain ⟨A30, c30, rfl, h30⟩ := eR29
    refine CW.drawsI 12 (vgetI ([.slice A1 p_a.length c1, .int .i64 ((k8 : Int)), .pointer (some ⟨eb27, eo27 + k8 * 1, none⟩), .pointer (some ⟨eb27, eo27 + k8 * 1 + 0, none⟩), .slice A28 (((p_a.getD k8 d_Row).Vals).length) c28, .slice A3 p_b.length c3, .int .i64 ((k8 : Int)), .pointer (some ⟨eb29, eo29 + k8 * 1, none⟩), .pointer (some ⟨eb29, eo29 + k8 * 1 + 0, none⟩), .slice A30 (((p_b.getD k8 d_Row).Vals).length) c30, .bool ((l_qSameS ((p_a.getD k8 d_Row).Vals) ((p_b.getD k8 d_Row).Vals))), .bool (!(l_qSameS ((p_a.getD k8 d_Row).Vals) ((p_b.getD k8 d_Row).Vals)))].map DetI)) Tryz.follows rfl rfl rfl rfl rfl rfl (vgetI_stable (stD _)) ⟨?_, ?_, ?_, ?_, ?_, ?_, ?_, ?_, ?_, ?_, ?_, ?_, trivial⟩ ?_
    ·exact oI rfl fun h => yM rfl (h.old 0 _ rfl rfl) kI
    ·exact oI rfl fun h => yM rfl (h.old 5 _ rfl rfl) kI
    ·intro L42 w43 hi44
     have hE45 := hi44.ex
     have hE45z := Ex.size hE45
     exact os rfl ((yl_ixN un32 ty38 rfl (hi44.dt 0 16 rfl rfl rfl) (hi44.dt 1 17 rfl rfl rfl) eA27 kI))
    ·exact oI rfl fun h => yl_fieldAddr fd38_0 rfl (h.dt 2 18 rfl rfl rfl) kI
    ·exact oI rfl fun h => yl_load1 ty23 rfl (h.dt 3 19 rfl rfl rfl) ((Cells.ex eC27 h.ex) 0 _ rfl) kI
    ·exact oI rfl fun h => yM rfl (h.old 1 _ rfl rfl) kI
    ·exact oI rfl fun h => yM rfl (h.old 5 _ rfl rfl) kI
    ·intro L69 w70 hi71
     have hE72 := hi71.ex
     have hE72z := Ex.size hE72
     exact os rfl ((yl_ixN un32 ty38 rfl (hi71.dt 5 21 rfl rfl rfl) (hi71.dt 6 22 rfl rfl rfl) eA29 kI))
    ·exact oI rfl fun h => yl_fieldAddr fd38_0 rfl (h.dt 7 23 rfl rfl rfl) kI
    ·exact oI rfl fun h => yl_load1 ty23 rfl (h.dt 8 24 rfl rfl rfl) ((Cells.ex eC29 h.ex) 0 _ rfl) kI
    ·intro L86 w87 hi88
     have hE89 := hi88.ex
     exact OpR.op' rfl (yC en13 rfl (oc (hi88.dt 4 20 rfl rfl rfl) (oc (hi88.dt 9 25 rfl rfl rfl) oz)) (Cal.mono (c_l_qSameS ((p_a.getD k8 d_Row).Vals) ((p_b.getD k8 d_Row).Vals) (RdS.up (RdS.ex gS h28 hE89) gS) (RdS.up (RdS.ex gS h30 hE89) gS) (okL.getD o2 ok_d_Row _) (okL.getD o4 ok_d_Row _)) fun _ _ h => h))
    ·exact oI rfl fun h => yl_not rfl (h.dt 10 26 rfl rfl rfl) kI
    ·intro fl105 fh106 L102 w103 hp104
     have hE107 := hp104.ex
     have hE107z := Ex.size hE107
     refine dn (CW.sub (Sub.cons (d := 0) (hp104.old 0 _ rfl rfl) (Sub.cons (d := 1) (hp104.old 1 _ rfl rfl) (Sub.cons (d := 12) (hp104.old 12 _ rfl rfl) (Sub.cons (d := 13) (hp104.old 13 _ rfl rfl) (Sub.cons (d := 27) (hp104.nt 11 27 rfl rfl rfl) (Sub.nil _)))))) (bcase (l_qSameS ((p_a.getD k8 d_Row).Vals) ((p_b.getD k8 d_Row).Vals)) (fun hb113 => ?_) (fun hb113 => ?_)))
     ·refine CW.cond_f rfl (not_t hb113) (CW.skip (bn (tn (CW.region (sd rfl (yl_inc rfl rfl rfl (by omega) (sd rfl (yM rfl rfl (dn ?_)))))))))
      have hB114 : B_l_qSameRows_0 p_a p_b k8 () = .cont () := by simp only [B_l_qSameRows_0, hb7, hb113, cL]
      exact ⟨p_a.length - (k8 + 1), by omega, k8 + 1, rfl, hlt26, (by omega), rfl, rfl, rfl, rfl, (RdS.ex good_Row hf22 hE107), (RdS.ex good_Row hf23 hE107), (Ex.trans hf24 hE107), (loopM.cont hlt26 hB114).symm.trans hI16⟩
     ·refine CW.cond_t rfl (not_f hb113) (CW.seq (CW.region (sd rfl (yA rfl rfl (dn (CW.ret (br (tr ?_))))))))
      refine tr ?_
      have hB119 : B_l_qSameRows_0 p_a p_b k8 () = .ret false := by simp only [B_l_qSameRows_0, hb7, hb113, cL]
      have hL118 : loopM (B_l_qSameRows_0 p_a p_b) (p_a.length - 0) 0 () = .ret false := hI16.symm.trans (loopM.ret hlt26 hB119)
      refine br (tr (rr rfl (.cons rfl .nil) ?_))
      have hM120 : (l_qSameRows p_a p_b) = (false) := by simp only [l_qSameRows, hb7, hb113, hL118, cL]
      rw [hM120]
      exact ⟨rfl, (Ex.trans hf24 hE107)⟩
   ·refine CW.seq (CW.region (sd rfl (yl_lss rfl rfl rfl (dn (CW.seq (CW.cond_f rfl (lt_f hlt26) (CW.exit (tx ?_))))))))
    refine tx ?_
    have hL122 : loopM (B_l_qSameRows_0 p_a p_b) (p_a.length - 0) 0 () = .done () := hI16.symm.trans (loopM.stop hlt26)
    refine bx (tn (CW.seq (CW.region (sd rfl (yA rfl rfl (dn (CW.ret (rr rfl (.cons rfl .nil) ?_))))))))
    have hM123 : (l_qSameRows p_a p_b) = (true) := by simp only [l_qSameRows, hb7, hL122, cL]
    rw [hM123]
    exact ⟨rfl, hf24⟩
 ·have hb7p := dec_f hb7
  refine CW.cond_t rfl (not_f hb7) (CW.seq (CW.region (sd rfl (yA rfl rfl (dn (CW.ret (tr (rr rfl (.cons rfl .nil) ?_))))))))
  have hM124 : (l_qSameRows p_a p_b) = (false) := by simp only [l_qSameRows, hb7, cL]
  rw [hM124]
  exact ⟨rfl, (Ex.refl w)⟩
theorem c_i_GoodRow {A1 : Option Addr} {c1 : Nat} {A2 : Option Addr} {c2 : Nat} {A4 : Option Addr} {c4 : Nat} {w : World} (p_t : DTable) (p_r : DRow) (h1 : RdS w (Iv 0 w.heap.size) (RF e_Str) 1 A1 p_t.Cols.length c1 p_t.Cols) (h2 : RdS w (Iv 0 w.heap.size) (RF e_Idx) 3 A2 p_t.Idxs.length c2 p_t.Idxs) (h4 : RdS w (Iv 0 w.heap.size) (RF e_Str) 1 A4 p_r.Vals.length c4 p_r.Vals) (o3 : ok_Table p_t) (o5 : ok_Row p_r) : Cal Tryz.prog 36 #[.agg #[.string (bs (p_t.Name)), .slice A1 p_t.Cols.length c1, .slice A2 p_t.Idxs.length c2], .agg #[.slice A4 p_r.Vals.length c4]] w fun v w' => v = .bool ((i_GoodRow p_t p_r)) ∧ Ex w w' := by
 refine Cal.of func36 rfl ntmps36 rfl (CW.seq (CW.region (sd rfl (yl_box rfl rfl rfl ?_))))
 intro b10 w11 hs12 hz13 hB14 hE15
 refine sd rfl (yl_box rfl rfl rfl ?_)
 intro b16 w17 hs18 hz19 hB20 hE21
 refine sd rfl (yA rfl rfl (dn (CW.seq (CW.region ?_))))
 have q22 := Box.ex hB14 hE21
 refine sd rfl (yl_loadN ty26 rfl rfl (q22.cells (n := 3) rfl) rfl ?_)
 have q24 := RdS.ex gS (RdS.ex gS h1 hE15) hE21
 have q26 := RdS.ex gI (RdS.ex gI h2 hE15) hE21
 refine sd rfl (yC en30 rfl (oc rfl oz) (Cal.mono (c_i_GoodTable p_t (RdS.up q24 gS) (RdS.up q26 gI) o3) ?_))
 rintro v28 w27 ⟨rfl, hE29⟩
 refine sd rfl (yM rfl rfl (bcase (i_GoodTable p_t) (fun hb30 => ?_) (fun hb30 => ?_)))
 ·have hb30p := f_i_GoodTable hb30
  refine sy rfl rfl hb30 (yl_loadN ty26 rfl rfl ((Box.ex q22 hE29).cells (n := 3) rfl) rfl (sy rfl rfl hb30 (yl_loadN ty38 rfl rfl ((Box.ex hB20 hE29).cells (n := 1) rfl) rfl (sy rfl rfl hb30 (yC en62 rfl (oc rfl (oc rfl oz)) (Cal.mono (c_i_Table_isRow p_t p_r (RdS.up (RdS.ex gS q24 hE29) gS) (RdS.up (RdS.ex gI q26 hE29) gI) (RdS.up (RdS.ex gS (RdS.ex gS (RdS.ex gS h4 hE15) hE21) hE29) gS) o3 o5) ?_))))))
  rintro v39 w38 ⟨rfl, hE40⟩
  refine sd rfl (yl_pick_t rfl rfl hb30 rfl (sd rfl (yA rfl rfl (dn (CW.ret (rr rfl (.cons rfl .nil) ?_))))))
  have hM41 : (i_GoodRow p_t p_r) = ((i_Table_isRow p_t p_r)) := by simp only [i_GoodRow, hb30, cL]
  rw [hM41]
  exact ⟨rfl, (Ex.trans (Ex.trans (Ex.trans (Ex.trans (Ex.refl w) hE15) hE21) hE29) hE40)⟩
 ·refine sz rfl rfl hb30 (sz rfl rfl hb30 (sz rfl rfl hb30 (sd rfl (yl_pick_f rfl rfl hb30 rfl (sd rfl (yA rfl rfl (dn (CW.ret (rr rfl (.cons rfl .nil) ?_)))))))))
  have hM46 : (i_GoodRow p_t p_r) = (false) := by simp only [i_GoodRow, hb30, cL]
  rw [hM46]
  exact ⟨rfl, (Ex.trans (Ex.trans (Ex.trans (Ex.refl w) hE15) hE21) hE29)⟩
theorem c_i_IdxKey {A1 : Option Addr} {c1 : Nat} {A2 : Option Addr} {c2 : Nat} {A5 : Option Addr} {c5 : Nat} {w : World} (p_t : DTable) (pn : Str) (p_r : DRow) (h1 : RdS w (Iv 0 w.heap.size) (RF e_Str) 1 A1 p_t.Cols.length c1 p_t.Cols) (h2 : RdS w (Iv 0 w.heap.size) (RF e_Idx) 3 A2 p_t.Idxs.length c2 p_t.Idxs) (h5 : RdS w (Iv 0 w.heap.size) (RF e_Str) 1 A5 p_r.Vals.length c5 p_r.Vals) (o3 : ok_Table p_t) (o4 : okS pn) (o6 : ok_Row p_r) : Cal Tryz.prog 15 #[.agg #[.string (bs (p_t.Name)), .slice A1 p_t.Cols.length c1, .slice A2 p_t.Idxs.length c2], .string (bs (pn)), .agg #[.slice A5 p_r.Vals.length c5]] w fun v w' => v = .tuple #[.string (bs ((i_IdxKey p_t pn p_r).1)), .bool ((i_IdxKey p_t pn p_r).2)] ∧ okS ((i_IdxKey p_t pn p_r).1) ∧ Ex w w' := by
 have hol7 : p_t.Name.length ≤ 1073741824 := o3.1
 have hol8 := o3.2.1.1
 have hol9 := o3.2.2.1
 have hol10 : pn.length ≤ 1073741824 := o4
 have hol11 := o6.1
 refine Cal.of func15 rfl ntmps15 rfl (CW.seq (CW.region (sd rfl (yl_box rfl rfl rfl ?_))))
 intro b12 w13 hs14 hz15 hB16 hE17
 refine sd rfl (yl_box rfl rfl rfl ?_)
 intro b18 w19 hs20 hz21 hB22 hE23
 refine sd rfl (yA rfl rfl (sd rfl (yA rfl rfl (dn (CW.seq (CW.seq (CW.region ?_)))))))
 have q24 := Box.ex hB16 hE23
 refine sd rfl (yl_loadN ty26 rfl rfl (q24.cells (n := 3) rfl) rfl (sd rfl (yl_loadN ty38 rfl rfl (hB22.cells (n := 1) rfl) rfl ?_)))
 have q26 := RdS.ex gS (RdS.ex gS h1 hE17) hE23
 have q28 := RdS.ex gI (RdS.ex gI h2 hE17) hE23
 have q30 := RdS.ex gS (RdS.ex gS h5 hE17) hE23
 refine sd rfl (yC en36 rfl (oc rfl (oc rfl oz)) (Cal.mono (c_i_GoodRow p_t p_r (RdS.up q26 gS) (RdS.up q28 gI) (RdS.up q30 gS) o3 o6) ?_))
 rintro v32 w31 ⟨rfl, hE33⟩
 have hE33z := Ex.size hE33
 refine sd rfl (yl_not rfl rfl (sd rfl (yM rfl rfl (bcase (i_GoodRow p_t p_r) (fun hb34 => ?_) (fun hb34 => ?_)))))
 ·obtain ⟨hb34p0, hb34p1, hb34p2⟩ := f_i_GoodRow hb34
  have q35 := Box.ex q24 hE33
  refine sy rfl rfl (not_t hb34) (yl_loadN ty26 rfl rfl (q35.cells (n := 3) rfl) rfl (sy rfl rfl (not_t hb34) (yM rfl rfl ?_)))
  have q36 := RdS.ex gS q26 hE33
  have q37 := RdS.ex gI q28 hE33
  refine sy rfl rfl (not_t hb34) (yC en37 rfl (oc rfl (oc rfl oz)) (Cal.mono (c_i_hasIdx p_t pn (RdS.up q36 gS) (RdS.up q37 gI) o3 o4) ?_))
  rintro v39 w38 ⟨rfl, hE40⟩
  have hE40z := Ex.size hE40
  refine sy rfl rfl (not_t hb34) (yl_not rfl rfl (sd rfl (yl_pick_f rfl rfl (not_t hb34) rfl (dn (bcase (i_hasIdx p_t pn) (fun hb41 => ?_) (fun hb41 => ?_))))))
  ·obtain ⟨hb41p0, hb41p1, hb41p2⟩ := f_i_hasIdx hb41
   refine CW.cond_f rfl (not_t hb41) (CW.skip (tn (CW.seq (CW.region (sd rfl (yl_loadN ty26 rfl rfl ((Box.ex q35 hE40).cells (n := 3) rfl) rfl (sd rfl (yM rfl rfl (sd rfl (yl_loadN ty38 rfl rfl ((Box.ex (Box.ex hB22 hE33) hE40).cells (n := 1) rfl) rfl (sd rfl (yC en38 rfl (oc rfl (oc rfl (oc rfl oz))) (Cal.mono (c_i_Table_idxKey p_t pn p_r (RdS.up (RdS.ex gS q36 hE40) gS) (RdS.up (RdS.ex gI q37 hE40) gI) (RdS.up (RdS.ex gS (RdS.ex gS q30 hE33) hE40) gS) o3 o4 o6 (by first | omega | assumption | (simp only [wI] at *; omega)) (by first | omega | assumption | (simp only [wI] at *; omega)) (by first | omega | assumption | (simp only [wI] at *; omega)) (by first | omega | assumption | (simp only [wI] at *; omega))) ?_)))))))))))))
   rintro v51 w49 ⟨rfl, ho50, hE52⟩
   have hE52z := Ex.size hE52
   refine sd rfl (yA rfl rfl (sd rfl (yA rfl rfl (dn (CW.ret (rr rfl (.cons rfl (.cons rfl .nil)) ?_))))))
   have hM53 : (i_IdxKey p_t pn p_r) = (((i_Table_idxKey p_t pn p_r), true)) := by simp only [i_IdxKey, hb34, hb41, cL]
   rw [hM53]
   exact ⟨rfl, ho50, (Ex.trans (Ex.trans (Ex.trans (Ex.trans (Ex.trans (Ex.refl w) hE17) hE23) hE33) hE40) hE52)⟩
  ·refine CW.cond_t rfl (not_f hb41) (CW.seq (CW.region (sd rfl (yA rfl rfl (sd rfl (yA rfl rfl (dn (CW.ret (tr ?_)))))))))
   refine rr rfl (.cons rfl (.cons rfl .nil)) ?_
   have hM59 : (i_IdxKey p_t pn p_r) = ((([] : Str), false)) := by simp only [i_IdxKey, hb34, hb41, cL]
   rw [hM59]
   exact ⟨rfl, (okS.lit rfl), (Ex.trans (Ex.trans (Ex.trans (Ex.trans (Ex.refl w) hE17) hE23) hE33) hE40)⟩
 ·refine sz rfl rfl (not_f hb34) (sz rfl rfl (not_f hb34) (sz rfl rfl (not_f hb34) (sz rfl rfl (not_f hb34) (sd rfl (yl_pick_t rfl rfl (not_f hb34) rfl (dn (CW.cond_t rfl rfl (CW.seq ?_))))))))
  refine CW.region (sd rfl (yA rfl rfl (sd rfl (yA rfl rfl (dn (CW.ret (tr (rr rfl (.cons rfl (.cons rfl .nil)) ?_))))))))
  have hM64 : (i_IdxKey p_t pn p_r) = ((([] : Str), false)) := by simp only [i_IdxKey, hb34, cL]
  rw [hM64]
  exact ⟨rfl, (okS.lit rfl), (Ex.trans (Ex.trans (Ex.trans (Ex.refl w) hE17) hE23) hE33)⟩
theorem c_l_qHas {A1 : Option Addr} {c1 : Nat} {w : World} (p_l : List Str) (p_s : Str) (h1 : RdS w (Iv 0 w.heap.size) (RF e_Str) 1 A1 p_l.length c1 p_l) (o2 : (okL okS) p_l) (o3 : okS p_s) : Cal Tryz.prog 16 #[.slice A1 p_l.length c1, .string (bs (p_s))] w fun v w' => v = .bool ((l_qHas p_l p_s)) ∧ Ex w w' := by
 have hol4 := o2.1
 have hol5 : p_s.length ≤ 1073741824 := o3
 refine Cal.of func16 rfl ntmps16 rfl (CW.seq (CW.region (sd rfl (yA rfl rfl (dn (CW.seq (CW.seq (CW.region ?_))))))))
 refine sd rfl (yM rfl rfl (sd rfl (yL un23 rfl rfl (sd rfl (yM rfl rfl (dn (CW.block (CW.loop (fun m7 L8 w9 => ∃ (k6 : Nat), m7 = p_l.length - k6 ∧ k6 ≤ p_l.length ∧ w.heap.size ≤ w9.heap.size ∧ lkp L8 1 = some (.string (bs (p_s))) ∧ lkp L8 7 = some (.slice A1 p_l.length c1) ∧ lkp L8 8 = some (.int .i64 ((p_l.length : Int))) ∧ lkp L8 9 = some (.int .i64 ((k6 : Int))) ∧ RdS w9 (Iv 0 w.heap.size) (RF e_Str) 1 A1 p_l.length c1 p_l ∧ Ex w w9 ∧ loopM (B_l_qHas_0 p_l p_s) (p_l.length - k6) k6 () = loopM (B_l_qHas_0 p_l p_s) (p_l.length - 0) 0 ()) (p_l.length - 0) ?_ ?_))))))))
 ·exact ⟨0, rfl, (by omega), Nat.le_refl _, rfl, rfl, rfl, rfl, h1, (Ex.refl w), rfl⟩
 ·rintro m10 L11 w12 ⟨k6, rfl, hk13, hsz15, hl16, hl17, hl18, hl19, hf20, hf21, hI14⟩
  refine CW.sub (Sub.cons hl16 (Sub.cons hl17 (Sub.cons hl18 (Sub.cons hl19 (Sub.nil _))))) ?_
  have hf21z := Ex.size hf21
  have hbg22 := RdS.big hf20
  rcases Nat.lt_or_ge k6 p_l.length with hlt23 | hlt23
  ·refine CW.seq (CW.region (sd rfl (yl_lss rfl rfl rfl (dn (CW.seq (CW.cond_t rfl (lt_t hlt23) (CW.skip (tn ?_))))))))
   refine CW.seq (CW.block (CW.seq (CW.region ?_)))
   obtain ⟨eb24, eo24, _, eA24, _, ebl24, _, eR24, eC24⟩ := RdS.aD hf20 d_Str (i := k6)
   obtain rfl := eR24
   have eC24 : Cells w12 eb24 (eo24 + k6 * 1) [.string (bs ((p_l.getD k6 d_Str)))] := eC24
   refine sd rfl (yl_ixN un23 ty9 rfl rfl rfl eA24 (sd rfl (yl_load1 ty9 rfl rfl (eC24 0 _ rfl) (sd rfl (yA rfl rfl (dn (CW.seq (CW.region (sd rfl (yM rfl rfl (sd rfl (yM rfl rfl ?_))))))))))))
   refine sd rfl (yl_seql (a := (p_l.getD k6 d_Str)) (b := p_s) rfl rfl rfl (dn (bcase ((p_l.getD k6 d_Str) == p_s) (fun hb25 => ?_) (fun hb25 => ?_))))
   ·refine CW.cond_t rfl hb25 (CW.seq (CW.region (sd rfl (yA rfl rfl (dn (CW.ret (br (tr ?_))))))))
    refine tr ?_
    have hB27 : B_l_qHas_0 p_l p_s k6 () = .ret true := by simp only [B_l_qHas_0, hb25, cL]
    have hL26 : loopM (B_l_qHas_0 p_l p_s) (p_l.length - 0) 0 () = .ret true := hI14.symm.trans (loopM.ret hlt23 hB27)
    refine br (tr (rr rfl (.cons rfl .nil) ?_))
    have hM28 : (l_qHas p_l p_s) = (true) := by simp only [l_qHas, hb25, hL26, cL]
    rw [hM28]
    exact ⟨rfl, hf21⟩
   ·refine CW.cond_f rfl hb25 (CW.skip (bn (tn (CW.region (sd rfl (yl_inc rfl rfl rfl (by omega) (sd rfl (yM rfl rfl (dn ?_)))))))))
    have hB29 : B_l_qHas_0 p_l p_s k6 () = .cont () := by simp only [B_l_qHas_0, hb25, cL]
    exact ⟨p_l.length - (k6 + 1), by omega, k6 + 1, rfl, hlt23, (by omega), rfl, rfl, rfl, rfl, hf20, hf21, (loopM.cont hlt23 hB29).symm.trans hI14⟩
  ·refine CW.seq (CW.region (sd rfl (yl_lss rfl rfl rfl (dn (CW.seq (CW.cond_f rfl (lt_f hlt23) (CW.exit (tx ?_))))))))
   refine tx ?_
   have hL30 : loopM (B_l_qHas_0 p_l p_s) (p_l.length - 0) 0 () = .done () := hI14.symm.trans (loopM.stop hlt23)
   refine bx (tn (CW.seq (CW.region (sd rfl (yA rfl rfl (dn (CW.ret (rr rfl (.cons rfl .nil) ?_))))))))
   have hM31 : (l_qHas p_l p_s) = (false) := by simp only [l_qHas, hL30, cL]
   rw [hM31]
   exact ⟨rfl, hf21⟩
theorem c_l_FnEntries {A1 : Option Addr} {c1 : Nat} {A2 : Option Addr} {c2 : Nat} {w : World} (p_0 : List Int) (p_1 : List Int) (h1 : RdS w (Iv 0 w.heap.size) (RF e_U8) 1 A1 p_0.length c1 p_0) (h2 : RdS w (Iv 0 w.heap.size) (RF e_U8) 1 A2 p_1.length c2 p_1) (pre0 : codeOk p_0) (pre1 : codeOk p_1) : Cal Tryz.prog 3 #[.slice A1 p_0.length c1, .slice A2 p_1.length c2] w fun v w' => v = .bool ((l_FnEntries p_0 p_1)) ∧ Ex w w' := by
 have hbg1 := RdS.big h1
 have hbg2 := RdS.big h2
 have hwr : IntKind.wrap .i64 ((p_0.length : Int) + (p_1.length : Int)) = (p_0.length : Int) + (p_1.length : Int) := wrap_in (by omega)
 refine Cal.of func3 rfl ntmps3 rfl (CW.seq (CW.region (sd rfl (yA rfl rfl (dn (CW.seq (CW.seq (CW.region ?_))))))))
 refine sd rfl (yM rfl rfl (sd rfl (yL un22 rfl rfl (sd rfl (yM rfl rfl (sd rfl (yL un22 rfl rfl (sd rfl (yl_add rfl rfl rfl (sd rfl (yl_gtr rfl rfl rfl (dn (bcase (decide (1048576 < (IntKind.wrap .i64 ((p_0.length : Int) + (p_1.length : Int))))) (fun hb3 => ?_) (fun hb3 => ?_))))))))))))))
 ·have hb3p := dec_t hb3
  refine CW.cond_t rfl hb3 (CW.seq (CW.region (sd rfl (yA rfl rfl (dn (CW.ret (tr (rr rfl (.cons rfl .nil) ?_))))))))
  have hM4 : (l_FnEntries p_0 p_1) = (true) := by simp only [l_FnEntries, hb3, cL]
  rw [hM4]
  exact ⟨rfl, (Ex.refl w)⟩
 ·have hb3p := dec_f hb3
  refine CW.cond_f rfl hb3 (CW.skip (tn (CW.seq (CW.region (sd rfl (yM rfl rfl (sd rfl (yC en4 rfl (oc rfl oz) (Cal.mono (c_sDE p_0 (RdS.up h1 gU) (okL.mk (xs := p_0) (by first | omega | (simp only [lN]; omega)) fun _ _ => trivial) (by assumption)) ?_)))))))))
  rintro v12 w5 ⟨A6, c6, A7, c7, lo7, hi7, A8, c8, lo8, hi8, rfl, h6, h7, h8, ho9, ho10, ho11, hrn14, hrn15, hrn16, hE13⟩
  have hE13z := Ex.size hE13
  refine sd rfl (yM rfl rfl (sd rfl (yl_extract rfl rfl rfl (sd rfl (yl_extract rfl rfl rfl (sd rfl (yl_extract rfl rfl rfl (sd rfl (yB ty26 (cs := [.string (bs (([] : Str))), .slice none 0 0, .slice none 0 0]) rfl rfl ?_)))))))))
  intro b17 w18 hs19 hz20 hB21 hE22
  refine SeqR.u rfl rfl (yl_store (vs := [.string (bs ((sDE p_0).1.Name)), .slice A6 (((sDE p_0).1.Cols).length) c6, .slice A7 (((sDE p_0).1.Idxs).length) c7]) ty26 rfl rfl rfl rfl rfl rfl hB21 (Nat.le_of_ble_eq_true rfl) ?_)
  intro w23 hB24 hO25
  have hB24 : Box w23 b17 26 [.string (bs ((sDE p_0).1.Name)), .slice A6 (((sDE p_0).1.Cols).length) c6, .slice A7 (((sDE p_0).1.Idxs).length) c7] := hB24
  have hO25z := hO25.size
  refine sd rfl (yA rfl rfl (sd rfl (yA rfl rfl (dn (CW.seq (CW.region (sd rfl (yl_loadN ty26 rfl rfl (hB24.cells (n := 3) rfl) rfl (sd rfl (yM rfl rfl (sd rfl (yM rfl rfl ?_))))))))))))
  have q27 := RdS.only gS (RdS.ex gS h6 hE22) hO25 (by simp only [Iv]; omega)
  have q30 := OwnL.only gI (OwnL.ex gI h7 hE22) hO25 (by omega)
  have q33 := OwnL.only gW (OwnL.ex gW h8 hE22) hO25 (by omega)
  refine sd rfl (yC en5 rfl (oc rfl (oc rfl (oc rfl oz))) (Cal.mono (c_i_EntriesIn ((sDE p_0).1) ((sDE p_0).2.1) ((sDE p_0).2.2) (RdS.up q27 gS) (RdS.up (OwnL.rd gI q30) gI) (RdS.up (OwnL.rd gW q33) gW) ho9 ho10 ho11) ?_))
  rintro v37 w34 ⟨A35, c35, lo35, hi35, rfl, h35, ho36, hrn39, hE38⟩
  have hE38z := Ex.size hE38
  refine sd rfl (yM rfl rfl (sd rfl (yl_extract rfl rfl rfl (sd rfl (yl_extract rfl rfl rfl (sd rfl (yA rfl rfl (sd rfl (yA rfl rfl (dn (CW.seq (CW.region ?_))))))))))))
  have q40 := Box.ex hB24 hE38
  refine sd rfl (yl_loadN ty26 rfl rfl (q40.cells (n := 3) rfl) rfl (sd rfl (yM rfl rfl (sd rfl (yM rfl rfl ?_)))))
  have q41 := RdS.ex gS q27 hE38
  have q43 := OwnL.ex gI q30 hE38
  have q45 := OwnL.ex gW q33 hE38
  refine sd rfl (yC en6 rfl (oc rfl (oc rfl (oc rfl oz))) (Cal.mono (c_s_EntriesIn ((sDE p_0).1) ((sDE p_0).2.1) ((sDE p_0).2.2) (RdS.up q41 gS) (RdS.up (OwnL.rd gI q43) gI) (RdS.up (OwnL.rd gW q45) gW) ho9 ho10 ho11) ?_))
  rintro v49 w46 ⟨A47, c47, lo47, hi47, rfl, h47, ho48, hrn51, hE50⟩
  have hE50z := Ex.size hE50
  refine sd rfl (yM rfl rfl (sd rfl (yl_extract rfl rfl rfl (sd rfl (yl_extract rfl rfl rfl (sd rfl (yA rfl rfl (sd rfl (yA rfl rfl (dn (CW.seq (CW.region ?_))))))))))))
  have q52 := Box.ex q40 hE50
  refine sd rfl (yl_loadN ty26 rfl rfl (q52.cells (n := 3) rfl) rfl (sd rfl (yM rfl rfl (sd rfl (yM rfl rfl ?_)))))
  have q53 := RdS.ex gS q41 hE50
  have q55 := OwnL.ex gI q43 hE50
  have q57 := OwnL.ex gW q45 hE50
  refine sd rfl (yC en7 rfl (oc rfl (oc rfl (oc rfl oz))) (Cal.mono (c_i_OrphansIn ((sDE p_0).1) ((sDE p_0).2.1) ((sDE p_0).2.2) (RdS.up q53 gS) (RdS.up (OwnL.rd gI q55) gI) (RdS.up (OwnL.rd gW q57) gW) ho9 ho10 ho11) ?_))
  rintro v61 w58 ⟨A59, c59, lo59, hi59, rfl, h59, ho60, hrn63, hE62⟩
  have hE62z := Ex.size hE62
  refine sd rfl (yM rfl rfl (sd rfl (yl_extract rfl rfl rfl (sd rfl (yl_extract rfl rfl rfl (sd rfl (yA rfl rfl (sd rfl (yA rfl rfl (dn (CW.seq (CW.region ?_))))))))))))
  have q64 := Box.ex q52 hE62
  refine sd rfl (yl_loadN ty26 rfl rfl (q64.cells (n := 3) rfl) rfl (sd rfl (yM rfl rfl (sd rfl (yM rfl rfl ?_)))))
  have q65 := RdS.ex gS q53 hE62
  have q67 := OwnL.ex gI q55 hE62
  have q69 := OwnL.ex gW q57 hE62
  refine sd rfl (yC en8 rfl (oc rfl (oc rfl (oc rfl oz))) (Cal.mono (c_s_OrphansIn ((sDE p_0).1) ((sDE p_0).2.1) ((sDE p_0).2.2) (RdS.up q65 gS) (RdS.up (OwnL.rd gI q67) gI) (RdS.up (OwnL.rd gW q69) gW) ho9 ho10 ho11) ?_))
  rintro v73 w70 ⟨A71, c71, lo71, hi71, rfl, h71, ho72, hrn75, hE74⟩
  have hE74z := Ex.size hE74
  refine sd rfl (yM rfl rfl (sd rfl (yl_extract rfl rfl rfl (sd rfl (yl_extract rfl rfl rfl (sd rfl (yA rfl rfl (sd rfl (yA rfl rfl (dn (CW.seq (CW.region ?_))))))))))))
  have q76 := Box.ex q64 hE74
  refine sd rfl (yl_loadN ty26 rfl rfl (q76.cells (n := 3) rfl) rfl (sd rfl (yM rfl rfl (sd rfl (yM rfl rfl ?_)))))
  have q77 := RdS.ex gS q65 hE74
  have q79 := OwnL.ex gI q67 hE74
  have q81 := OwnL.ex gW q69 hE74
  refine sd rfl (yC en9 rfl (oc rfl (oc rfl (oc rfl oz))) (Cal.mono (c_i_LacksIn ((sDE p_0).1) ((sDE p_0).2.1) ((sDE p_0).2.2) (RdS.up q77 gS) (RdS.up (OwnL.rd gI q79) gI) (RdS.up (OwnL.rd gW q81) gW) ho9 ho10 ho11) ?_))
  rintro v85 w82 ⟨A83, c83, lo83, hi83, rfl, h83, ho84, hrn87, hE86⟩
  have hE86z := Ex.size hE86
  refine sd rfl (yM rfl rfl (sd rfl (yl_extract rfl rfl rfl (sd rfl (yl_extract rfl rfl rfl (sd rfl (yA rfl rfl (sd rfl (yA rfl rfl (dn (CW.seq (CW.region ?_))))))))))))
  have q88 := Box.ex q76 hE86
  refine sd rfl (yl_loadN ty26 rfl rfl (q88.cells (n := 3) rfl) rfl (sd rfl (yM rfl rfl (sd rfl (yM rfl rfl ?_)))))
  have q89 := RdS.ex gS q77 hE86
  have q91 := OwnL.ex gI q79 hE86
  have q93 := OwnL.ex gW q81 hE86
  refine sd rfl (yC en10 rfl (oc rfl (oc rfl (oc rfl oz))) (Cal.mono (c_s_LacksIn ((sDE p_0).1) ((sDE p_0).2.1) ((sDE p_0).2.2) (RdS.up q89 gS) (RdS.up (OwnL.rd gI q91) gI) (RdS.up (OwnL.rd gW q93) gW) ho9 ho10 ho11) ?_))
  rintro v97 w94 ⟨A95, c95, lo95, hi95, rfl, h95, ho96, hrn99, hE98⟩
  have hE98z := Ex.size hE98
  refine sd rfl (yM rfl rfl (sd rfl (yl_extract rfl rfl rfl (sd rfl (yl_extract rfl rfl rfl (sd rfl (yA rfl rfl (sd rfl (yA rfl rfl (dn (CW.seq (CW.region ?_))))))))))))
  have q100 := Box.ex q88 hE98
  refine sd rfl (yl_loadN ty26 rfl rfl (q100.cells (n := 3) rfl) rfl (sd rfl (yM rfl rfl ?_)))
  have q101 := RdS.ex gS q89 hE98
  have q103 := OwnL.ex gI q91 hE98
  have q105 := OwnL.ex gW q93 hE98
  refine sd rfl (yC en11 rfl (oc rfl (oc rfl oz)) (Cal.mono (c_i_RowsIn ((sDE p_0).1) ((sDE p_0).2.2) (RdS.up q101 gS) (RdS.up (OwnL.rd gI q103) gI) (RdS.up (OwnL.rd gW q105) gW) ho9 ho11) ?_))
  rintro v109 w106 ⟨A107, c107, lo107, hi107, rfl, h107, ho108, hrn111, hE110⟩
  have hE110z := Ex.size hE110
  refine sd rfl (yM rfl rfl (sd rfl (yl_extract rfl rfl rfl (sd rfl (yl_extract rfl rfl rfl (sd rfl (yA rfl rfl (sd rfl (yA rfl rfl (dn (CW.seq (CW.region ?_))))))))))))
  have q112 := Box.ex q100 hE110
  refine sd rfl (yl_loadN ty26 rfl rfl (q112.cells (n := 3) rfl) rfl (sd rfl (yM rfl rfl ?_)))
  have q113 := RdS.ex gS q101 hE110
  have q115 := OwnL.ex gI q103 hE110
  refine sd rfl (yC en12 rfl (oc rfl (oc rfl oz)) (Cal.mono (c_s_RowsIn ((sDE p_0).1) ((sDE p_0).2.2) (RdS.up q113 gS) (RdS.up (OwnL.rd gI q115) gI) (RdS.up (OwnL.rd gW (OwnL.ex gW q105 hE110)) gW) ho9 ho11) ?_))
  rintro v121 w118 ⟨A119, c119, lo119, hi119, rfl, h119, ho120, hrn123, hE122⟩
  have hE122z := Ex.size hE122
  refine sd rfl (yM rfl rfl (sd rfl (yl_extract rfl rfl rfl (sd rfl (yl_extract rfl rfl rfl (sd rfl (yA rfl rfl (sd rfl (yA rfl rfl (dn (CW.seq (CW.seq ?_))))))))))))
  refine CW.region (sd rfl (yM rfl rfl (sd rfl (yM rfl rfl (sd rfl (yl_bneq un4 rfl rfl rfl (sd rfl (yM rfl rfl (bcase (((i_EntriesIn ((sDE p_0).1) ((sDE p_0).2.1) ((sDE p_0).2.2)).2) == ((s_EntriesIn ((sDE p_0).1) ((sDE p_0).2.1) ((sDE p_0).2.2)).2)) (fun hb124 => ?_) (fun hb124 => ?_))))))))))
  ·refine sy rfl rfl (not_t hb124) (yM rfl rfl (sy rfl rfl (not_t hb124) (yM rfl rfl ?_)))
   have q132 := OwnL.ex gS (OwnL.ex gS (OwnL.ex gS (OwnL.ex gS (OwnL.ex gS (OwnL.ex gS (OwnL.ex gS h35 hE50) hE62) hE74) hE86) hE98) hE110) hE122
   refine sy rfl rfl (not_t hb124) (yC en13 rfl (oc rfl (oc rfl oz)) (Cal.mono (c_l_qSameS ((i_EntriesIn ((sDE p_0).1) ((sDE p_0).2.1) ((sDE p_0).2.2)).1) ((s_EntriesIn ((sDE p_0).1) ((sDE p_0).2.1) ((sDE p_0).2.2)).1) (RdS.up (OwnL.rd gS q132) gS) (RdS.up (OwnL.rd gS (OwnL.ex gS (OwnL.ex gS (OwnL.ex gS (OwnL.ex gS (OwnL.ex gS (OwnL.ex gS h47 hE62) hE74) hE86) hE98) hE110) hE122)) gS) ho36 ho48) ?_))
   rintro v141 w140 ⟨rfl, hE142⟩
   have hE142z := Ex.size hE142
   refine sy rfl rfl (not_t hb124) (yl_not rfl rfl (sd rfl (yl_pick_f rfl rfl (not_t hb124) rfl (sd rfl (yM rfl rfl (bcase (l_qSameS ((i_EntriesIn ((sDE p_0).1) ((sDE p_0).2.1) ((sDE p_0).2.2)).1) ((s_EntriesIn ((sDE p_0).1) ((sDE p_0).2.1) ((sDE p_0).2.2)).1)) (fun hb143 => ?_) (fun hb143 => ?_)))))))
   ·refine sy rfl rfl (not_t hb143) (yM rfl rfl (sy rfl rfl (not_t hb143) (yM rfl rfl (sy rfl rfl (not_t hb143) (yl_bneq un4 rfl rfl rfl (sd rfl (yl_pick_f rfl rfl (not_t hb143) rfl (sd rfl (yM rfl rfl (bcase (((i_OrphansIn ((sDE p_0).1) ((sDE p_0).2.1) ((sDE p_0).2.2)).2) == ((s_OrphansIn ((sDE p_0).1) ((sDE p_0).2.1) ((sDE p_0).2.2)).2)) (fun hb144 => ?_) (fun hb144 => ?_)))))))))))
    ·refine sy rfl rfl (not_t hb144) (yM rfl rfl (sy rfl rfl (not_t hb144) (yM rfl rfl ?_)))
     have q151 := OwnL.ex gS (OwnL.ex gS (OwnL.ex gS (OwnL.ex gS (OwnL.ex gS (OwnL.ex gS h59 hE74) hE86) hE98) hE110) hE122) hE142
     refine sy rfl rfl (not_t hb144) (yC en13 rfl (oc rfl (oc rfl oz)) (Cal.mono (c_l_qSameS ((i_OrphansIn ((sDE p_0).1) ((sDE p_0).2.1) ((sDE p_0).2.2)).1) ((s_OrphansIn ((sDE p_0).1) ((sDE p_0).2.1) ((sDE p_0).2.2)).1) (RdS.up (OwnL.rd gS q151) gS) (RdS.up (OwnL.rd gS (OwnL.ex gS (OwnL.ex gS (OwnL.ex gS (OwnL.ex gS (OwnL.ex gS h71 hE86) hE98) hE110) hE122) hE142)) gS) ho60 ho72) ?_))
     rintro v159 w158 ⟨rfl, hE160⟩
     have hE160z := Ex.size hE160
     refine sy rfl rfl (not_t hb144) (yl_not rfl rfl (sd rfl (yl_pick_f rfl rfl (not_t hb144) rfl (sd rfl (yM rfl rfl (bcase (l_qSameS ((i_OrphansIn ((sDE p_0).1) ((sDE p_0).2.1) ((sDE p_0).2.2)).1) ((s_OrphansIn ((sDE p_0).1) ((sDE p_0).2.1) ((sDE p_0).2.2)).1)) (fun hb161 => ?_) (fun hb161 => ?_)))))))
     ·refine sy rfl rfl (not_t hb161) (yM rfl rfl (sy rfl rfl (not_t hb161) (yM rfl rfl (sy rfl rfl (not_t hb161) (yl_bneq un4 rfl rfl rfl (sd rfl (yl_pick_f rfl rfl (not_t hb161) rfl (sd rfl (yM rfl rfl (bcase (((i_LacksIn ((sDE p_0).1) ((sDE p_0).2.1) ((sDE p_0).2.2)).2) == ((s_LacksIn ((sDE p_0).1) ((sDE p_0).2.1) ((sDE p_0).2.2)).2)) (fun hb162 => ?_) (fun hb162 => ?_)))))))))))
      ·refine sy rfl rfl (not_t hb162) (yM rfl rfl (sy rfl rfl (not_t hb162) (yM rfl rfl ?_)))
       have q168 := OwnL.ex gS (OwnL.ex gS (OwnL.ex gS (OwnL.ex gS (OwnL.ex gS h83 hE98) hE110) hE122) hE142) hE160
       refine sy rfl rfl (not_t hb162) (yC en13 rfl (oc rfl (oc rfl oz)) (Cal.mono (c_l_qSameS ((i_LacksIn ((sDE p_0).1) ((sDE p_0).2.1) ((sDE p_0).2.2)).1) ((s_LacksIn ((sDE p_0).1) ((sDE p_0).2.1) ((sDE p_0).2.2)).1) (RdS.up (OwnL.rd gS q168) gS) (RdS.up (OwnL.rd gS (OwnL.ex gS (OwnL.ex gS (OwnL.ex gS (OwnL.ex gS h95 hE110) hE122) hE142) hE160)) gS) ho84 ho96) ?_))
       rintro v175 w174 ⟨rfl, hE176⟩
       have hE176z := Ex.size hE176
       refine sy rfl rfl (not_t hb162) (yl_not rfl rfl (sd rfl (yl_pick_f rfl rfl (not_t hb162) rfl (sd rfl (yM rfl rfl (bcase (l_qSameS ((i_LacksIn ((sDE p_0).1) ((sDE p_0).2.1) ((sDE p_0).2.2)).1) ((s_LacksIn ((sDE p_0).1) ((sDE p_0).2.1) ((sDE p_0).2.2)).1)) (fun hb177 => ?_) (fun hb177 => ?_)))))))
       ·refine sy rfl rfl (not_t hb177) (yM rfl rfl (sy rfl rfl (not_t hb177) (yM rfl rfl (sy rfl rfl (not_t hb177) (yl_bneq un4 rfl rfl rfl (sd rfl (yl_pick_f rfl rfl (not_t hb177) rfl (sd rfl (yM rfl rfl (bcase (((i_RowsIn ((sDE p_0).1) ((sDE p_0).2.2)).2) == ((s_RowsIn ((sDE p_0).1) ((sDE p_0).2.2)).2)) (fun hb178 => ?_) (fun hb178 => ?_)))))))))))
        ·refine sy rfl rfl (not_t hb178) (yM rfl rfl (sy rfl rfl (not_t hb178) (yM rfl rfl ?_)))
         have q183 := OwnD.ex goodO_Row (OwnD.ex goodO_Row (OwnD.ex goodO_Row (OwnD.ex goodO_Row h107 hE122) hE142) hE160) hE176
         refine sy rfl rfl (not_t hb178) (yC en14 rfl (oc rfl (oc rfl oz)) (Cal.mono (c_l_qSameRows ((i_RowsIn ((sDE p_0).1) ((sDE p_0).2.2)).1) ((s_RowsIn ((sDE p_0).1) ((sDE p_0).2.2)).1) (RdS.up (OwnL.rd good_Row (OwnD.own goodO_Row good_Row q183)) good_Row) (RdS.up (OwnL.rd good_Row (OwnD.own goodO_Row good_Row (OwnD.ex goodO_Row (OwnD.ex goodO_Row (OwnD.ex goodO_Row h119 hE142) hE160) hE176))) good_Row) ho108 ho120) ?_))
         rintro v189 w188 ⟨rfl, hE190⟩
         have hE190z := Ex.size hE190
         refine sy rfl rfl (not_t hb178) (yl_not rfl rfl (sd rfl (yl_pick_f rfl rfl (not_t hb178) rfl (dn (bcase (l_qSameRows ((i_RowsIn ((sDE p_0).1) ((sDE p_0).2.2)).1) ((s_RowsIn ((sDE p_0).1) ((sDE p_0).2.2)).1)) (fun hb191 => ?_) (fun hb191 => ?_))))))
         ·refine CW.cond_f rfl (not_t hb191) (CW.skip (tn (CW.seq (CW.seq (CW.region (sd rfl (yM rfl rfl (sd rfl (yl_not rfl rfl (SeqR.done ?_))))))))))
          refine tn (bcase ((i_EntriesIn ((sDE p_0).1) ((sDE p_0).2.1) ((sDE p_0).2.2)).2) (fun hb192 => ?_) (fun hb192 => ?_))
          ·refine CW.cond_f rfl (not_t hb192) (CW.skip (tn (CW.seq (CW.seq (CW.region (sd rfl (yM rfl rfl (sd rfl (yL un32 rfl rfl (sd rfl (yM rfl rfl ?_)))))))))))
           refine dn (CW.block (CW.loop (fun m226 L227 w228 => ∃ (k193 : Nat), m226 = ((i_RowsIn ((sDE p_0).1) ((sDE p_0).2.2)).1).length - k193 ∧ k193 ≤ ((i_RowsIn ((sDE p_0).1) ((sDE p_0).2.2)).1).length ∧ w188.heap.size ≤ w228.heap.size ∧ lkp L227 5 = some (.pointer (some ⟨b17, 0, none⟩)) ∧ lkp L227 6 = some (.string (bs ((sDE p_0).2.1))) ∧ lkp L227 8 = some (.slice A35 (((i_EntriesIn ((sDE p_0).1) ((sDE p_0).2.1) ((sDE p_0).2.2)).1).length) c35) ∧ lkp L227 12 = some (.slice A59 (((i_OrphansIn ((sDE p_0).1) ((sDE p_0).2.1) ((sDE p_0).2.2)).1).length) c59) ∧ lkp L227 13 = some (.bool ((i_OrphansIn ((sDE p_0).1) ((sDE p_0).2.1) ((sDE p_0).2.2)).2)) ∧ lkp L227 16 = some (.slice A83 (((i_LacksIn ((sDE p_0).1) ((sDE p_0).2.1) ((sDE p_0).2.2)).1).length) c83) ∧ lkp L227 17 = some (.bool ((i_LacksIn ((sDE p_0).1) ((sDE p_0).2.1) ((sDE p_0).2.2)).2)) ∧ lkp L227 20 = some (.slice A107 (((i_RowsIn ((sDE p_0).1) ((sDE p_0).2.2)).1).length) c107) ∧ lkp L227 138 = some (.slice A107 (((i_RowsIn ((sDE p_0).1) ((sDE p_0).2.2)).1).length) c107) ∧ lkp L227 139 = some (.int .i64 ((((i_RowsIn ((sDE p_0).1) ((sDE p_0).2.2)).1).length : Int))) ∧ lkp L227 140 = some (.int .i64 ((k193 : Int))) ∧ Box w228 b17 26 [.string (bs ((sDE p_0).1.Name)), .slice A6 (((sDE p_0).1.Cols).length) c6, .slice A7 (((sDE p_0).1.Idxs).length) c7] ∧ RdS w228 (Iv w.heap.size w5.heap.size) (RF e_Str) 1 A6 ((sDE p_0).1.Cols).length c6 ((sDE p_0).1.Cols) ∧ OwnL w228 lo7 hi7 64 3 (RF e_Idx) A7 (((sDE p_0).1.Idxs).length) c7 ((sDE p_0).1.Idxs) ∧ OwnL w228 lo35 hi35 9 1 (RF e_Str) A35 (((i_EntriesIn ((sDE p_0).1) ((sDE p_0).2.1) ((sDE p_0).2.2)).1).length) c35 ((i_EntriesIn ((sDE p_0).1) ((sDE p_0).2.1) ((sDE p_0).2.2)).1) ∧ OwnL w228 lo59 hi59 9 1 (RF e_Str) A59 (((i_OrphansIn ((sDE p_0).1) ((sDE p_0).2.1) ((sDE p_0).2.2)).1).length) c59 ((i_OrphansIn ((sDE p_0).1) ((sDE p_0).2.1) ((sDE p_0).2.2)).1) ∧ OwnL w228 lo83 hi83 9 1 (RF e_Str) A83 (((i_LacksIn ((sDE p_0).1) ((sDE p_0).2.1) ((sDE p_0).2.2)).1).length) c83 ((i_LacksIn ((sDE p_0).1) ((sDE p_0).2.1) ((sDE p_0).2.2)).1) ∧ OwnD w228 lo107 hi107 38 1 RO_Row A107 (((i_RowsIn ((sDE p_0).1) ((sDE p_0).2.2)).1).length) c107 ((i_RowsIn ((sDE p_0).1) ((sDE p_0).2.2)).1) ∧ Ex w w228 ∧ loopM (B_l_FnEntries_0 p_0 p_1) (((i_RowsIn ((sDE p_0).1) ((sDE p_0).2.2)).1).length - k193) k193 () = loopM (B_l_FnEntries_0 p_0 p_1) (((i_RowsIn ((sDE p_0).1) ((sDE p_0).2.2)).1).length - 0) 0 ()) (((i_RowsIn ((sDE p_0).1) ((sDE p_0).2.2)).1).length - 0) ?_ ?_))
           ·exact ⟨0, rfl, (by omega), Nat.le_refl _, rfl, rfl, rfl, rfl, rfl, rfl, rfl, rfl, rfl, rfl, rfl, (Box.ex (Box.ex (Box.ex (Box.ex (Box.ex q112 hE122) hE142) hE160) hE176) hE190), (RdS.ex gS (RdS.ex gS (RdS.ex gS (RdS.ex gS (RdS.ex gS q113 hE122) hE142) hE160) hE176) hE190), (OwnL.ex gI (OwnL.ex gI (OwnL.ex gI (OwnL.ex gI (OwnL.ex gI q115 hE122) hE142) hE160) hE176) hE190), (OwnL.ex gS (OwnL.ex gS (OwnL.ex gS (OwnL.ex gS q132 hE142) hE160) hE176) hE190), (OwnL.ex gS (OwnL.ex gS (OwnL.ex gS q151 hE160) hE176) hE190), (OwnL.ex gS (OwnL.ex gS q168 hE176) hE190), (OwnD.ex goodO_Row q183 hE190), (Ex.trans (Ex.trans (Ex.trans (Ex.trans (Ex.trans (Ex.trans (Ex.trans (Ex.trans (Ex.trans (Ex.trans (Ex.trans (Ex.trans (Below.only (Ex.trans (Ex.trans (Ex.refl w) hE13) hE22) hO25 (by omega)) hE38) hE50) hE62) hE74) hE86) hE98) hE110) hE122) hE142) hE160) hE176) hE190), rfl⟩
           ·rintro m269 L270 w271 ⟨k193, rfl, hk272, hsz274, hl275, hl276, hl277, hl278, hl279, hl280, hl281, hl282, hl283, hl284, hl285, hf286, hf287, hf288, hf289, hf290, hf291, hf292, hf293, hI273⟩
            refine CW.sub (Sub.cons hl275 (Sub.cons hl276 (Sub.cons hl277 (Sub.cons hl278 (Sub.cons hl279 (Sub.cons hl280 (Sub.cons hl281 (Sub.cons hl282 (Sub.cons hl283 (Sub.cons hl284 (Sub.cons hl285 (Sub.nil _)))))))))))) ?_
            have hf286z := Box.lt hf286
            have hf293z := Ex.size hf293
            have hbg294 := RdS.big (OwnL.rd good_Row (OwnD.own goodO_Row good_Row hf292))
            rcases Nat.lt_or_ge k193 (((i_RowsIn ((sDE p_0).1) ((sDE p_0).2.2)).1).length) with hlt296 | hlt296
            ·refine CW.seq (CW.region (sd rfl (yl_lss rfl rfl rfl (dn (CW.seq (CW.cond_t rfl (lt_t hlt296) (CW.skip (tn ?_))))))))
             refine CW.seq (CW.block (CW.seq (CW.region ?_)))
             obtain ⟨_, _, _, eA298, _, ebl298, _, eR298, eC298⟩ := RdS.atD (OwnL.rd good_Row (OwnD.own goodO_Row good_Row hf292)) d_Row (i := k193) (by first | omega | assumption)
             obtain ⟨A299, c299, rfl, h299⟩ := eR298
             refine sd rfl (yl_ixN un32 ty38 rfl rfl rfl eA298 (sd rfl (yl_loadN ty38 rfl rfl eC298 rfl (sd rfl (yB ty38 (cs := [.slice none 0 0]) rfl rfl ?_)))))
             intro b300 w301 hs302 hz303 hB304 hE305
             refine SeqR.u rfl rfl (yl_store (vs := [.slice A299 (((((i_RowsIn ((sDE p_0).1) ((sDE p_0).2.2)).1).getD k193 d_Row).Vals).length) c299]) ty38 rfl rfl rfl rfl rfl rfl hB304 (Nat.le_of_ble_eq_true rfl) ?_)
             intro w306 hB307 hO308
             have hB307 : Box w306 b300 38 [.slice A299 (((((i_RowsIn ((sDE p_0).1) ((sDE p_0).2.2)).1).getD k193 d_Row).Vals).length) c299] := hB307
             have hO308z := hO308.size
             refine dn (CW.seq (CW.region ?_))
             have q310 := Box.only (Box.ex hf286 hE305) hO308 (by omega)
             refine sd rfl (yl_loadN ty26 rfl rfl (q310.cells (n := 3) rfl) rfl (sd rfl (yM rfl rfl (sd rfl (yl_loadN ty38 rfl rfl (hB307.cells (n := 1) rfl) rfl ?_)))))
             have q312 := RdS.only gS (RdS.ex gS hf287 hE305) hO308 (by simp only [Iv]; omega)
             have q315 := OwnL.only gI (OwnL.ex gI hf288 hE305) hO308 (by omega)
             refine sd rfl (yC en15 rfl (oc rfl (oc rfl (oc rfl oz))) (Cal.mono (c_i_IdxKey ((sDE p_0).1) ((sDE p_0).2.1) (((i_RowsIn ((sDE p_0).1) ((sDE p_0).2.2)).1).getD k193 d_Row) (RdS.up q312 gS) (RdS.up (OwnL.rd gI q315) gI) (RdS.up (RdS.only gS (RdS.ex gS h299 hE305) hO308 (by simp only [Iv]; omega)) gS) ho9 ho10 (okL.getD ho108 ok_d_Row _)) ?_))
             rintro v320 w318 ⟨rfl, ho319, hE321⟩
             have hE321z := Ex.size hE321
             refine sd rfl (yM rfl rfl (sd rfl (yl_extract rfl rfl rfl (sd rfl (yl_extract rfl rfl rfl (sd rfl (yA rfl rfl (sd rfl (yA rfl rfl (dn (CW.seq (CW.region ?_))))))))))))
             refine sd rfl (yM rfl rfl (sd rfl (yl_not rfl rfl (sd rfl (yM rfl rfl (bcase ((i_IdxKey ((sDE p_0).1) ((sDE p_0).2.1) (((i_RowsIn ((sDE p_0).1) ((sDE p_0).2.2)).1).getD k193 d_Row)).2) (fun hb322 => ?_) (fun hb322 => ?_)))))))
             ·refine sy rfl rfl (not_t hb322) (yM rfl rfl (sy rfl rfl (not_t hb322) (yM rfl rfl ?_)))
              have q326 := OwnL.ex gS (OwnL.only gS (OwnL.ex gS hf290 hE305) hO308 (by omega)) hE321
              refine sy rfl rfl (not_t hb322) (yC en16 rfl (oc rfl (oc rfl oz)) (Cal.mono (c_l_qHas ((i_OrphansIn ((sDE p_0).1) ((sDE p_0).2.1) ((sDE p_0).2.2)).1) ((i_IdxKey ((sDE p_0).1) ((sDE p_0).2.1) (((i_RowsIn ((sDE p_0).1) ((sDE p_0).2.2)).1).getD k193 d_Row)).1) (RdS.up (OwnL.rd gS q326) gS) ho60 ho319) ?_))
              rintro v328 w327 ⟨rfl, hE329⟩
              have hE329z := Ex.size hE329
              refine sd rfl (yl_pick_f rfl rfl (not_t hb322) rfl (sd rfl (yM rfl rfl (bcase (l_qHas ((i_OrphansIn ((sDE p_0).1) ((sDE p_0).2.1) ((sDE p_0).2.2)).1) ((i_IdxKey ((sDE p_0).1) ((sDE p_0).2.1) (((i_RowsIn ((sDE p_0).1) ((sDE p_0).2.2)).1).getD k193 d_Row)).1)) (fun hb330 => ?_) (fun hb330 => ?_)))))
              ·refine sz rfl rfl hb330 (sz rfl rfl hb330 (sz rfl rfl hb330 (sz rfl rfl hb330 (sz rfl rfl hb330 (sz rfl rfl hb330 (sz rfl rfl hb330 (sd rfl (yl_pick_t rfl rfl hb330 rfl (SeqR.done ?_)))))))))
               refine tn (CW.cond_t rfl rfl (CW.seq (CW.region (sd rfl (yA rfl rfl (dn (CW.ret (br ?_))))))))
               refine tr (tr ?_)
               have hB332 : B_l_FnEntries_0 p_0 p_1 k193 () = .ret false := by first | (simp only [B_l_FnEntries_0, hb3, hb124, hb143, hb144, hb161, hb162, hb177, hb178, hb191, hb192, hb322, hb330, cL]; done) | (simp only [B_l_FnEntries_0, hb124, cL] <;> simp only [hb3, hb143, hb144, hb161, hb162, hb177, hb178, hb191, hb192, hb322, hb330, cL])
               have hL331 : loopM (B_l_FnEntries_0 p_0 p_1) (((i_RowsIn ((sDE p_0).1) ((sDE p_0).2.2)).1).length - 0) 0 () = .ret false := hI273.symm.trans (loopM.ret hlt296 hB332)
               refine br (tr (rr rfl (.cons rfl .nil) ?_))
               have hM333 : (l_FnEntries p_0 p_1) = (false) := by first | (simp only [l_FnEntries, hb3, hb124, hb143, hb144, hb161, hb162, hb177, hb178, hb191, hb192, hb322, hb330, hL331, cL]; done) | (simp only [l_FnEntries, hb124, hL331, cL] <;> simp only [hb3, hb143, hb144, hb161, hb162, hb177, hb178, hb191, hb192, hb322, hb330, hL331, cL])
               rw [hM333]
               exact ⟨rfl, (Ex.trans (Ex.trans (Below.only (Ex.trans hf293 hE305) hO308 (by omega)) hE321) hE329)⟩
              ·refine sy rfl rfl hb330 (yM rfl rfl (sy rfl rfl hb330 (yM rfl rfl ?_)))
               have q342 := OwnL.ex gS (OwnL.ex gS (OwnL.only gS (OwnL.ex gS hf289 hE305) hO308 (by omega)) hE321) hE329
               refine sy rfl rfl hb330 (yC en16 rfl (oc rfl (oc rfl oz)) (Cal.mono (c_l_qHas ((i_EntriesIn ((sDE p_0).1) ((sDE p_0).2.1) ((sDE p_0).2.2)).1) ((i_IdxKey ((sDE p_0).1) ((sDE p_0).2.1) (((i_RowsIn ((sDE p_0).1) ((sDE p_0).2.2)).1).getD k193 d_Row)).1) (RdS.up (OwnL.rd gS q342) gS) ho36 ho319) ?_))
               rintro v344 w343 ⟨rfl, hE345⟩
               have hE345z := Ex.size hE345
               refine sy rfl rfl hb330 (yM rfl rfl (sy rfl rfl hb330 (yM rfl rfl ?_)))
               have q351 := OwnL.ex gS (OwnL.ex gS (OwnL.ex gS (OwnL.only gS (OwnL.ex gS hf291 hE305) hO308 (by omega)) hE321) hE329) hE345
               refine sy rfl rfl hb330 (yC en16 rfl (oc rfl (oc rfl oz)) (Cal.mono (c_l_qHas ((i_LacksIn ((sDE p_0).1) ((sDE p_0).2.1) ((sDE p_0).2.2)).1) ((i_IdxKey ((sDE p_0).1) ((sDE p_0).2.1) (((i_RowsIn ((sDE p_0).1) ((sDE p_0).2.2)).1).getD k193 d_Row)).1) (RdS.up (OwnL.rd gS q351) gS) ho84 ho319) ?_))
               rintro v353 w352 ⟨rfl, hE354⟩
               have hE354z := Ex.size hE354
               refine sy rfl rfl hb330 (yl_beql un4 rfl rfl rfl (sd rfl (yl_pick_f rfl rfl hb330 rfl (dn (bcase ((l_qHas ((i_EntriesIn ((sDE p_0).1) ((sDE p_0).2.1) ((sDE p_0).2.2)).1) ((i_IdxKey ((sDE p_0).1) ((sDE p_0).2.1) (((i_RowsIn ((sDE p_0).1) ((sDE p_0).2.2)).1).getD k193 d_Row)).1)) == (l_qHas ((i_LacksIn ((sDE p_0).1) ((sDE p_0).2.1) ((sDE p_0).2.2)).1) ((i_IdxKey ((sDE p_0).1) ((sDE p_0).2.1) (((i_RowsIn ((sDE p_0).1) ((sDE p_0).2.2)).1).getD k193 d_Row)).1))) (fun hb355 => ?_) (fun hb355 => ?_))))))
               ·refine CW.cond_t rfl hb355 (CW.seq (CW.region (sd rfl (yA rfl rfl (dn (CW.ret (br (tr ?_))))))))
                refine tr ?_
                have hB357 : B_l_FnEntries_0 p_0 p_1 k193 () = .ret false := by first | (simp only [B_l_FnEntries_0, hb3, hb124, hb143, hb144, hb161, hb162, hb177, hb178, hb191, hb192, hb322, hb330, hb355, cL]; done) | (simp only [B_l_FnEntries_0, hb124, cL] <;> simp only [hb3, hb143, hb144, hb161, hb162, hb177, hb178, hb191, hb192, hb322, hb330, hb355, cL])
                have hL356 : loopM (B_l_FnEntries_0 p_0 p_1) (((i_RowsIn ((sDE p_0).1) ((sDE p_0).2.2)).1).length - 0) 0 () = .ret false := hI273.symm.trans (loopM.ret hlt296 hB357)
                refine br (tr (rr rfl (.cons rfl .nil) ?_))
                have hM358 : (l_FnEntries p_0 p_1) = (false) := by first | (simp only [l_FnEntries, hb3, hb124, hb143, hb144, hb161, hb162, hb177, hb178, hb191, hb192, hb322, hb330, hb355, hL356, cL]; done) | (simp only [l_FnEntries, hb124, hL356, cL] <;> simp only [hb3, hb143, hb144, hb161, hb162, hb177, hb178, hb191, hb192, hb322, hb330, hb355, hL356, cL])
                rw [hM358]
                exact ⟨rfl, (Ex.trans (Ex.trans (Ex.trans (Ex.trans (Below.only (Ex.trans hf293 hE305) hO308 (by omega)) hE321) hE329) hE345) hE354)⟩
               ·refine CW.cond_f rfl hb355 (CW.skip (bn (tn (CW.region (sd rfl (yl_inc rfl rfl rfl (by omega) (sd rfl (yM rfl rfl (dn ?_)))))))))
                have hB365 : B_l_FnEntries_0 p_0 p_1 k193 () = .cont () := by first | (simp only [B_l_FnEntries_0, hb3, hb124, hb143, hb144, hb161, hb162, hb177, hb178, hb191, hb192, hb322, hb330, hb355, cL]; done) | (simp only [B_l_FnEntries_0, hb124, cL] <;> simp only [hb3, hb143, hb144, hb161, hb162, hb177, hb178, hb191, hb192, hb322, hb330, hb355, cL])
                exact ⟨((i_RowsIn ((sDE p_0).1) ((sDE p_0).2.2)).1).length - (k193 + 1), by omega, k193 + 1, rfl, hlt296, (by omega), rfl, rfl, rfl, rfl, rfl, rfl, rfl, rfl, rfl, rfl, rfl, (Box.ex (Box.ex (Box.ex (Box.ex q310 hE321) hE329) hE345) hE354), (RdS.ex gS (RdS.ex gS (RdS.ex gS (RdS.ex gS q312 hE321) hE329) hE345) hE354), (OwnL.ex gI (OwnL.ex gI (OwnL.ex gI (OwnL.ex gI q315 hE321) hE329) hE345) hE354), (OwnL.ex gS (OwnL.ex gS q342 hE345) hE354), (OwnL.ex gS (OwnL.ex gS (OwnL.ex gS q326 hE329) hE345) hE354), (OwnL.ex gS q351 hE354), (OwnD.ex goodO_Row (OwnD.ex goodO_Row (OwnD.ex goodO_Row (OwnD.ex goodO_Row (OwnD.only goodO_Row (OwnD.ex goodO_Row hf292 hE305) hO308 (by omega)) hE321) hE329) hE345) hE354), (Ex.trans (Ex.trans (Ex.trans (Ex.trans (Below.only (Ex.trans hf293 hE305) hO308 (by omega)) hE321) hE329) hE345) hE354), (loopM.cont hlt296 hB365).symm.trans hI273⟩
             ·refine sz rfl rfl (not_f hb322) (sz rfl rfl (not_f hb322) (sz rfl rfl (not_f hb322) (sd rfl (yl_pick_t rfl rfl (not_f hb322) rfl (sd rfl (yM rfl rfl (sz rfl rfl rfl (sz rfl rfl rfl (sz rfl rfl rfl (sz rfl rfl rfl ?_))))))))))
              refine sz rfl rfl rfl (sz rfl rfl rfl (sz rfl rfl rfl (sd rfl (yl_pick_t rfl rfl rfl rfl (dn (CW.cond_t rfl rfl (CW.seq (CW.region ?_))))))))
              refine sd rfl (yA rfl rfl (dn (CW.ret (br (tr (tr ?_))))))
              have hB397 : B_l_FnEntries_0 p_0 p_1 k193 () = .ret false := by first | (simp only [B_l_FnEntries_0, hb3, hb124, hb143, hb144, hb161, hb162, hb177, hb178, hb191, hb192, hb322, cL]; done) | (simp only [B_l_FnEntries_0, hb124, cL] <;> simp only [hb3, hb143, hb144, hb161, hb162, hb177, hb178, hb191, hb192, hb322, cL])
              have hL396 : loopM (B_l_FnEntries_0 p_0 p_1) (((i_RowsIn ((sDE p_0).1) ((sDE p_0).2.2)).1).length - 0) 0 () = .ret false := hI273.symm.trans (loopM.ret hlt296 hB397)
              refine br (tr (rr rfl (.cons rfl .nil) ?_))
              have hM398 : (l_FnEntries p_0 p_1) = (false) := by first | (simp only [l_FnEntries, hb3, hb124, hb143, hb144, hb161, hb162, hb177, hb178, hb191, hb192, hb322, hL396, cL]; done) | (simp only [l_FnEntries, hb124, hL396, cL] <;> simp only [hb3, hb143, hb144, hb161, hb162, hb177, hb178, hb191, hb192, hb322, hL396, cL])
              rw [hM398]
              exact ⟨rfl, (Ex.trans (Below.only (Ex.trans hf293 hE305) hO308 (by omega)) hE321)⟩
            ·refine CW.seq (CW.region (sd rfl (yl_lss rfl rfl rfl (dn (CW.seq (CW.cond_f rfl (lt_f hlt296) (CW.exit (tx ?_))))))))
             refine tx ?_
             have hL402 : loopM (B_l_FnEntries_0 p_0 p_1) (((i_RowsIn ((sDE p_0).1) ((sDE p_0).2.2)).1).length - 0) 0 () = .done () := hI273.symm.trans (loopM.stop hlt296)
             refine bx (tn (CW.seq (CW.region (sd rfl (yM rfl rfl (sd rfl (yM rfl rfl (bcase ((i_OrphansIn ((sDE p_0).1) ((sDE p_0).2.1) ((sDE p_0).2.2)).2) (fun hb403 => ?_) (fun hb403 => ?_)))))))))
             ·refine sy rfl rfl hb403 (yM rfl rfl (sd rfl (yl_pick_t rfl rfl hb403 rfl (sd rfl (yM rfl rfl (bcase ((i_LacksIn ((sDE p_0).1) ((sDE p_0).2.1) ((sDE p_0).2.2)).2) (fun hb404 => ?_) (fun hb404 => ?_)))))))
              ·refine sy rfl rfl hb404 (yM rfl rfl (sy rfl rfl hb404 (yL un23 rfl rfl (sy rfl rfl hb404 (yM rfl rfl (sy rfl rfl hb404 (yL un23 rfl rfl (sy rfl rfl hb404 (yl_sub rfl rfl rfl (sy rfl rfl hb404 (yM rfl rfl (sy rfl rfl hb404 (yL un23 rfl rfl (sy rfl rfl hb404 (yl_add rfl rfl rfl (sy rfl rfl hb404 (yM rfl rfl ?_)))))))))))))))))
               refine sy rfl rfl hb404 (yL un32 rfl rfl (sy rfl rfl hb404 (yl_eql rfl rfl rfl (sd rfl (yl_pick_t rfl rfl hb404 rfl (sd rfl (yA rfl rfl (dn (CW.ret (rr rfl (.cons rfl .nil) ?_))))))))))
               have hM405 : (l_FnEntries p_0 p_1) = (decide ((IntKind.wrap .i64 ((IntKind.wrap .i64 ((((i_EntriesIn ((sDE p_0).1) ((sDE p_0).2.1) ((sDE p_0).2.2)).1).length : Int) - (((i_OrphansIn ((sDE p_0).1) ((sDE p_0).2.1) ((sDE p_0).2.2)).1).length : Int))) + (((i_LacksIn ((sDE p_0).1) ((sDE p_0).2.1) ((sDE p_0).2.2)).1).length : Int))) = (((i_RowsIn ((sDE p_0).1) ((sDE p_0).2.2)).1).length : Int))) := by first | (simp only [l_FnEntries, hb3, hb124, hb143, hb144, hb161, hb162, hb177, hb178, hb191, hb192, hb403, hb404, hL402, cL]; done) | (simp only [l_FnEntries, hb124, hb144, hb162, hL402, cL] <;> simp only [hb3, hb143, hb161, hb177, hb178, hb191, hb192, hb403, hb404, hL402, cL])
               rw [hM405]
               exact ⟨rfl, hf293⟩
              ·refine sz rfl rfl hb404 (sz rfl rfl hb404 (sz rfl rfl hb404 (sz rfl rfl hb404 (sz rfl rfl hb404 (sz rfl rfl hb404 (sz rfl rfl hb404 (sz rfl rfl hb404 (sz rfl rfl hb404 ?_))))))))
               refine sz rfl rfl hb404 (sz rfl rfl hb404 (sd rfl (yl_pick_f rfl rfl hb404 rfl (sd rfl (yA rfl rfl (dn (CW.ret (rr rfl (.cons rfl .nil) ?_))))))))
               have hM406 : (l_FnEntries p_0 p_1) = (false) := by first | (simp only [l_FnEntries, hb3, hb124, hb143, hb144, hb161, hb162, hb177, hb178, hb191, hb192, hb403, hb404, hL402, cL]; done) | (simp only [l_FnEntries, hb124, hb144, hb162, hL402, cL] <;> simp only [hb3, hb143, hb161, hb177, hb178, hb191, hb192, hb403, hb404, hL402, cL])
               rw [hM406]
               exact ⟨rfl, hf293⟩
             ·refine sz rfl rfl hb403 (sd rfl (yl_pick_f rfl rfl hb403 rfl (sd rfl (yM rfl rfl (sz rfl rfl rfl (sz rfl rfl rfl (sz rfl rfl rfl (sz rfl rfl rfl (sz rfl rfl rfl (sz rfl rfl rfl ?_))))))))))
              refine sz rfl rfl rfl (sz rfl rfl rfl (sz rfl rfl rfl (sz rfl rfl rfl (sz rfl rfl rfl (sd rfl (yl_pick_f rfl rfl rfl rfl (sd rfl (yA rfl rfl (dn ?_)))))))))
              refine CW.ret (rr rfl (.cons rfl .nil) ?_)
              have hM407 : (l_FnEntries p_0 p_1) = (false) := by first | (simp only [l_FnEntries, hb3, hb124, hb143, hb144, hb161, hb162, hb177, hb178, hb191, hb192, hb403, hL402, cL]; done) | (simp only [l_FnEntries, hb124, hb144, hL402, cL] <;> simp only [hb3, hb143, hb161, hb162, hb177, hb178, hb191, hb192, hb403, hL402, cL])
              rw [hM407]
              exact ⟨rfl, hf293⟩
          ·refine CW.cond_t rfl (not_f hb192) (CW.seq (CW.region (sd rfl (yA rfl rfl (dn (CW.ret (tr (rr rfl (.cons rfl .nil) ?_))))))))
           have hM408 : (l_FnEntries p_0 p_1) = (true) := by first | (simp only [l_FnEntries, hb3, hb124, hb143, hb144, hb161, hb162, hb177, hb178, hb191, hb192, cL]; done) | (simp only [l_FnEntries, hb124, cL] <;> simp only [hb3, hb143, hb144, hb161, hb162, hb177, hb178, hb191, hb192, cL])
           rw [hM408]
           exact ⟨rfl, (Ex.trans (Ex.trans (Ex.trans (Ex.trans (Ex.trans (Ex.trans (Ex.trans (Ex.trans (Ex.trans (Ex.trans (Ex.trans (Ex.trans (Below.only (Ex.trans (Ex.trans (Ex.refl w) hE13) hE22) hO25 (by omega)) hE38) hE50) hE62) hE74) hE86) hE98) hE110) hE122) hE142) hE160) hE176) hE190)⟩
         ·refine CW.cond_t rfl (not_f hb191) (CW.seq (CW.region (sd rfl (yA rfl rfl (dn (CW.ret (tr (rr rfl (.cons rfl .nil) ?_))))))))
          have hM424 : (l_FnEntries p_0 p_1) = (false) := by simp only [l_FnEntries, hb3, hb124, hb143, hb144, hb161, hb162, hb177, hb178, hb191, cL]
          rw [hM424]
          exact ⟨rfl, (Ex.trans (Ex.trans (Ex.trans (Ex.trans (Ex.trans (Ex.trans (Ex.trans (Ex.trans (Ex.trans (Ex.trans (Ex.trans (Ex.trans (Below.only (Ex.trans (Ex.trans (Ex.refl w) hE13) hE22) hO25 (by omega)) hE38) hE50) hE62) hE74) hE86) hE98) hE110) hE122) hE142) hE160) hE176) hE190)⟩
        ·refine sz rfl rfl (not_f hb178) (sz rfl rfl (not_f hb178) (sz rfl rfl (not_f hb178) (sz rfl rfl (not_f hb178) (sd rfl (yl_pick_t rfl rfl (not_f hb178) rfl (dn (CW.cond_t rfl rfl (CW.seq ?_))))))))
         refine CW.region (sd rfl (yA rfl rfl (dn (CW.ret (tr (rr rfl (.cons rfl .nil) ?_))))))
         have hM440 : (l_FnEntries p_0 p_1) = (false) := by simp only [l_FnEntries, hb3, hb124, hb143, hb144, hb161, hb162, hb177, hb178, cL]
         rw [hM440]
         exact ⟨rfl, (Ex.trans (Ex.trans (Ex.trans (Ex.trans (Ex.trans (Ex.trans (Ex.trans (Ex.trans (Ex.trans (Ex.trans (Ex.trans (Below.only (Ex.trans (Ex.trans (Ex.refl w) hE13) hE22) hO25 (by omega)) hE38) hE50) hE62) hE74) hE86) hE98) hE110) hE122) hE142) hE160) hE176)⟩
       ·refine sz rfl rfl (not_f hb177) (sz rfl rfl (not_f hb177) (sz rfl rfl (not_f hb177) (sd rfl (yl_pick_t rfl rfl (not_f hb177) rfl (sd rfl (yM rfl rfl (sz rfl rfl rfl (sz rfl rfl rfl (sz rfl rfl rfl (sz rfl rfl rfl ?_))))))))))
        refine sd rfl (yl_pick_t rfl rfl rfl rfl (dn (CW.cond_t rfl rfl (CW.seq (CW.region (sd rfl (yA rfl rfl (dn ?_))))))))
        refine CW.ret (tr (rr rfl (.cons rfl .nil) ?_))
        have hM455 : (l_FnEntries p_0 p_1) = (false) := by simp only [l_FnEntries, hb3, hb124, hb143, hb144, hb161, hb162, hb177, cL]
        rw [hM455]
        exact ⟨rfl, (Ex.trans (Ex.trans (Ex.trans (Ex.trans (Ex.trans (Ex.trans (Ex.trans (Ex.trans (Ex.trans (Ex.trans (Ex.trans (Below.only (Ex.trans (Ex.trans (Ex.refl w) hE13) hE22) hO25 (by omega)) hE38) hE50) hE62) hE74) hE86) hE98) hE110) hE122) hE142) hE160) hE176)⟩
      ·refine sz rfl rfl (not_f hb162) (sz rfl rfl (not_f hb162) (sz rfl rfl (not_f hb162) (sz rfl rfl (not_f hb162) (sd rfl (yl_pick_t rfl rfl (not_f hb162) rfl (sd rfl (yM rfl rfl (sz rfl rfl rfl (sz rfl rfl rfl (sz rfl rfl rfl ?_))))))))))
       refine sd rfl (yl_pick_t rfl rfl rfl rfl (sd rfl (yM rfl rfl (sz rfl rfl rfl (sz rfl rfl rfl (sz rfl rfl rfl (sz rfl rfl rfl (sd rfl (yl_pick_t rfl rfl rfl rfl (dn ?_))))))))))
       refine CW.cond_t rfl rfl (CW.seq (CW.region (sd rfl (yA rfl rfl (dn (CW.ret (tr (rr rfl (.cons rfl .nil) ?_))))))))
       have hM470 : (l_FnEntries p_0 p_1) = (false) := by simp only [l_FnEntries, hb3, hb124, hb143, hb144, hb161, hb162, cL]
       rw [hM470]
       exact ⟨rfl, (Ex.trans (Ex.trans (Ex.trans (Ex.trans (Ex.trans (Ex.trans (Ex.trans (Ex.trans (Ex.trans (Ex.trans (Below.only (Ex.trans (Ex.trans (Ex.refl w) hE13) hE22) hO25 (by omega)) hE38) hE50) hE62) hE74) hE86) hE98) hE110) hE122) hE142) hE160)⟩
     ·refine sz rfl rfl (not_f hb161) (sz rfl rfl (not_f hb161) (sz rfl rfl (not_f hb161) (sd rfl (yl_pick_t rfl rfl (not_f hb161) rfl (sd rfl (yM rfl rfl (sz rfl rfl rfl (sz rfl rfl rfl (sz rfl rfl rfl (sz rfl rfl rfl ?_))))))))))
      refine sd rfl (yl_pick_t rfl rfl rfl rfl (sd rfl (yM rfl rfl (sz rfl rfl rfl (sz rfl rfl rfl (sz rfl rfl rfl (sd rfl (yl_pick_t rfl rfl rfl rfl (sd rfl (yM rfl rfl (sz rfl rfl rfl (sz rfl rfl rfl ?_))))))))))))
      refine sz rfl rfl rfl (sz rfl rfl rfl (sd rfl (yl_pick_t rfl rfl rfl rfl (dn (CW.cond_t rfl rfl (CW.seq (CW.region (sd rfl (yA rfl rfl ?_)))))))))
      refine dn (CW.ret (tr (rr rfl (.cons rfl .nil) ?_)))
      have hM484 : (l_FnEntries p_0 p_1) = (false) := by simp only [l_FnEntries, hb3, hb124, hb143, hb144, hb161, cL]
      rw [hM484]
      exact ⟨rfl, (Ex.trans (Ex.trans (Ex.trans (Ex.trans (Ex.trans (Ex.trans (Ex.trans (Ex.trans (Ex.trans (Ex.trans (Below.only (Ex.trans (Ex.trans (Ex.refl w) hE13) hE22) hO25 (by omega)) hE38) hE50) hE62) hE74) hE86) hE98) hE110) hE122) hE142) hE160)⟩
    ·refine sz rfl rfl (not_f hb144) (sz rfl rfl (not_f hb144) (sz rfl rfl (not_f hb144) (sz rfl rfl (not_f hb144) (sd rfl (yl_pick_t rfl rfl (not_f hb144) rfl (sd rfl (yM rfl rfl (sz rfl rfl rfl (sz rfl rfl rfl (sz rfl rfl rfl ?_))))))))))
     refine sd rfl (yl_pick_t rfl rfl rfl rfl (sd rfl (yM rfl rfl (sz rfl rfl rfl (sz rfl rfl rfl (sz rfl rfl rfl (sz rfl rfl rfl (sd rfl (yl_pick_t rfl rfl rfl rfl (sd rfl (yM rfl rfl (sz rfl rfl rfl ?_))))))))))))
     refine sz rfl rfl rfl (sz rfl rfl rfl (sd rfl (yl_pick_t rfl rfl rfl rfl (sd rfl (yM rfl rfl (sz rfl rfl rfl (sz rfl rfl rfl (sz rfl rfl rfl (sz rfl rfl rfl (sd rfl (yl_pick_t rfl rfl rfl rfl ?_)))))))))))
     refine dn (CW.cond_t rfl rfl (CW.seq (CW.region (sd rfl (yA rfl rfl (dn (CW.ret ?_)))))))
     refine tr (rr rfl (.cons rfl .nil) ?_)
     have hM498 : (l_FnEntries p_0 p_1) = (false) := by simp only [l_FnEntries, hb3, hb124, hb143, hb144, cL]
     rw [hM498]
     exact ⟨rfl, (Ex.trans (Ex.trans (Ex.trans (Ex.trans (Ex.trans (Ex.trans (Ex.trans (Ex.trans (Ex.trans (Below.only (Ex.trans (Ex.trans (Ex.refl w) hE13) hE22) hO25 (by omega)) hE38) hE50) hE62) hE74) hE86) hE98) hE110) hE122) hE142)⟩
   ·refine sz rfl rfl (not_f hb143) (sz rfl rfl (not_f hb143) (sz rfl rfl (not_f hb143) (sd rfl (yl_pick_t rfl rfl (not_f hb143) rfl (sd rfl (yM rfl rfl (sz rfl rfl rfl (sz rfl rfl rfl (sz rfl rfl rfl (sz rfl rfl rfl ?_))))))))))
    refine sd rfl (yl_pick_t rfl rfl rfl rfl (sd rfl (yM rfl rfl (sz rfl rfl rfl (sz rfl rfl rfl (sz rfl rfl rfl (sd rfl (yl_pick_t rfl rfl rfl rfl (sd rfl (yM rfl rfl (sz rfl rfl rfl (sz rfl rfl rfl ?_))))))))))))
    refine sz rfl rfl rfl (sz rfl rfl rfl (sd rfl (yl_pick_t rfl rfl rfl rfl (sd rfl (yM rfl rfl (sz rfl rfl rfl (sz rfl rfl rfl (sz rfl rfl rfl (sd rfl (yl_pick_t rfl rfl rfl rfl (sd rfl (yM rfl rfl ?_))))))))))))
    refine sz rfl rfl rfl (sz rfl rfl rfl (sz rfl rfl rfl (sz rfl rfl rfl (sd rfl (yl_pick_t rfl rfl rfl rfl (dn (CW.cond_t rfl rfl (CW.seq ?_))))))))
    refine CW.region (sd rfl (yA rfl rfl (dn (CW.ret (tr (rr rfl (.cons rfl .nil) ?_))))))
    have hM511 : (l_FnEntries p_0 p_1) = (false) := by simp only [l_FnEntries, hb3, hb124, hb143, cL]
    rw [hM511]
    exact ⟨rfl, (Ex.trans (Ex.trans (Ex.trans (Ex.trans (Ex.trans (Ex.trans (Ex.trans (Ex.trans (Ex.trans (Below.only (Ex.trans (Ex.trans (Ex.refl w) hE13) hE22) hO25 (by omega)) hE38) hE50) hE62) hE74) hE86) hE98) hE110) hE122) hE142)⟩
  ·refine sz rfl rfl (not_f hb124) (sz rfl rfl (not_f hb124) (sz rfl rfl (not_f hb124) (sz rfl rfl (not_f hb124) (sd rfl (yl_pick_t rfl rfl (not_f hb124) rfl (sd rfl (yM rfl rfl (sz rfl rfl rfl (sz rfl rfl rfl (sz rfl rfl rfl ?_))))))))))
   refine sd rfl (yl_pick_t rfl rfl rfl rfl (sd rfl (yM rfl rfl (sz rfl rfl rfl (sz rfl rfl rfl (sz rfl rfl rfl (sz rfl rfl rfl (sd rfl (yl_pick_t rfl rfl rfl rfl (sd rfl (yM rfl rfl (sz rfl rfl rfl ?_))))))))))))
   refine sz rfl rfl rfl (sz rfl rfl rfl (sd rfl (yl_pick_t rfl rfl rfl rfl (sd rfl (yM rfl rfl (sz rfl rfl rfl (sz rfl rfl rfl (sz rfl rfl rfl (sz rfl rfl rfl (sd rfl (yl_pick_t rfl rfl rfl rfl ?_)))))))))))
   refine sd rfl (yM rfl rfl (sz rfl rfl rfl (sz rfl rfl rfl (sz rfl rfl rfl (sd rfl (yl_pick_t rfl rfl rfl rfl (sd rfl (yM rfl rfl (sz rfl rfl rfl (sz rfl rfl rfl (sz rfl rfl rfl ?_)))))))))))
   refine sz rfl rfl rfl (sd rfl (yl_pick_t rfl rfl rfl rfl (dn (CW.cond_t rfl rfl (CW.seq (CW.region (sd rfl (yA rfl rfl (SeqR.done ?_)))))))))
   refine tn (CW.ret (tr (rr rfl (.cons rfl .nil) ?_)))
   have hM524 : (l_FnEntries p_0 p_1) = (false) := by simp only [l_FnEntries, hb3, hb124, cL]
   rw [hM524]
   exact ⟨rfl, (Ex.trans (Ex.trans (Ex.trans (Ex.trans (Ex.trans (Ex.trans (Ex.trans (Ex.trans (Below.only (Ex.trans (Ex.trans (Ex.refl w) hE13) hE22) hO25 (by omega)) hE38) hE50) hE62) hE74) hE86) hE98) hE110) hE122)⟩
end Go.Proofs.YtlnjgkmpaebioaaGreatDoor
