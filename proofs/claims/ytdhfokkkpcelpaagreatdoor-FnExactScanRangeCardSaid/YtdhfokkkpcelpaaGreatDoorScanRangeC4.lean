/- Scan Range: what each call returns, part 4. -/
import Derived.Test.YtdhfokkkpcelpaaGreatDoorScanRangeC3
set_option maxRecDepth 100000
set_option maxHeartbeats 2000000
open Go.Proofs.Tryz Go.Proofs.YtdhfokkkpcelpaaGreatDoor.Tryz
set_option linter.unusedVariables false
set_option linter.unusedSimpArgs false
namespace Go.Proofs.YtdhfokkkpcelpaaGreatDoor
open Go.RowKit Go.X
theorem c_l_FnExactScanRange {A1 : Option Addr} {c1 : Nat} {A2 : Option Addr} {c2 : Nat} {A3 : Option Addr} {c3 : Nat} {w : World} (p_0 : DTable) (p_1 : List DWrite) (p_2 : Int) (p_3 : Str) (p_4 : Str) (h1 : RdS w (Iv 0 w.heap.size) (RF e_Str) 1 A1 p_0.Cols.length c1 p_0.Cols) (h2 : RdS w (Iv 0 w.heap.size) (RF e_Idx) 3 A2 p_0.Idxs.length c2 p_0.Idxs) (h3 : RdS w (Iv 0 w.heap.size) (RF e_Write) 3 A3 p_1.length c3 p_1) (pre0 : wf_Table p_0) (pre1 : (wfL wf_Write) p_1) (pre2 : wfI p_2) (pre3 : wfS p_3) (pre4 : wfS p_4) : Cal Tryz.prog 3 #[.agg #[.string (bs (p_0.Name)), .slice A1 p_0.Cols.length c1, .slice A2 p_0.Idxs.length c2], .slice A3 p_1.length c3, .int .i64 (p_2), .string (bs (p_3)), .string (bs (p_4))] w fun v w' => v = .bool ((l_FnExactScanRange p_0 p_1 p_2 p_3 p_4)) ∧ Ex w w' := by
 refine Cal.of func3 rfl ntmps3 rfl (CW.seq (CW.region (sd rfl (yl_box rfl rfl rfl ?_))))
 intro b4 w5 hs6 hz7 hB8 hE9
 refine sd rfl (yl_assign rfl rfl (dn (CW.seq (CW.seq (CW.region (sd rfl (yl_move rfl rfl (sd rfl (yl_slen un9 (a := p_3) rfl rfl (sd rfl (yl_gtr rfl rfl rfl ?_)))))))))))
 refine dn (bcD (q := 1048576 < (p_3.length : Int)) (fun hb10 hb10p => ?_) (fun hb10 hb10p => ?_))
 ·refine CW.cond_t rfl hb10 (CW.seq (CW.region (sd rfl (yl_assign rfl rfl (dn (CW.ret (tr (rr rfl (.cons rfl .nil) ?_))))))))
  rw [show (l_FnExactScanRange p_0 p_1 p_2 p_3 p_4) = (true) by simp only [l_FnExactScanRange, hb10, cL]]
  exact ⟨rfl, (Ex.trans (Ex.refl w) hE9)⟩
 ·refine CW.cond_f rfl hb10 (CW.skip (tn (CW.seq (CW.seq (CW.region (sd rfl (yl_move rfl rfl (sd rfl (yl_slen un9 (a := p_4) rfl rfl (sd rfl (yl_gtr rfl rfl rfl ?_)))))))))))
  refine dn (bcD (q := 1048576 < (p_4.length : Int)) (fun hb13 hb13p => ?_) (fun hb13 hb13p => ?_))
  ·refine CW.cond_t rfl hb13 (CW.seq (CW.region (sd rfl (yl_assign rfl rfl (dn (CW.ret (tr (rr rfl (.cons rfl .nil) ?_))))))))
   rw [show (l_FnExactScanRange p_0 p_1 p_2 p_3 p_4) = (true) by simp only [l_FnExactScanRange, hb10, hb13, cL]]
   exact ⟨rfl, (Ex.trans (Ex.refl w) hE9)⟩
  ·refine CW.cond_f rfl hb13 (CW.skip (tn (CW.seq (CW.region (sd rfl (yl_assign rfl rfl (dn (CW.seq ?_))))))))
   refine CW.region (sd rfl (yl_loadN ty25 rfl rfl (hB8.cells (n := 3) rfl) rfl (sd rfl (yl_move rfl rfl ?_))))
   have q16 := Ex.trans (Ex.refl w) hE9
   refine sd rfl (yl_call en4 rfl (oc rfl (oc rfl oz)) (Cal.mono (c_l_szTable p_0 1048576 (RdS.up (RdS.ex good_Str h1 q16) good_Str) (RdS.up (RdS.ex good_Idx h2 q16) good_Idx)) ?_))
   rintro v20 w19 ⟨rfl, hE21⟩
   have hE21z := Ex.size hE21
   refine sd rfl (yl_assign rfl rfl (dn (CW.seq (CW.seq (CW.region (sd rfl (yl_move rfl rfl (sd rfl (yl_lss rfl rfl rfl (SeqR.done ?_))))))))))
   refine tn (bcD (q := (l_szTable p_0 1048576) < 0) (fun hb22 hb22p => ?_) (fun hb22 hb22p => ?_))
   ·refine CW.cond_t rfl hb22 (CW.seq (CW.region (sd rfl (yl_assign rfl rfl (dn (CW.ret (tr (rr rfl (.cons rfl .nil) ?_))))))))
    rw [show (l_FnExactScanRange p_0 p_1 p_2 p_3 p_4) = (true) by simp only [l_FnExactScanRange, hb10, hb13, hb22, cL]]
    exact ⟨rfl, (Ex.trans q16 hE21)⟩
   ·refine CW.cond_f rfl hb22 (CW.skip (tn (CW.seq (CW.region (sd rfl (yl_move rfl rfl (sd rfl (yl_move rfl rfl ?_))))))))
    have q25 := Ex.trans q16 hE21
    refine sd rfl (yl_call en5 rfl (oc rfl (oc rfl oz)) (Cal.mono (c_l_szWriteS p_1 (l_szTable p_0 1048576) (RdS.up (RdS.ex good_Write h3 q25) good_Write)) ?_))
    rintro v28 w27 ⟨rfl, hE29⟩
    have hE29z := Ex.size hE29
    refine sd rfl (yl_assign rfl rfl (dn (CW.seq (CW.seq (CW.region (sd rfl (yl_move rfl rfl (sd rfl (yl_lss rfl rfl rfl (SeqR.done ?_))))))))))
    refine tn (bcD (q := (l_szWriteS p_1 (l_szTable p_0 1048576)) < 0) (fun hb30 hb30p => ?_) (fun hb30 hb30p => ?_))
    ·refine CW.cond_t rfl hb30 (CW.seq (CW.region (sd rfl (yl_assign rfl rfl (dn (CW.ret (tr (rr rfl (.cons rfl .nil) ?_))))))))
     rw [show (l_FnExactScanRange p_0 p_1 p_2 p_3 p_4) = (true) by simp only [l_FnExactScanRange, hb10, hb13, hb22, hb30, cL]]
     exact ⟨rfl, (Ex.trans q25 hE29)⟩
    ·refine CW.cond_f rfl hb30 (CW.skip (tn (CW.seq (CW.region ?_))))
     have q34 := Box.ex (Box.ex hB8 hE21) hE29
     refine sd rfl (yl_loadN ty25 rfl rfl (q34.cells (n := 3) rfl) rfl ?_)
     have q35 := Ex.trans q25 hE29
     refine sd rfl (yl_call en7 rfl (oc rfl oz) (Cal.mono (c_l_toTable p_0 (RdS.up (RdS.ex good_Str h1 q35) good_Str) (RdS.up (RdS.ex good_Idx h2 q35) good_Idx) ((szok_Table pre0 (by decide) (dec_f hb22)).1)) ?_))
     rintro v41 w38 ⟨A39, c39, lo39, hi39, A40, c40, lo40, hi40, rfl, h39, h40, hrn43, hrn44, hrn45, hE42⟩
     have hE42z := Ex.size hE42
     refine sd rfl (yl_move rfl rfl ?_)
     have q46 := Ex.trans q35 hE42
     refine sd rfl (yl_call en8 rfl (oc rfl oz) (Cal.mono (c_l_toWriteS p_1 (RdS.up (RdS.ex good_Write h3 q46) good_Write) ((szok_WriteS pre1 (szok_Table pre0 (by decide) (dec_f hb22)).2 (dec_f hb30)).1)) ?_))
     rintro v50 w48 ⟨A49, c49, lo49, hi49, rfl, h49, hrn52, hE51⟩
     have hE51z := Ex.size hE51
     refine sd rfl (yl_move rfl rfl (sd rfl (yl_move rfl rfl (sd rfl (yl_move rfl rfl (sd rfl (yl_call en6 rfl (oc rfl (oc rfl (oc rfl (oc rfl (oc rfl oz))))) (Cal.mono (c_s_ScanRange p_0 p_1 p_2 p_3 p_4 (RdS.up (OwnL.rd good_Str (OwnL.ex good_Str h39 hE51)) good_Str) (RdS.up (OwnL.rd good_Idx (OwnL.ex good_Idx h40 hE51)) good_Idx) (RdS.up (OwnL.rd good_Write h49) good_Write) ((szok_Table pre0 (by decide) (dec_f hb22)).1) ((szok_WriteS pre1 (szok_Table pre0 (by decide) (dec_f hb22)).2 (dec_f hb30)).1) (by unfold okS; (try dsimp only); omega) (by unfold okS; (try dsimp only); omega)) ?_))))))))
     rintro v61 w58 ⟨A59, c59, lo59, hi59, rfl, h59, ho60, hrn63, hE62⟩
     have hE62z := Ex.size hE62
     refine sd rfl (yl_move rfl rfl (sd rfl (yl_extract rfl rfl rfl (sd rfl (yl_extract rfl rfl rfl (sd rfl (yl_assign rfl rfl (sd rfl (yl_assign rfl rfl (dn (CW.seq (CW.region ?_))))))))))))
     have q66 := Box.ex (Box.ex (Box.ex q34 hE42) hE51) hE62
     refine sd rfl (yl_loadN ty25 rfl rfl (q66.cells (n := 3) rfl) rfl ?_)
     have q68 := Ex.trans (Ex.trans q46 hE51) hE62
     refine sd rfl (yl_call en7 rfl (oc rfl oz) (Cal.mono (c_l_toTable p_0 (RdS.up (RdS.ex good_Str h1 q68) good_Str) (RdS.up (RdS.ex good_Idx h2 q68) good_Idx) ((szok_Table pre0 (by decide) (dec_f hb22)).1)) ?_))
     rintro v74 w71 ⟨A72, c72, lo72, hi72, A73, c73, lo73, hi73, rfl, h72, h73, hrn76, hrn77, hrn78, hE75⟩
     have hE75z := Ex.size hE75
     refine sd rfl (yl_alloc ty34 (cs := [.string (bs (([] : Str))), .slice none 0 0, .slice none 0 0]) rfl rfl ?_)
     intro b79 w80 hs81 hz82 hB83 hE84
     refine SeqR.u rfl rfl (yl_storeA (vs := [.string (bs (p_0.Name)), .slice A72 p_0.Cols.length c72, .slice A73 p_0.Idxs.length c73]) ty34 rfl rfl rfl rfl rfl rfl hB83 rfl ?_)
     intro w85 hB86 hO87
     have hO87z := hO87.size
     refine dn (CW.seq (CW.region (sd rfl (yl_move rfl rfl ?_))))
     have q90 := Below.only (Ex.trans (Ex.trans q68 hE75) hE84) hO87 (by omega)
     refine sd rfl (yl_call en8 rfl (oc rfl oz) (Cal.mono (c_l_toWriteS p_1 (RdS.up (RdS.ex good_Write h3 q90) good_Write) ((szok_WriteS pre1 (szok_Table pre0 (by decide) (dec_f hb22)).2 (dec_f hb30)).1)) ?_))
     rintro v94 w92 ⟨A93, c93, lo93, hi93, rfl, h93, hrn96, hE95⟩
     have hE95z := Ex.size hE95
     refine sd rfl (yl_assign rfl rfl (dn (CW.seq (CW.region ?_))))
     have q97 := Box.ex hB86 hE95
     refine sd rfl (yl_loadN ty34 rfl rfl (q97.cells (n := 3) rfl) rfl (sd rfl (yl_move rfl rfl (sd rfl (yl_move rfl rfl (sd rfl (yl_move rfl rfl (sd rfl (yl_move rfl rfl ?_)))))))))
     have q101 := OwnL.ex good_Str (OwnL.only good_Str (OwnL.ex good_Str h72 hE84) hO87 (by omega)) hE95
     have q105 := OwnL.ex good_Idx (OwnL.only good_Idx (OwnL.ex good_Idx h73 hE84) hO87 (by omega)) hE95
     refine sd rfl (yl_call en9 rfl (oc rfl (oc rfl (oc rfl (oc rfl (oc rfl oz))))) (Cal.mono (c_i_ScanRange p_0 p_1 p_2 p_3 p_4 (RdS.up (OwnL.rd good_Str q101) good_Str) (RdS.up (OwnL.rd good_Idx q105) good_Idx) (RdS.up (OwnL.rd good_Write h93) good_Write) ((szok_Table pre0 (by decide) (dec_f hb22)).1) ((szok_WriteS pre1 (szok_Table pre0 (by decide) (dec_f hb22)).2 (dec_f hb30)).1) (by unfold okS; (try dsimp only); omega) (by unfold okS; (try dsimp only); omega)) ?_))
     rintro v109 w107 ⟨A108, c108, lo108, hi108, rfl, h108, hrn111, hE110⟩
     have hE110z := Ex.size hE110
     refine sd rfl (yl_move rfl rfl (sd rfl (yl_extract rfl rfl rfl (sd rfl (yl_extract rfl rfl rfl (sd rfl (yl_assign rfl rfl (sd rfl (yl_assign rfl rfl (dn (CW.seq (CW.seq ?_))))))))))))
     refine CW.region (sd rfl (yl_move rfl rfl (sd rfl (yl_move rfl rfl ?_))))
     have q118 := OwnL.ex good_Row (OwnL.ex good_Row (OwnL.only good_Row (OwnL.ex good_Row (OwnL.ex good_Row h59 hE75) hE84) hO87 (by omega)) hE95) hE110
     refine sd rfl (yl_call en10 rfl (oc rfl (oc rfl oz)) (Cal.mono (c_l_eqRowS ((i_ScanRange p_0 p_1 p_2 p_3 p_4).1) ((s_ScanRange p_0 p_1 p_2 p_3 p_4).1) (RdS.up (OwnL.rd good_Row (OwnU.own goodO_Row good_Row h108)) good_Row) (RdS.up (OwnL.rd good_Row q118) good_Row)) ?_))
     rintro v120 w119 ⟨rfl, hE121⟩
     have hE121z := Ex.size hE121
     refine sd rfl (yl_not rfl rfl (sd rfl (yl_move rfl rfl (bcase (l_eqRowS ((i_ScanRange p_0 p_1 p_2 p_3 p_4).1) ((s_ScanRange p_0 p_1 p_2 p_3 p_4).1)) (fun hb122 => ?_) (fun hb122 => ?_)))))
     ·refine sy rfl rfl (not_t hb122) (yl_move rfl rfl (sy rfl rfl (not_t hb122) (yl_move rfl rfl (sy rfl rfl (not_t hb122) (yl_bneq un4 rfl rfl rfl (sd rfl (yl_pick_f rfl rfl (not_t hb122) rfl (dn (bcase (((i_ScanRange p_0 p_1 p_2 p_3 p_4).2) == ((s_ScanRange p_0 p_1 p_2 p_3 p_4).2)) (fun hb123 => ?_) (fun hb123 => ?_))))))))))
      ·refine CW.cond_f rfl (not_t hb123) (CW.skip (tn (CW.seq (CW.seq ?_))))
       have q125 := Box.ex (Box.ex q97 hE110) hE121
       have q131 := Box.ex (Box.ex (Box.ex (Box.only (Box.ex (Box.ex q66 hE75) hE84) hO87 (by omega)) hE95) hE110) hE121
       have q134 := Ex.trans (Ex.trans (Ex.trans q90 hE95) hE110) hE121
       have q142 := OwnL.ex good_Str (OwnL.ex good_Str q101 hE110) hE121
       have q145 := OwnL.ex good_Idx (OwnL.ex good_Idx q105 hE110) hE121
       refine CW.drawsI 5 (vgetI [DetI (.agg #[.string (bs (p_0.Name)), .slice A72 p_0.Cols.length c72, .slice A73 p_0.Idxs.length c73]), DetI (.agg #[.string (bs (p_0.Name)), .slice A1 p_0.Cols.length c1, .slice A2 p_0.Idxs.length c2]), fun lo hi v wq => ∃ A138 c138 lo138 hi138 A139 c139 lo139 hi139, v = .agg #[.string (bs (p_0.Name)), .slice A138 p_0.Cols.length c138, .slice A139 p_0.Idxs.length c139] ∧ OwnL wq lo138 hi138 9 1 (RF e_Str) A138 p_0.Cols.length c138 p_0.Cols ∧ OwnL wq lo139 hi139 79 3 (RF e_Idx) A139 p_0.Idxs.length c139 p_0.Idxs ∧ (lo ≤ lo138 ∧ lo138 ≤ hi138 ∧ hi138 ≤ hi) ∧ (lo ≤ lo139 ∧ lo139 ≤ hi139 ∧ hi139 ≤ hi) ∧ (hi138 ≤ lo139 ∨ hi139 ≤ lo138), DetI (.bool ((l_eqTable p_0 p_0))), DetI (.bool (!(l_eqTable p_0 p_0)))]) Tryz.follows rfl rfl rfl rfl rfl rfl (vgetI_stable ⟨StableI.det _, StableI.det _, (fun _ _ _ _ _ ⟨A138, c138, lo138, hi138, A139, c139, lo139, hi139, hv, h138, h139, hr0, hr1, hr2⟩ e => ⟨A138, c138, lo138, hi138, A139, c139, lo139, hi139, hv, OwnL.ex good_Str h138 e, OwnL.ex good_Idx h139 e, hr0, hr1, hr2⟩), StableI.det _, StableI.det _, trivial⟩) ⟨?_, ?_, ?_, ?_, ?_, trivial⟩ ?_
       ·exact oI rfl fun h => yl_loadN ty34 rfl (h.old 14 _ rfl rfl) ((Box.ex q125 h.ex).cells (n := 3) rfl) rfl kI
       ·exact oI rfl fun h => yl_loadN ty25 rfl (h.old 5 _ rfl rfl) ((Box.ex q131 h.ex).cells (n := 3) rfl) rfl kI
       ·intro L159 w160 hi161
        have hE162 := hi161.ex
        have q164 := Ex.trans q134 hE162
        refine OpR.op' rfl (yl_call en7 rfl (oc (hi161.dt 1 73 rfl rfl rfl) oz) (Cal.mono (c_l_toTable p_0 (RdS.up (RdS.ex good_Str h1 q164) good_Str) (RdS.up (RdS.ex good_Idx h2 q164) good_Idx) ((szok_Table pre0 (by decide) (dec_f hb22)).1)) ?_))
        rintro v170 w167 ⟨A168, c168, lo168, hi168, A169, c169, lo169, hi169, rfl, h168, h169, hrn172, hrn173, hrn174, hE171⟩
        exact ⟨⟨A168, c168, lo168, hi168, A169, c169, lo169, hi169, rfl, h168, h169, hrn172, hrn173, hrn174⟩, hE171⟩
       ·intro L175 w176 hi177
        have hE178 := hi177.ex
        obtain ⟨lo181, hh182, _, hx180, hr183, hr184, hr185, A138_186, c138_187, lo138_188, hi138_189, A139_190, c139_191, lo139_192, hi139_193, rfl, h194, h195, hrn196, hrn197, hrn198⟩ := hi177.dep 2 74 rfl rfl
        exact OpR.op' rfl (yl_call en11 rfl (oc (hi177.dt 0 72 rfl rfl rfl) (oc hx180 oz)) (Cal.mono (c_l_eqTable p_0 p_0 (RdS.up (OwnL.rd good_Str (OwnL.ex good_Str q142 hE178)) good_Str) (RdS.up (OwnL.rd good_Idx (OwnL.ex good_Idx q145 hE178)) good_Idx) (RdS.up (OwnL.rd good_Str h194) good_Str) (RdS.up (OwnL.rd good_Idx h195) good_Idx)) fun _ _ h => h))
       ·exact oI rfl fun h => yl_not rfl (h.dt 3 75 rfl rfl rfl) kI
       ·intro fl216 fh217 L213 w214 hp215
        have hE218 := hp215.ex
        have hE218z := Ex.size hE218
        have hr231 := hp215.rng 2 rfl
        obtain ⟨_, hx230, A138_232, c138_233, lo138_234, hi138_235, A139_236, c139_237, lo139_238, hi139_239, rfl, h240, h241, hrn242, hrn243, hrn244⟩ := hp215.new 2 74 rfl rfl
        refine dn (CW.sub (Sub.cons (d := 1) (hp215.old 1 _ rfl rfl) (Sub.cons (d := 2) (hp215.old 2 _ rfl rfl) (Sub.cons (d := 3) (hp215.old 3 _ rfl rfl) (Sub.cons (d := 4) (hp215.old 4 _ rfl rfl) (Sub.cons (d := 5) (hp215.old 5 _ rfl rfl) (Sub.cons (d := 12) (hp215.old 12 _ rfl rfl) (Sub.cons (d := 13) (hp215.old 13 _ rfl rfl) (Sub.cons (d := 14) (hp215.old 14 _ rfl rfl) (Sub.cons (d := 15) (hp215.old 15 _ rfl rfl) (Sub.cons (d := 16) (hp215.old 16 _ rfl rfl) (Sub.cons (d := 17) (hp215.old 17 _ rfl rfl) (Sub.cons (d := 76) (hp215.nt 4 76 rfl rfl rfl) (Sub.nil _))))))))))))) (bcase (l_eqTable p_0 p_0) (fun hb246 => ?_) (fun hb246 => ?_)))
        ·refine CW.cond_f rfl (not_t hb246) (CW.skip (tn (CW.seq (CW.seq (CW.region (sd rfl (yl_move rfl rfl (sd rfl (yl_move rfl rfl ?_)))))))))
         have q247 := Ex.trans q134 hE218
         refine sd rfl (yl_call en8 rfl (oc rfl oz) (Cal.mono (c_l_toWriteS p_1 (RdS.up (RdS.ex good_Write h3 q247) good_Write) ((szok_WriteS pre1 (szok_Table pre0 (by decide) (dec_f hb22)).2 (dec_f hb30)).1)) ?_))
         rintro v251 w249 ⟨A250, c250, lo250, hi250, rfl, h250, hrn253, hE252⟩
         have hE252z := Ex.size hE252
         have q258 := OwnL.ex good_Write (OwnL.ex good_Write (OwnL.ex good_Write (OwnL.ex good_Write h93 hE110) hE121) hE218) hE252
         refine sd rfl (yl_call en12 rfl (oc rfl (oc rfl oz)) (Cal.mono (c_l_eqWriteS p_1 p_1 (RdS.up (OwnL.rd good_Write q258) good_Write) (RdS.up (OwnL.rd good_Write h250) good_Write)) ?_))
         rintro v261 w260 ⟨rfl, hE262⟩
         have hE262z := Ex.size hE262
         refine sd rfl (yl_not rfl rfl (dn (bcase (l_eqWriteS p_1 p_1) (fun hb263 => ?_) (fun hb263 => ?_))))
         ·refine CW.cond_f rfl (not_t hb263) (CW.skip (tn (CW.seq (CW.region (sd rfl (yl_assign rfl rfl (dn (CW.seq ?_))))))))
          refine CW.region (sd rfl (yl_loadN ty34 rfl rfl ((Box.ex (Box.ex (Box.ex q125 hE218) hE252) hE262).cells (n := 3) rfl) rfl (sd rfl (yl_move rfl rfl (sd rfl (yl_call en13 rfl (oc rfl (oc rfl oz)) (Cal.mono (c_l_markTable p_0 1 (OwnL.ex good_Str (OwnL.ex good_Str (OwnL.ex good_Str q142 hE218) hE252) hE262) (OwnL.ex good_Idx (OwnL.ex good_Idx (OwnL.ex good_Idx q145 hE218) hE252) hE262) (by omega) (by omega) (by omega) (by first | omega | assumption | (simp only [wI] at *; omega))) ?_)))))))
          rintro v274 w273 ⟨rfl, h276, h277, hm275⟩
          have hm275z := Mut.size hm275
          have hrf278 := rf_markTable p_0 1 (by first | omega | assumption | (simp only [wI] at *; omega))
          refine sd rfl (yl_assign rfl rfl (dn (CW.seq (CW.region (sd rfl (yl_move rfl rfl (sd rfl (yl_move rfl rfl (sd rfl (yl_call en14 rfl (oc rfl (oc rfl oz)) (Cal.mono (c_l_markWriteS p_1 ((l_markTable p_0 1).1) (OwnL.mut good_Write (OwnL.ex good_Write q258 hE262) hm275 kR) (by omega) (by first | omega | assumption | (simp only [wI] at *; omega))) ?_)))))))))))
          rintro v282 w281 ⟨rfl, h284, hm283⟩
          have hm283z := Mut.size hm283
          have hrf285 := rf_markWriteS p_1 ((l_markTable p_0 1).1) (by first | omega | assumption | (simp only [wI] at *; omega))
          refine sd rfl (yl_assign rfl rfl (dn (CW.seq (CW.seq (CW.region (sd rfl (yl_move rfl rfl (sd rfl (yl_lss rfl rfl rfl (sd rfl (yl_move rfl rfl ?_)))))))))))
          refine bcD (q := ((l_markWriteS p_1 ((l_markTable p_0 1).1)).1) < 0) (fun hb286 hb286p => ?_) (fun hb286 hb286p => ?_)
          ·refine sz rfl rfl hb286 (sz rfl rfl hb286 (sz rfl rfl hb286 (sz rfl rfl hb286 (sd rfl (yl_pick_t rfl rfl hb286 rfl (sd rfl (yl_move rfl rfl (sz rfl rfl rfl (sz rfl rfl rfl (sz rfl rfl rfl ?_))))))))))
           refine sd rfl (yl_pick_t rfl rfl rfl rfl (dn (CW.cond_t rfl rfl (CW.seq (CW.region (sd rfl (yl_assign rfl rfl (dn ?_))))))))
           refine CW.ret (tr (rr rfl (.cons rfl .nil) ?_))
           rw [show (l_FnExactScanRange p_0 p_1 p_2 p_3 p_4) = (false) by simp only [l_FnExactScanRange, hb10, hb13, hb22, hb30, hb122, hb123, hb246, hb263, hb286, cL]]
           exact ⟨rfl, (Ex.mut (Ex.mut (Ex.trans (Ex.trans q247 hE252) hE262) hm275 kR) hm283 kR)⟩
          ·refine sy rfl rfl hb286 (yl_move rfl rfl (sy rfl rfl hb286 (yl_move rfl rfl ?_)))
           have q298 := OwnU.mut goodO_Row (OwnU.mut goodO_Row (OwnU.ex goodO_Row (OwnU.ex goodO_Row (OwnU.ex goodO_Row (OwnU.ex goodO_Row h108 hE121) hE218) hE252) hE262) hm275 kR) hm283 kR
           have q305 := OwnL.mut good_Row (OwnL.mut good_Row (OwnL.ex good_Row (OwnL.ex good_Row (OwnL.ex good_Row (OwnL.ex good_Row q118 hE121) hE218) hE252) hE262) hm275 kR) hm283 kR
           refine sy rfl rfl hb286 (yl_call en10 rfl (oc rfl (oc rfl oz)) (Cal.mono (c_l_eqRowS ((i_ScanRange p_0 p_1 p_2 p_3 p_4).1) ((s_ScanRange p_0 p_1 p_2 p_3 p_4).1) (RdS.up (OwnL.rd good_Row (OwnU.own goodO_Row good_Row q298)) good_Row) (RdS.up (OwnL.rd good_Row q305) good_Row)) ?_))
           rintro v307 w306 ⟨rfl, hE308⟩
           have hE308z := Ex.size hE308
           refine sy rfl rfl hb286 (yl_not rfl rfl (sd rfl (yl_pick_f rfl rfl hb286 rfl (sd rfl (yl_move rfl rfl (sy rfl rfl (not_t hb122) (yl_move rfl rfl (sy rfl rfl (not_t hb122) (yl_move rfl rfl (sy rfl rfl (not_t hb122) (yl_bneq un4 rfl rfl rfl (sd rfl (yl_pick_f rfl rfl (not_t hb122) rfl (dn ?_))))))))))))))
           refine CW.cond_f rfl (not_t hb123) (CW.skip (tn (CW.seq (CW.region (sd rfl (yl_assign rfl rfl (dn (CW.seq ?_))))))))
           refine CW.region (sd rfl (yl_move rfl rfl (sd rfl (yl_move rfl rfl (sd rfl (yl_call en15 rfl (oc rfl (oc rfl oz)) (Cal.mono (c_l_markRowS ((i_ScanRange p_0 p_1 p_2 p_3 p_4).1) 1 (OwnU.ex goodO_Row q298 hE308) (by omega) (by first | omega | assumption | (simp only [wI] at *; omega))) ?_)))))))
           rintro v311 w310 ⟨rfl, h313, hm312⟩
           have hm312z := Mut.size hm312
           have hrf314 := rf_markRowS ((i_ScanRange p_0 p_1 p_2 p_3 p_4).1) 1 (by first | omega | assumption | (simp only [wI] at *; omega))
           refine sd rfl (yl_assign rfl rfl (dn (CW.seq (CW.region (sd rfl (yl_assign rfl rfl (dn (CW.seq ?_))))))))
           refine CW.region (sd rfl (yl_move rfl rfl (sd rfl (yl_move rfl rfl ?_))))
           have hle315 := OwnU.len h313
           refine sd rfl (yl_call en16 rfl (oc rfl (oc rfl oz)) (Cal.mono (Cal.args (by rw [← hle315] <;> rfl) (c_l_heldRowS ((l_markRowS ((i_ScanRange p_0 p_1 p_2 p_3 p_4).1) 1).2) 1 (RdS.fix (RdS.up (OwnL.rd good_Row (OwnU.own goodO_Row good_Row h313)) good_Row)) (by first | omega | assumption | (simp only [wI] at *; omega)))) ?_))
           rintro v318 w317 ⟨rfl, hE319⟩
           have hE319z := Ex.size hE319
           have hrf320 := rf_heldRowS ((l_markRowS ((i_ScanRange p_0 p_1 p_2 p_3 p_4).1) 1).2) 1 (by first | omega | assumption | (simp only [wI] at *; omega))
           refine sd rfl (yl_assign rfl rfl (dn (CW.seq (CW.seq (CW.region (sd rfl (yl_move rfl rfl (sd rfl (yl_lss rfl rfl rfl (SeqR.done ?_))))))))))
           refine tn (bcD (q := (l_heldRowS ((l_markRowS ((i_ScanRange p_0 p_1 p_2 p_3 p_4).1) 1).2) 1) < 0) (fun hb321 hb321p => ?_) (fun hb321 hb321p => ?_))
           ·refine CW.cond_t rfl hb321 (CW.seq (CW.region (sd rfl (yl_assign rfl rfl (dn (CW.ret (tr (rr rfl (.cons rfl .nil) ?_))))))))
            rw [show (l_FnExactScanRange p_0 p_1 p_2 p_3 p_4) = (false) by simp only [l_FnExactScanRange, hb10, hb13, hb22, hb30, hb122, hb123, hb246, hb263, hb286, hb321, cL]]
            exact ⟨rfl, (Ex.trans (Ex.mut (Ex.trans (Ex.mut (Ex.mut (Ex.trans (Ex.trans q247 hE252) hE262) hm275 kR) hm283 kR) hE308) hm312 kR) hE319)⟩
           ·refine CW.cond_f rfl hb321 (CW.skip (tn (CW.seq (CW.seq (CW.region (sd rfl (yl_move rfl rfl (sd rfl (yl_move rfl rfl (sd rfl (yl_neq rfl rfl rfl ?_)))))))))))
            refine dn (bcD (q := (l_heldRowS ((l_markRowS ((i_ScanRange p_0 p_1 p_2 p_3 p_4).1) 1).2) 1) = ((l_markRowS ((i_ScanRange p_0 p_1 p_2 p_3 p_4).1) 1).1)) (fun hb330 hb330p => ?_) (fun hb330 hb330p => ?_))
            ·refine CW.cond_f rfl (not_t hb330) (CW.skip (tn (CW.seq (CW.region (sd rfl (yl_loadN ty25 rfl rfl ((Box.ex (Box.mut (Box.ex (Box.mut (Box.mut (Box.ex (Box.ex (Box.ex q131 hE218) hE252) hE262) hm275 kR) hm283 kR) hE308) hm312 kR) hE319).cells (n := 3) rfl) rfl ?_))))))
             have q345 := Ex.trans (Ex.mut (Ex.trans (Ex.mut (Ex.mut (Ex.trans (Ex.trans q247 hE252) hE262) hm275 kR) hm283 kR) hE308) hm312 kR) hE319
             refine sd rfl (yl_call en7 rfl (oc rfl oz) (Cal.mono (c_l_toTable p_0 (RdS.up (RdS.ex good_Str h1 q345) good_Str) (RdS.up (RdS.ex good_Idx h2 q345) good_Idx) ((szok_Table pre0 (by decide) (dec_f hb22)).1)) ?_))
             rintro v351 w348 ⟨A349, c349, lo349, hi349, A350, c350, lo350, hi350, rfl, h349, h350, hrn353, hrn354, hrn355, hE352⟩
             have hE352z := Ex.size hE352
             refine sd rfl (yl_move rfl rfl ?_)
             have q356 := Ex.trans q345 hE352
             refine sd rfl (yl_call en8 rfl (oc rfl oz) (Cal.mono (c_l_toWriteS p_1 (RdS.up (RdS.ex good_Write h3 q356) good_Write) ((szok_WriteS pre1 (szok_Table pre0 (by decide) (dec_f hb22)).2 (dec_f hb30)).1)) ?_))
             rintro v360 w358 ⟨A359, c359, lo359, hi359, rfl, h359, hrn362, hE361⟩
             have hE361z := Ex.size hE361
             refine sd rfl (yl_move rfl rfl (sd rfl (yl_move rfl rfl (sd rfl (yl_move rfl rfl (sd rfl (yl_call en9 rfl (oc rfl (oc rfl (oc rfl (oc rfl (oc rfl oz))))) (Cal.mono (c_i_ScanRange p_0 p_1 p_2 p_3 p_4 (RdS.up (OwnL.rd good_Str (OwnL.ex good_Str h349 hE361)) good_Str) (RdS.up (OwnL.rd good_Idx (OwnL.ex good_Idx h350 hE361)) good_Idx) (RdS.up (OwnL.rd good_Write h359) good_Write) ((szok_Table pre0 (by decide) (dec_f hb22)).1) ((szok_WriteS pre1 (szok_Table pre0 (by decide) (dec_f hb22)).2 (dec_f hb30)).1) (by unfold okS; (try dsimp only); omega) (by unfold okS; (try dsimp only); omega)) ?_))))))))
             rintro v370 w368 ⟨A369, c369, lo369, hi369, rfl, h369, hrn372, hE371⟩
             have hE371z := Ex.size hE371
             refine sd rfl (yl_move rfl rfl (sd rfl (yl_extract rfl rfl rfl (sd rfl (yl_extract rfl rfl rfl (sd rfl (yl_assign rfl rfl (sd rfl (yl_assign rfl rfl (dn (CW.seq (CW.seq ?_))))))))))))
             refine CW.region (sd rfl (yl_move rfl rfl (sd rfl (yl_move rfl rfl (sd rfl (yl_call en10 rfl (oc rfl (oc rfl oz)) (Cal.mono (c_l_eqRowS ((i_ScanRange p_0 p_1 p_2 p_3 p_4).1) ((s_ScanRange p_0 p_1 p_2 p_3 p_4).1) (RdS.up (OwnL.rd good_Row (OwnU.own goodO_Row good_Row h369)) good_Row) (RdS.up (OwnL.rd good_Row (OwnL.ex good_Row (OwnL.ex good_Row (OwnL.ex good_Row (OwnL.ex good_Row (OwnL.mut good_Row (OwnL.ex good_Row q305 hE308) hm312 kR) hE319) hE352) hE361) hE371)) good_Row)) ?_)))))))
             rintro v382 w381 ⟨rfl, hE383⟩
             have hE383z := Ex.size hE383
             refine sd rfl (yl_not rfl rfl (sd rfl (yl_move rfl rfl (sy rfl rfl (not_t hb122) (yl_move rfl rfl (sy rfl rfl (not_t hb122) (yl_move rfl rfl (sy rfl rfl (not_t hb122) (yl_bneq un4 rfl rfl rfl (sd rfl (yl_pick_f rfl rfl (not_t hb122) rfl (dn (CW.cond_f rfl (not_t hb123) ?_)))))))))))))
             refine CW.skip (tn (CW.seq (CW.region (sd rfl (yl_assign rfl rfl (dn (CW.seq (CW.region ?_))))))))
             refine sd rfl (yl_move rfl rfl (sd rfl (yl_move rfl rfl ?_)))
             have q389 := OwnU.ex goodO_Row (OwnU.ex goodO_Row (OwnU.ex goodO_Row (OwnU.ex goodO_Row (OwnU.ex goodO_Row h313 hE319) hE352) hE361) hE371) hE383
             have hle384 := OwnU.len q389
             refine sd rfl (yl_call en16 rfl (oc rfl (oc rfl oz)) (Cal.mono (Cal.args (by rw [← hle384] <;> rfl) (c_l_heldRowS ((l_markRowS ((i_ScanRange p_0 p_1 p_2 p_3 p_4).1) 1).2) 1 (RdS.fix (RdS.up (OwnL.rd good_Row (OwnU.own goodO_Row good_Row q389)) good_Row)) (by first | omega | assumption | (simp only [wI] at *; omega)))) ?_))
             rintro v392 w391 ⟨rfl, hE393⟩
             have hE393z := Ex.size hE393
             have hrf394 := rf_heldRowS ((l_markRowS ((i_ScanRange p_0 p_1 p_2 p_3 p_4).1) 1).2) 1 (by first | omega | assumption | (simp only [wI] at *; omega))
             refine sd rfl (yl_assign rfl rfl (dn (CW.seq (CW.seq (CW.region (sd rfl (yl_move rfl rfl (sd rfl (yl_lss rfl rfl rfl (SeqR.done ?_))))))))))
             refine tn (CW.cond_f rfl hb321 (CW.skip (tn (CW.seq (CW.seq (CW.region (sd rfl (yl_move rfl rfl (sd rfl (yl_move rfl rfl ?_))))))))))
             refine sd rfl (yl_neq rfl rfl rfl (dn (CW.cond_f rfl (not_t hb330) (CW.skip (tn (CW.seq (CW.region (sd rfl (yl_assign rfl rfl ?_)))))))))
             refine dn (CW.ret (rr rfl (.cons rfl .nil) ?_))
             rw [show (l_FnExactScanRange p_0 p_1 p_2 p_3 p_4) = (true) by simp only [l_FnExactScanRange, hb10, hb13, hb22, hb30, hb122, hb123, hb246, hb263, hb286, hb321, hb330, cL]]
             exact ⟨rfl, (Ex.trans (Ex.trans (Ex.trans (Ex.trans q356 hE361) hE371) hE383) hE393)⟩
            ·refine CW.cond_t rfl (not_f hb330) (CW.seq (CW.region (sd rfl (yl_assign rfl rfl (dn (CW.ret (tr (rr rfl (.cons rfl .nil) ?_))))))))
             rw [show (l_FnExactScanRange p_0 p_1 p_2 p_3 p_4) = (false) by simp only [l_FnExactScanRange, hb10, hb13, hb22, hb30, hb122, hb123, hb246, hb263, hb286, hb321, hb330, cL]]
             exact ⟨rfl, (Ex.trans (Ex.mut (Ex.trans (Ex.mut (Ex.mut (Ex.trans (Ex.trans q247 hE252) hE262) hm275 kR) hm283 kR) hE308) hm312 kR) hE319)⟩
         ·refine CW.cond_t rfl (not_f hb263) (CW.seq (CW.region (sd rfl (yl_assign rfl rfl (dn (CW.ret (tr (rr rfl (.cons rfl .nil) ?_))))))))
          rw [show (l_FnExactScanRange p_0 p_1 p_2 p_3 p_4) = (false) by simp only [l_FnExactScanRange, hb10, hb13, hb22, hb30, hb122, hb123, hb246, hb263, cL]]
          exact ⟨rfl, (Ex.trans (Ex.trans q247 hE252) hE262)⟩
        ·refine CW.cond_t rfl (not_f hb246) (CW.seq (CW.region (sd rfl (yl_assign rfl rfl (dn (CW.ret (tr (rr rfl (.cons rfl .nil) ?_))))))))
         rw [show (l_FnExactScanRange p_0 p_1 p_2 p_3 p_4) = (false) by simp only [l_FnExactScanRange, hb10, hb13, hb22, hb30, hb122, hb123, hb246, cL]]
         exact ⟨rfl, (Ex.trans q134 hE218)⟩
      ·refine CW.cond_t rfl (not_f hb123) (CW.seq (CW.region (sd rfl (yl_assign rfl rfl (dn (CW.ret (tr (rr rfl (.cons rfl .nil) ?_))))))))
       rw [show (l_FnExactScanRange p_0 p_1 p_2 p_3 p_4) = (false) by simp only [l_FnExactScanRange, hb10, hb13, hb22, hb30, hb122, hb123, cL]]
       exact ⟨rfl, (Ex.trans (Ex.trans (Ex.trans q90 hE95) hE110) hE121)⟩
     ·refine sz rfl rfl (not_f hb122) (sz rfl rfl (not_f hb122) (sz rfl rfl (not_f hb122) (sd rfl (yl_pick_t rfl rfl (not_f hb122) rfl (dn (CW.cond_t rfl rfl (CW.seq (CW.region ?_))))))))
      refine sd rfl (yl_assign rfl rfl (dn (CW.ret (tr (rr rfl (.cons rfl .nil) ?_)))))
      rw [show (l_FnExactScanRange p_0 p_1 p_2 p_3 p_4) = (false) by simp only [l_FnExactScanRange, hb10, hb13, hb22, hb30, hb122, cL]]
      exact ⟨rfl, (Ex.trans (Ex.trans (Ex.trans q90 hE95) hE110) hE121)⟩
end Go.Proofs.YtdhfokkkpcelpaaGreatDoor
