/- Set Stage: what each call returns, part 2. -/
import Derived.Test.YtmlfbjlkccnpmaaSetStageC1
set_option linter.unusedVariables false
set_option linter.unusedSimpArgs false
namespace Go.Proofs.Ytmlfbjlkccnpmaa
open Go.RowKit Go.X
set_option maxRecDepth 100000 in
set_option maxHeartbeats 2000000 in
theorem c_i_copyTable {A1 : Option Addr} {c1 : Nat} {A2 : Option Addr} {c2 : Nat} {w : World} (p_t : DTable) (h1 : RdS w (Iv 0 w.heap.size) (RF e_Str) 1 A1 p_t.Cols.length c1 p_t.Cols) (h2 : RdS w (Iv 0 w.heap.size) (RF e_Idx) 3 A2 p_t.Idxs.length c2 p_t.Idxs) (o3 : ok_Table p_t) : Cal Try.prog 165 #[.agg #[.string (bs (p_t.Name)), .slice A1 p_t.Cols.length c1, .slice A2 p_t.Idxs.length c2]] w fun v w' => ∃ A_1 c_1 lo_1 hi_1 A_2 c_2 lo_2 hi_2, v = .agg #[.string (bs ((i_copyTable p_t).Name)), .slice A_1 (((i_copyTable p_t).Cols).length) c_1, .slice A_2 (((i_copyTable p_t).Idxs).length) c_2] ∧ OwnL w' lo_1 hi_1 9 1 (RF e_Str) A_1 (((i_copyTable p_t).Cols).length) c_1 ((i_copyTable p_t).Cols) ∧ OwnL w' lo_2 hi_2 132 3 (RF e_Idx) A_2 (((i_copyTable p_t).Idxs).length) c_2 ((i_copyTable p_t).Idxs) ∧ ok_Table (i_copyTable p_t) ∧ (w.heap.size ≤ lo_1 ∧ lo_1 ≤ hi_1 ∧ hi_1 ≤ w'.heap.size) ∧ (w.heap.size ≤ lo_2 ∧ lo_2 ≤ hi_2 ∧ hi_2 ≤ w'.heap.size) ∧ (hi_1 ≤ lo_2 ∨ hi_2 ≤ lo_1) ∧ Ex w w' := by
 have hol4 : p_t.Name.length ≤ 1073741824 := o3.1
 have hol5 := o3.2.1.1
 have hol6 := o3.2.2.1
 refine Cal.of (vs := [.agg #[.string (bs (p_t.Name)), .slice A1 p_t.Cols.length c1, .slice A2 p_t.Idxs.length c2]]) Try.func165 rfl Try.ntmps165 rfl (CW.seq (CW.region (sd rfl (yl_box (cs := [.string (bs (p_t.Name)), .slice A1 p_t.Cols.length c1, .slice A2 p_t.Idxs.length c2]) rfl rfl rfl ?_))))
 intro b7 w8 hs9 hz10 hB11 hE12
 refine sd rfl (yl_alloc Try.ty35 (cs := [.string (bs (([] : Str))), .slice none 0 0, .slice none 0 0]) rfl rfl ?_)
 intro b13 w14 hs15 hz16 hB17 hE18
 refine SeqR.done (tn (CW.seq ?_))
 have q19 := Box.ex hB11 hE18
 refine CW.drawsI 8 (vgetI [DetI (.pointer (some ⟨b7, 0 + 0, none⟩)), DetI (.string (bs (p_t.Name))), DetI (.pointer (some ⟨b7, 0 + 1, none⟩)), DetI (.slice A1 p_t.Cols.length c1), fun lo hi v wq => ∃ A23 c23 lo23 hi23, v = .slice A23 ((g_slices_Clone_string p_t.Cols).length) c23 ∧ OwnL wq lo23 hi23 9 1 (RF e_Str) A23 ((g_slices_Clone_string p_t.Cols).length) c23 (g_slices_Clone_string p_t.Cols) ∧ (okL okS) (g_slices_Clone_string p_t.Cols) ∧ (lo ≤ lo23 ∧ lo23 ≤ hi23 ∧ hi23 ≤ hi), DetI (.pointer (some ⟨b7, 0 + 2, none⟩)), DetI (.slice A2 p_t.Idxs.length c2), fun lo hi v wq => ∃ A28 c28 lo28 hi28, v = .slice A28 ((g_slices_Clone_Idx p_t.Idxs).length) c28 ∧ OwnL wq lo28 hi28 132 3 (RF e_Idx) A28 ((g_slices_Clone_Idx p_t.Idxs).length) c28 (g_slices_Clone_Idx p_t.Idxs) ∧ (okL ok_Idx) (g_slices_Clone_Idx p_t.Idxs) ∧ (lo ≤ lo28 ∧ lo28 ≤ hi28 ∧ hi28 ≤ hi)]) Try.follows rfl rfl rfl rfl rfl rfl (vgetI_stable ⟨StableI.det _, StableI.det _, StableI.det _, StableI.det _, (fun _ _ _ _ _ ⟨A23, c23, lo23, hi23, hv, h23, ho24, hr0⟩ e => ⟨A23, c23, lo23, hi23, hv, OwnL.ex good_Str h23 e, ho24, hr0⟩), StableI.det _, StableI.det _, (fun _ _ _ _ _ ⟨A28, c28, lo28, hi28, hv, h28, ho29, hr0⟩ e => ⟨A28, c28, lo28, hi28, hv, OwnL.ex good_Idx h28 e, ho29, hr0⟩), trivial⟩) ⟨?_, ?_, ?_, ?_, ?_, ?_, ?_, ?_, trivial⟩ ?_
 ·exact fun _ _ h => os rfl ((yl_fieldAddr Try.fd35_0 rfl (h.old 1 _ rfl rfl) kI))
 ·exact fun _ _ h => os rfl ((yl_load1 Try.ty9 rfl (h.dt 0 3 rfl rfl rfl) (((Box.ex q19 h.ex).cell 0).trans rfl) kI))
 ·exact fun _ _ h => os rfl ((yl_fieldAddr Try.fd35_1 rfl (h.old 1 _ rfl rfl) kI))
 ·exact fun _ _ h => os rfl ((yl_load1 Try.ty22 rfl (h.dt 2 5 rfl rfl rfl) (((Box.ex q19 h.ex).cell 1).trans rfl) kI))
 ·intro L52 w53 hi54
  have hE55 := hi54.ex
  refine OpR.op' rfl (yl_call Try.en200 rfl (opvs_cons (hi54.dt 3 6 rfl rfl rfl) opvs_nil) (Cal.mono (c_g_slices_Clone_string p_t.Cols (RdS.up (RdS.ex good_Str (RdS.ex good_Str (RdS.ex good_Str h1 hE12) hE18) hE55) good_Str) o3.2.1) ?_))
  rintro v61 w58 ⟨A59, c59, lo59, hi59, rfl, h59, ho60, hrn63, hE62⟩
  exact ⟨⟨A59, c59, lo59, hi59, rfl, h59, ho60, hrn63⟩, hE62⟩
 ·exact fun _ _ h => os rfl ((yl_fieldAddr Try.fd35_2 rfl (h.old 1 _ rfl rfl) kI))
 ·exact fun _ _ h => os rfl ((yl_load1 Try.ty33 rfl (h.dt 5 8 rfl rfl rfl) (((Box.ex q19 h.ex).cell 2).trans rfl) kI))
 ·intro L75 w76 hi77
  have hE78 := hi77.ex
  refine OpR.op' rfl (yl_call Try.en201 rfl (opvs_cons (hi77.dt 6 9 rfl rfl rfl) opvs_nil) (Cal.mono (c_g_slices_Clone_Idx p_t.Idxs (RdS.up (RdS.ex good_Idx (RdS.ex good_Idx (RdS.ex good_Idx h2 hE12) hE18) hE78) good_Idx) o3.2.2) ?_))
  rintro v84 w81 ⟨A82, c82, lo82, hi82, rfl, h82, ho83, hrn86, hE85⟩
  exact ⟨⟨A82, c82, lo82, hi82, rfl, h82, ho83, hrn86⟩, hE85⟩
 ·intro fl90 fh91 L87 w88 hp89
  have hE92 := hp89.ex
  have hE92z := Ex.size hE92
  have hx93 := hp89.old 2 _ rfl rfl
  have hr96 := hp89.rng 4 rfl
  obtain ⟨_, hx95, A23_97, c23_98, lo23_99, hi23_100, rfl, h101, h102, hrn103⟩ := hp89.new 4 7 rfl rfl
  have hr105 := hp89.rng 7 rfl
  have hsp106 := hp89.sep 4 7 rfl rfl rfl
  obtain ⟨_, hx104, A28_107, c28_108, lo28_109, hi28_110, rfl, h111, h112, hrn113⟩ := hp89.new 7 10 rfl rfl
  refine sd rfl (yl_build (cs := [.string (bs (p_t.Name)), .slice A23_97 ((g_slices_Clone_string p_t.Cols).length) c23_98, .slice A28_107 ((g_slices_Clone_Idx p_t.Idxs).length) c28_108]) rfl (opvs_cons (hp89.nt 1 4 rfl rfl rfl) (opvs_cons hx95 (opvs_cons hx104 opvs_nil))) (by kernel_rfl) (SeqR.u rfl rfl (yl_store (vs := [.string (bs (p_t.Name)), .slice A23_97 ((g_slices_Clone_string p_t.Cols).length) c23_98, .slice A28_107 ((g_slices_Clone_Idx p_t.Idxs).length) c28_108]) Try.ty35 rfl hx93 rfl rfl rfl rfl (Box.ex hB17 hE92) (Nat.le_of_ble_eq_true rfl) ?_)))
  intro w115 hB116 hO117
  have hB116 : Box w115 b13 35 [.string (bs (p_t.Name)), .slice A23_97 ((g_slices_Clone_string p_t.Cols).length) c23_98, .slice A28_107 ((g_slices_Clone_Idx p_t.Idxs).length) c28_108] := hB116
  have hO117z := hO117.size
  refine SeqR.done (tn (CW.sub (Sub.cons (d := 2) hx93 (Sub.nil _)) (CW.ret (rr rfl (.cons ⟨_, rfl, run_loadN Try.ty35 (cs := [.string (bs (p_t.Name)), .slice A23_97 ((g_slices_Clone_string p_t.Cols).length) c23_98, .slice A28_107 ((g_slices_Clone_Idx p_t.Idxs).length) c28_108]) rfl (hB116.cells (n := 3) rfl)⟩ .nil) ?_))))
  have hM118 : (i_copyTable p_t) = ((⟨p_t.Name, (g_slices_Clone_string p_t.Cols), (g_slices_Clone_Idx p_t.Idxs)⟩ : DTable)) := by simp only [i_copyTable, cond_true, cond_false, loopE_done, loopE_ret]
  rw [hM118]
  exact ⟨A23_97, c23_98, lo23_99, hi23_100, A28_107, c28_108, lo28_109, hi28_110, rfl, (OwnL.only good_Str h101 hO117 (by omega)), (OwnL.only good_Idx h111 hO117 (by omega)), ⟨o3.1, h102, h112⟩, (by omega), (by omega), (by omega), (Below.only (Ex.trans (Ex.trans (Ex.trans (Ex.refl w) hE12) hE18) hE92) hO117 (by omega))⟩
set_option maxRecDepth 100000 in
set_option maxHeartbeats 2000000 in
theorem c_i_Table_withStage {A1 : Option Addr} {c1 : Nat} {A2 : Option Addr} {c2 : Nat} {w : World} (p_t : DTable) (p_name : Str) (p_stage : Int) (h1 : RdS w (Iv 0 w.heap.size) (RF e_Str) 1 A1 p_t.Cols.length c1 p_t.Cols) (h2 : RdS w (Iv 0 w.heap.size) (RF e_Idx) 3 A2 p_t.Idxs.length c2 p_t.Idxs) (o3 : ok_Table p_t) (o4 : okS p_name) (pre0 : (0 ≤ i_Table_findIdx p_t p_name ∧ i_Table_findIdx p_t p_name < (p_t.Idxs.length : Int))) : Cal Try.prog 95 #[.agg #[.string (bs (p_t.Name)), .slice A1 p_t.Cols.length c1, .slice A2 p_t.Idxs.length c2], .string (bs (p_name)), .int .i64 (p_stage)] w fun v w' => ∃ A_1 c_1 lo_1 hi_1 A_2 c_2 lo_2 hi_2, v = .agg #[.string (bs ((i_Table_withStage p_t p_name p_stage).Name)), .slice A_1 (((i_Table_withStage p_t p_name p_stage).Cols).length) c_1, .slice A_2 (((i_Table_withStage p_t p_name p_stage).Idxs).length) c_2] ∧ OwnL w' lo_1 hi_1 9 1 (RF e_Str) A_1 (((i_Table_withStage p_t p_name p_stage).Cols).length) c_1 ((i_Table_withStage p_t p_name p_stage).Cols) ∧ OwnL w' lo_2 hi_2 132 3 (RF e_Idx) A_2 (((i_Table_withStage p_t p_name p_stage).Idxs).length) c_2 ((i_Table_withStage p_t p_name p_stage).Idxs) ∧ ok_Table (i_Table_withStage p_t p_name p_stage) ∧ (w.heap.size ≤ lo_1 ∧ lo_1 ≤ hi_1 ∧ hi_1 ≤ w'.heap.size) ∧ (w.heap.size ≤ lo_2 ∧ lo_2 ≤ hi_2 ∧ hi_2 ≤ w'.heap.size) ∧ (hi_1 ≤ lo_2 ∨ hi_2 ≤ lo_1) ∧ Ex w w' := by
 have hol5 : p_t.Name.length ≤ 1073741824 := o3.1
 have hol6 := o3.2.1.1
 have hol7 := o3.2.2.1
 have hol8 : p_name.length ≤ 1073741824 := o4
 refine Cal.of (vs := [.agg #[.string (bs (p_t.Name)), .slice A1 p_t.Cols.length c1, .slice A2 p_t.Idxs.length c2], .string (bs (p_name)), .int .i64 (p_stage)]) Try.func95 rfl Try.ntmps95 rfl (CW.seq (CW.region (sd rfl (yl_box (cs := [.string (bs (p_t.Name)), .slice A1 p_t.Cols.length c1, .slice A2 p_t.Idxs.length c2]) rfl rfl rfl ?_))))
 intro b9 w10 hs11 hz12 hB13 hE14
 refine sd rfl (yl_alloc Try.ty35 (cs := [.string (bs (([] : Str))), .slice none 0 0, .slice none 0 0]) rfl rfl ?_)
 intro b15 w16 hs17 hz18 hB19 hE20
 refine SeqR.done (tn (CW.seq (CW.region ?_)))
 have q21 := Box.ex hB13 hE20
 refine sd rfl (yl_loadN (cs := [.string (bs (p_t.Name)), .slice A1 p_t.Cols.length c1, .slice A2 p_t.Idxs.length c2]) Try.ty35 rfl rfl (q21.cells (n := 3) rfl) rfl ?_)
 have q23 := RdS.ex good_Str (RdS.ex good_Str h1 hE14) hE20
 have q25 := RdS.ex good_Idx (RdS.ex good_Idx h2 hE14) hE20
 refine sd rfl (yl_call Try.en165 rfl (opvs_cons rfl opvs_nil) (Cal.mono (c_i_copyTable p_t (RdS.up q23 good_Str) (RdS.up q25 good_Idx) o3) ?_))
 rintro v30 w26 ⟨A27, c27, lo27, hi27, A28, c28, lo28, hi28, rfl, h27, h28, ho29, hrn32, hrn33, hrn34, hE31⟩
 have hE31z := Ex.size hE31
 have hrf35 := rf_copyTable p_t
 refine sd rfl (yl_alloc Try.ty35 (cs := [.string (bs (([] : Str))), .slice none 0 0, .slice none 0 0]) rfl rfl ?_)
 intro b36 w37 hs38 hz39 hB40 hE41
 refine SeqR.u rfl rfl (yl_store (vs := [.string (bs ((i_copyTable p_t).Name)), .slice A27 (((i_copyTable p_t).Cols).length) c27, .slice A28 (((i_copyTable p_t).Idxs).length) c28]) Try.ty35 rfl rfl rfl rfl rfl rfl hB40 (Nat.le_of_ble_eq_true rfl) ?_)
 intro w42 hB43 hO44
 have hB43 : Box w42 b36 35 [.string (bs ((i_copyTable p_t).Name)), .slice A27 (((i_copyTable p_t).Cols).length) c27, .slice A28 (((i_copyTable p_t).Idxs).length) c28] := hB43
 have hO44z := hO44.size
 refine SeqR.done (tn (CW.seq ?_))
 have hrf55 := rf_i_findIdx p_t p_name
 refine CW.drawsI 6 (vgetI [DetI (.pointer (some ⟨b36, 0 + 2, none⟩)), DetI (.slice A28 (((i_copyTable p_t).Idxs).length) c28), DetI (.agg #[.string (bs (p_t.Name)), .slice A1 p_t.Cols.length c1, .slice A2 p_t.Idxs.length c2]), DetI (.string (bs (p_name))), DetI (.int .i64 ((i_Table_findIdx p_t p_name))), DetI (.int .i64 (p_stage))]) Try.follows rfl rfl rfl rfl rfl rfl (vgetI_stable ⟨StableI.det _, StableI.det _, StableI.det _, StableI.det _, StableI.det _, StableI.det _, trivial⟩) ⟨?_, ?_, ?_, ?_, ?_, ?_, trivial⟩ ?_
 ·exact fun _ _ h => os rfl ((yl_fieldAddr Try.fd35_2 rfl (h.old 7 _ rfl rfl) kI))
 ·exact fun _ _ h => os rfl ((yl_load1 Try.ty33 rfl (h.dt 0 10 rfl rfl rfl) (((Box.ex hB43 h.ex).cell 2).trans rfl) kI))
 ·intro L67 w68 hi69
  have hE70 := hi69.ex
  have hE70z := Ex.size hE70
  exact os rfl ((yl_loadN (cs := [.string (bs (p_t.Name)), .slice A1 p_t.Cols.length c1, .slice A2 p_t.Idxs.length c2]) Try.ty35 rfl (hi69.old 3 _ rfl rfl) ((Box.ex (Box.only (Box.ex (Box.ex q21 hE31) hE41) hO44 (by omega)) hE70).cells (n := 3) rfl) rfl kI))
 ·exact fun _ _ h => os rfl ((yl_move rfl (h.old 1 _ rfl rfl) kI))
 ·intro L78 w79 hi80
  have hE81 := hi80.ex
  have hE81z := Ex.size hE81
  refine OpR.op' rfl (yl_call Try.en151 rfl (opvs_cons (hi80.dt 2 12 rfl rfl rfl) (opvs_cons (hi80.dt 3 13 rfl rfl rfl) opvs_nil)) (Cal.mono (c_i_Table_findIdx p_t p_name (RdS.up (RdS.ex good_Str (RdS.only good_Str (RdS.ex good_Str (RdS.ex good_Str q23 hE31) hE41) hO44 (by simp only [Iv]; omega)) hE81) good_Str) (RdS.up (RdS.ex good_Idx (RdS.only good_Idx (RdS.ex good_Idx (RdS.ex good_Idx q25 hE31) hE41) hO44 (by simp only [Iv]; omega)) hE81) good_Idx) o3 o4) ?_))
  rintro v87 w86 ⟨rfl, hE88⟩
  exact ⟨rfl, hE88⟩
 ·exact fun _ _ h => os rfl ((yl_move rfl (h.old 2 _ rfl rfl) kI))
 ·intro fl97 fh98 L94 w95 hp96
  have hE99 := hp96.ex
  have hE99z := Ex.size hE99
  have q108 := OwnL.ex good_Idx (OwnL.only good_Idx (OwnL.ex good_Idx h28 hE41) hO44 (by omega)) hE99
  obtain ⟨eb109, eo109, ec109, eA109, eS109, ebl109, el109, eR109, eC109⟩ := RdS.atD (OwnL.rd good_Idx q108) d_Idx (i := ((i_Table_findIdx p_t p_name)).toNat) (by first | omega | assumption | (simp only [IntKind.wrap_i64] at *; omega))
  obtain rfl := eR109
  have eC109 : Cells w95 eb109 (eo109 + (((i_Table_findIdx p_t p_name)).toNat) * 3) [.string (bs ((((i_copyTable p_t).Idxs).getD (((i_Table_findIdx p_t p_name)).toNat) d_Idx).Name)), .int .i64 ((((i_copyTable p_t).Idxs).getD (((i_Table_findIdx p_t p_name)).toNat) d_Idx).Col), .int .i64 ((((i_copyTable p_t).Idxs).getD (((i_Table_findIdx p_t p_name)).toNat) d_Idx).Stage)] := eC109
  refine sd rfl (yl_indexAddr Try.un33 Try.ty132 rfl (hp96.nt 1 11 rfl rfl rfl) (hp96.nt 4 14 rfl rfl rfl) eA109 (by first | omega | assumption | (simp only [IntKind.wrap_i64] at *; omega)) (by first | omega | assumption | (simp only [IntKind.wrap_i64] at *; omega)) (sd rfl (yl_fieldAddr Try.fd132_2 rfl rfl ?_)))
  have hrg110 := OwnL.rng q108 (i := ((i_Table_findIdx p_t p_name)).toNat) (by first | omega | assumption | (simp only [IntKind.wrap_i64] at *; omega)) eb109 (by rw [eA109]; rfl)
  refine SeqR.u rfl rfl (yl_storeF (off := eo109) (i := ((i_Table_findIdx p_t p_name)).toNat) (d := 2) (dx := d_Idx) (x' := (⟨(((i_copyTable p_t).Idxs).getD (((i_Table_findIdx p_t p_name)).toNat) d_Idx).Name, (((i_copyTable p_t).Idxs).getD (((i_Table_findIdx p_t p_name)).toNat) d_Idx).Col, p_stage⟩ : DIdx)) (vs := [.int .i64 (p_stage)]) Try.ty3 rfl q108 eA109 rfl (hp96.nt 5 15 rfl rfl rfl) rfl rfl rfl (by first | omega | assumption | (simp only [IntKind.wrap_i64] at *; omega)) (Nat.le_of_ble_eq_true rfl) rfl rfl ?_)
  intro w111 hB112 hO113
  have hO113z := hO113.size
  refine SeqR.done (tn (CW.sub (Sub.cons (d := 6) (hp96.old 6 _ rfl rfl) (Sub.cons (d := 7) (hp96.old 7 _ rfl rfl) (Sub.nil _))) (CW.seq (CW.region (sd rfl (yl_loadN (cs := [.string (bs ((i_copyTable p_t).Name)), .slice A27 (((i_copyTable p_t).Cols).length) c27, .slice A28 (((i_copyTable p_t).Idxs).length) c28]) Try.ty35 rfl rfl ((Box.only (Box.ex hB43 hE99) hO113 (by omega)).cells (n := 3) rfl) rfl (SeqR.u rfl rfl (yl_store (vs := [.string (bs ((i_copyTable p_t).Name)), .slice A27 (((i_copyTable p_t).Cols).length) c27, .slice A28 (((i_copyTable p_t).Idxs).length) c28]) Try.ty35 rfl rfl rfl rfl rfl rfl (Box.only (Box.ex (Box.only (Box.ex (Box.ex hB19 hE31) hE41) hO44 (by omega)) hE99) hO113 (by omega)) (Nat.le_of_ble_eq_true rfl) ?_))))))))
  intro w121 hB122 hO123
  have hB122 : Box w121 b15 35 [.string (bs ((i_copyTable p_t).Name)), .slice A27 (((i_copyTable p_t).Cols).length) c27, .slice A28 (((i_copyTable p_t).Idxs).length) c28] := hB122
  have hO123z := hO123.size
  refine SeqR.done (tn (CW.ret (rr rfl (.cons ⟨_, rfl, run_loadN Try.ty35 (cs := [.string (bs ((i_copyTable p_t).Name)), .slice A27 (((i_copyTable p_t).Cols).length) c27, .slice A28 (((i_copyTable p_t).Idxs).length) c28]) rfl (hB122.cells (n := 3) rfl)⟩ .nil) ?_)))
  have hM124 : (i_Table_withStage p_t p_name p_stage) = ((⟨(i_copyTable p_t).Name, (i_copyTable p_t).Cols, (((i_copyTable p_t).Idxs).set (((i_Table_findIdx p_t p_name)).toNat) (⟨(((i_copyTable p_t).Idxs).getD (((i_Table_findIdx p_t p_name)).toNat) d_Idx).Name, (((i_copyTable p_t).Idxs).getD (((i_Table_findIdx p_t p_name)).toNat) d_Idx).Col, p_stage⟩ : DIdx))⟩ : DTable)) := by simp only [i_Table_withStage, cond_true, cond_false, loopE_done, loopE_ret]
  have q130 := OwnL.only good_Idx hB112 hO123 (by omega)
  have hfx131 := (q130).1
  have hol132 : ((i_copyTable p_t).Idxs).length ≤ 1073741824 := ho29.2.2.1
  rw [hM124]
  exact ⟨A27, c27, lo27, hi27, A28, c28, lo28, hi28, (by first | rfl | (simp only [List.length_replicate, List.length_set]; done) | (simp only [List.length_replicate, List.length_set]; rfl) | rw [hfx131]), (OwnL.only good_Str (OwnL.only good_Str (OwnL.ex good_Str (OwnL.only good_Str (OwnL.ex good_Str h27 hE41) hO44 (by omega)) hE99) hO113 (by omega)) hO123 (by omega)), (OwnL.fix q130), ⟨ho29.1, ho29.2.1, (okL.mk (xs := (((i_copyTable p_t).Idxs).set (((i_Table_findIdx p_t p_name)).toNat) (⟨(((i_copyTable p_t).Idxs).getD (((i_Table_findIdx p_t p_name)).toNat) d_Idx).Name, (((i_copyTable p_t).Idxs).getD (((i_Table_findIdx p_t p_name)).toNat) d_Idx).Col, p_stage⟩ : DIdx))) (by first | omega | (simp only [List.length_append, List.length_cons, List.length_nil, List.length_take, List.length_drop, List.length_replicate, List.length_set, toS_length]; omega)) (okE.set (ho29.2.2).2 (okL.getD ho29.2.2 ok_d_Idx _)))⟩, (by omega), (by omega), (by omega), (Below.only (Below.only (Ex.trans (Below.only (Ex.trans (Ex.trans (Ex.trans (Ex.trans (Ex.refl w) hE14) hE20) hE31) hE41) hO44 (by omega)) hE99) hO113 (by omega)) hO123 (by omega))⟩
set_option maxRecDepth 100000 in
set_option maxHeartbeats 2000000 in
theorem c_i_SetStage {A1 : Option Addr} {c1 : Nat} {A2 : Option Addr} {c2 : Nat} {w : World} (p_t : DTable) (p_name : Str) (p_stage : Int) (h1 : RdS w (Iv 0 w.heap.size) (RF e_Str) 1 A1 p_t.Cols.length c1 p_t.Cols) (h2 : RdS w (Iv 0 w.heap.size) (RF e_Idx) 3 A2 p_t.Idxs.length c2 p_t.Idxs) (o3 : ok_Table p_t) (o4 : okS p_name) : Cal Try.prog 49 #[.agg #[.string (bs (p_t.Name)), .slice A1 p_t.Cols.length c1, .slice A2 p_t.Idxs.length c2], .string (bs (p_name)), .int .i64 (p_stage)] w fun v w' => ∃ A_1 c_1 lo_1 hi_1 A_2 c_2 lo_2 hi_2, v = .tuple #[.agg #[.string (bs ((i_SetStage p_t p_name p_stage).1.Name)), .slice A_1 (((i_SetStage p_t p_name p_stage).1.Cols).length) c_1, .slice A_2 (((i_SetStage p_t p_name p_stage).1.Idxs).length) c_2], .bool ((i_SetStage p_t p_name p_stage).2)] ∧ OwnL w' lo_1 hi_1 9 1 (RF e_Str) A_1 (((i_SetStage p_t p_name p_stage).1.Cols).length) c_1 ((i_SetStage p_t p_name p_stage).1.Cols) ∧ OwnL w' lo_2 hi_2 132 3 (RF e_Idx) A_2 (((i_SetStage p_t p_name p_stage).1.Idxs).length) c_2 ((i_SetStage p_t p_name p_stage).1.Idxs) ∧ ok_Table ((i_SetStage p_t p_name p_stage).1) ∧ (w.heap.size ≤ lo_1 ∧ lo_1 ≤ hi_1 ∧ hi_1 ≤ w'.heap.size) ∧ (w.heap.size ≤ lo_2 ∧ lo_2 ≤ hi_2 ∧ hi_2 ≤ w'.heap.size) ∧ (hi_1 ≤ lo_2 ∨ hi_2 ≤ lo_1) ∧ Ex w w' := by
 have hol5 : p_t.Name.length ≤ 1073741824 := o3.1
 have hol6 := o3.2.1.1
 have hol7 := o3.2.2.1
 have hol8 : p_name.length ≤ 1073741824 := o4
 refine Cal.of (vs := [.agg #[.string (bs (p_t.Name)), .slice A1 p_t.Cols.length c1, .slice A2 p_t.Idxs.length c2], .string (bs (p_name)), .int .i64 (p_stage)]) Try.func49 rfl Try.ntmps49 rfl (CW.seq (CW.region (sd rfl (yl_box (cs := [.string (bs (p_t.Name)), .slice A1 p_t.Cols.length c1, .slice A2 p_t.Idxs.length c2]) rfl rfl rfl ?_))))
 intro b9 w10 hs11 hz12 hB13 hE14
 refine sd rfl (yl_alloc Try.ty35 (cs := [.string (bs (([] : Str))), .slice none 0 0, .slice none 0 0]) rfl rfl ?_)
 intro b15 w16 hs17 hz18 hB19 hE20
 refine sd rfl (yl_assign rfl rfl (SeqR.done (tn (CW.seq (CW.seq (CW.region ?_))))))
 have q21 := Box.ex hB13 hE20
 refine sd rfl (yl_loadN (cs := [.string (bs (p_t.Name)), .slice A1 p_t.Cols.length c1, .slice A2 p_t.Idxs.length c2]) Try.ty35 rfl rfl (q21.cells (n := 3) rfl) rfl (sd rfl (yl_move rfl rfl ?_)))
 have q23 := RdS.ex good_Str (RdS.ex good_Str h1 hE14) hE20
 have q25 := RdS.ex good_Idx (RdS.ex good_Idx h2 hE14) hE20
 refine sd rfl (yl_call Try.en90 rfl (opvs_cons rfl (opvs_cons rfl opvs_nil)) (Cal.mono (c_i_hasIdx p_t p_name (RdS.up q23 good_Str) (RdS.up q25 good_Idx) o3 o4) ?_))
 rintro v27 w26 ⟨rfl, hE28⟩
 have hE28z := Ex.size hE28
 refine sd rfl (yl_not rfl rfl (sd rfl (yl_move rfl rfl (bcase (i_hasIdx p_t p_name) (fun hb29 => ?_) (fun hb29 => ?_)))))
 ·obtain ⟨hb29p0, hb29p1, hb29p2⟩ := f_i_hasIdx hb29
  refine sy rfl rfl (not_t hb29) (yl_move rfl rfl (sy rfl rfl (not_t hb29) (yl_call Try.en108 rfl (opvs_cons rfl opvs_nil) (Cal.mono (c_i_isStage p_stage) ?_))))
  rintro v31 w30 ⟨rfl, hE32⟩
  have hE32z := Ex.size hE32
  refine sy rfl rfl (not_t hb29) (yl_not rfl rfl (sd rfl (yl_pick_f rfl rfl (not_t hb29) rfl (SeqR.done (tn (bcase (i_isStage p_stage) (fun hb33 => ?_) (fun hb33 => ?_)))))))
  ·refine CW.cond_f rfl (not_t hb33) (CW.skip (tn (CW.seq (CW.region (sd rfl (yl_loadN (cs := [.string (bs (p_t.Name)), .slice A1 p_t.Cols.length c1, .slice A2 p_t.Idxs.length c2]) Try.ty35 rfl rfl ((Box.ex (Box.ex q21 hE28) hE32).cells (n := 3) rfl) rfl (sd rfl (yl_move rfl rfl (sd rfl (yl_move rfl rfl (sd rfl (yl_call Try.en95 rfl (opvs_cons rfl (opvs_cons rfl (opvs_cons rfl opvs_nil))) (Cal.mono (c_i_Table_withStage p_t p_name p_stage (RdS.up (RdS.ex good_Str (RdS.ex good_Str q23 hE28) hE32) good_Str) (RdS.up (RdS.ex good_Idx (RdS.ex good_Idx q25 hE28) hE32) good_Idx) o3 o4 (by first | omega | assumption | (simp only [IntKind.wrap_i64] at *; omega))) ?_)))))))))))))
   rintro v44 w40 ⟨A41, c41, lo41, hi41, A42, c42, lo42, hi42, rfl, h41, h42, ho43, hrn46, hrn47, hrn48, hE45⟩
   have hE45z := Ex.size hE45
   refine SeqR.u rfl rfl (yl_store (vs := [.string (bs ((i_Table_withStage p_t p_name p_stage).Name)), .slice A41 (((i_Table_withStage p_t p_name p_stage).Cols).length) c41, .slice A42 (((i_Table_withStage p_t p_name p_stage).Idxs).length) c42]) Try.ty35 rfl rfl rfl rfl rfl rfl (Box.ex (Box.ex (Box.ex hB19 hE28) hE32) hE45) (Nat.le_of_ble_eq_true rfl) ?_)
   intro w52 hB53 hO54
   have hB53 : Box w52 b15 35 [.string (bs ((i_Table_withStage p_t p_name p_stage).Name)), .slice A41 (((i_Table_withStage p_t p_name p_stage).Cols).length) c41, .slice A42 (((i_Table_withStage p_t p_name p_stage).Idxs).length) c42] := hB53
   have hO54z := hO54.size
   refine sd rfl (yl_assign rfl rfl (SeqR.done (tn (CW.ret (rr rfl (.cons ⟨_, rfl, run_loadN Try.ty35 (cs := [.string (bs ((i_Table_withStage p_t p_name p_stage).Name)), .slice A41 (((i_Table_withStage p_t p_name p_stage).Cols).length) c41, .slice A42 (((i_Table_withStage p_t p_name p_stage).Idxs).length) c42]) rfl (hB53.cells (n := 3) rfl)⟩ (.cons rfl .nil)) ?_)))))
   have hM55 : (i_SetStage p_t p_name p_stage) = (((i_Table_withStage p_t p_name p_stage), true)) := by simp only [i_SetStage, hb29, hb33, cond_true, cond_false, loopE_done, loopE_ret]
   rw [hM55]
   exact ⟨A41, c41, lo41, hi41, A42, c42, lo42, hi42, rfl, (OwnL.only good_Str h41 hO54 (by omega)), (OwnL.only good_Idx h42 hO54 (by omega)), ho43, (by omega), (by omega), (by omega), (Below.only (Ex.trans (Ex.trans (Ex.trans (Ex.trans (Ex.trans (Ex.refl w) hE14) hE20) hE28) hE32) hE45) hO54 (by omega))⟩
  ·refine CW.cond_t rfl (not_f hb33) (CW.seq (CW.region (sd rfl (yl_build (cs := [.string (bs (([] : Str))), .slice none 0 0, .slice none 0 0]) rfl opvs_nil (by kernel_rfl) (SeqR.u rfl rfl (yl_store (vs := [.string (bs (([] : Str))), .slice none 0 0, .slice none 0 0]) Try.ty35 rfl rfl rfl rfl rfl rfl (Box.ex (Box.ex hB19 hE28) hE32) (Nat.le_of_ble_eq_true rfl) ?_))))))
   intro w66 hB67 hO68
   have hB67 : Box w66 b15 35 [.string (bs (([] : Str))), .slice none 0 0, .slice none 0 0] := hB67
   have hO68z := hO68.size
   refine sd rfl (yl_assign rfl rfl (SeqR.done (tn (CW.ret (tr (rr rfl (.cons ⟨_, rfl, run_loadN Try.ty35 (cs := [.string (bs (([] : Str))), .slice none 0 0, .slice none 0 0]) rfl (hB67.cells (n := 3) rfl)⟩ (.cons rfl .nil)) ?_))))))
   have hM69 : (i_SetStage p_t p_name p_stage) = (((⟨([] : Str), [], []⟩ : DTable), false)) := by simp only [i_SetStage, hb29, hb33, cond_true, cond_false, loopE_done, loopE_ret]
   rw [hM69]
   exact ⟨none, 0, w66.heap.size, w66.heap.size, none, 0, w66.heap.size, w66.heap.size, rfl, (OwnL.nil _ _ _ _ _ _), (OwnL.nil _ _ _ _ _ _), ⟨(okS.lit rfl), (okL.nil _), (okL.nil _)⟩, (by omega), (by omega), (by omega), (Below.only (Ex.trans (Ex.trans (Ex.trans (Ex.trans (Ex.refl w) hE14) hE20) hE28) hE32) hO68 (by omega))⟩
 ·refine sz rfl rfl (not_f hb29) (sz rfl rfl (not_f hb29) (sz rfl rfl (not_f hb29) (sd rfl (yl_pick_t rfl rfl (not_f hb29) rfl (SeqR.done (tn (CW.cond_t rfl rfl (CW.seq (CW.region ?_)))))))))
  refine sd rfl (yl_build (cs := [.string (bs (([] : Str))), .slice none 0 0, .slice none 0 0]) rfl opvs_nil (by kernel_rfl) (SeqR.u rfl rfl (yl_store (vs := [.string (bs (([] : Str))), .slice none 0 0, .slice none 0 0]) Try.ty35 rfl rfl rfl rfl rfl rfl (Box.ex hB19 hE28) (Nat.le_of_ble_eq_true rfl) ?_)))
  intro w76 hB77 hO78
  have hB77 : Box w76 b15 35 [.string (bs (([] : Str))), .slice none 0 0, .slice none 0 0] := hB77
  have hO78z := hO78.size
  refine sd rfl (yl_assign rfl rfl (SeqR.done (tn (CW.ret (tr (rr rfl (.cons ⟨_, rfl, run_loadN Try.ty35 (cs := [.string (bs (([] : Str))), .slice none 0 0, .slice none 0 0]) rfl (hB77.cells (n := 3) rfl)⟩ (.cons rfl .nil)) ?_))))))
  have hM79 : (i_SetStage p_t p_name p_stage) = (((⟨([] : Str), [], []⟩ : DTable), false)) := by simp only [i_SetStage, hb29, cond_true, cond_false, loopE_done, loopE_ret]
  rw [hM79]
  exact ⟨none, 0, w76.heap.size, w76.heap.size, none, 0, w76.heap.size, w76.heap.size, rfl, (OwnL.nil _ _ _ _ _ _), (OwnL.nil _ _ _ _ _ _), ⟨(okS.lit rfl), (okL.nil _), (okL.nil _)⟩, (by omega), (by omega), (by omega), (Below.only (Ex.trans (Ex.trans (Ex.trans (Ex.refl w) hE14) hE20) hE28) hO78 (by omega))⟩
set_option maxRecDepth 100000 in
set_option maxHeartbeats 2000000 in
theorem c_l_markText {w : World} (p_k : Int) (pre0 : p_k ≤ 9223372036854775807) : Cal Try.prog 103 #[.int .i64 (p_k)] w fun v w' => v = .string (bs ((l_markText p_k))) ∧ Ex w w' := by
 refine Cal.of (vs := [.int .i64 (p_k)]) Try.func103 rfl Try.ntmps103 rfl (CW.seq (CW.region (sd rfl (yl_assign rfl rfl (SeqR.done (tn (CW.seq (CW.seq (CW.region ?_)))))))))
 refine sd rfl (yl_move rfl rfl (sd rfl (yl_leq rfl rfl rfl (SeqR.done (tn (bcase (decide (p_k ≤ 0)) (fun hb1 => ?_) (fun hb1 => ?_)))))))
 ·have hb1p := dec_t hb1
  refine CW.cond_t rfl hb1 (CW.seq (CW.region (sd rfl (yl_assign rfl rfl (SeqR.done (tn (CW.ret (tr (rr rfl (.cons rfl .nil) ?_)))))))))
  have hM2 : (l_markText p_k) = (([109, 48] : Str)) := by simp only [l_markText, hb1, cond_true, cond_false, loopE_done, loopE_ret]
  rw [hM2]
  exact ⟨rfl, (Ex.refl w)⟩
 ·have hb1p := dec_f hb1
  refine CW.cond_f rfl hb1 (CW.skip (tn (CW.seq (CW.region (sd rfl (yl_assign rfl rfl (SeqR.done (tn (CW.seq ?_)))))))))
  refine CW.block (CW.loop (fun m18 L19 w20 => ∃ (x16 : Int) (x17 : Str), (((x16).toNat + 1) / 2) < m18 ∧ w.heap.size ≤ w20.heap.size ∧ lkp L19 0 = some (.int .i64 (x16)) ∧ lkp L19 3 = some (.string (bs (x17))) ∧ Ex w w20 ∧ x17.length + 1 * (((x16).toNat + 1) / 2) ≤ 0 + 1 * (((p_k).toNat + 1) / 2) ∧ x16 ≤ 9223372036854775807 ∧ loopW (B_l_markText_0 p_k) m18 (x16, x17) = loopW (B_l_markText_0 p_k) ((((p_k).toNat + 1) / 2) + 1) (p_k, ([] : Str))) ((((p_k).toNat + 1) / 2) + 1) ?_ ?_)
  ·exact ⟨p_k, ([] : Str), Nat.lt_succ_self _, Nat.le_refl _, rfl, rfl, (Ex.refl w), (by first | (simp; done) | (first | omega | (simp only [List.length_append, List.length_cons, List.length_nil, List.length_set, toS_length]; omega))), (by first | omega | assumption | (simp only [IntKind.wrap_i64] at *; omega)), rfl⟩
  ·rintro m21 L22 w23 ⟨x16, x17, hk24, hsz26, hl27, hl28, hf29, hln30, hv31, hI25⟩
   refine CW.sub (Sub.cons hl27 (Sub.cons hl28 (Sub.nil _))) ?_
   have hf29z := Ex.size hf29
   refine CW.seq (CW.seq (CW.region (sd rfl (yl_move rfl rfl (sd rfl (yl_gtr rfl rfl rfl (SeqR.done (tn (bcase (decide (0 < x16)) (fun hb32 => ?_) (fun hb32 => ?_))))))))))
   ·have hb32p := dec_t hb32
    refine CW.cond_t rfl hb32 (CW.skip (tn (CW.block (CW.seq (CW.region (sd rfl (yl_move rfl rfl (sd rfl (yl_rem rfl rfl rfl (by decide) (sd rfl (yl_add rfl rfl rfl ?_)))))))))))
    refine sd rfl (yl_conv Try.un3 Try.un5 rfl rfl (sd rfl (yl_buildSlice (cs := [.int .u8 (IntKind.wrap .u8 (IntKind.wrap .i64 (48 + (Int.tmod x16 10))))]) Try.un200 Try.ty5 (by decide) rfl (opvs_cons rfl opvs_nil) (by kernel_rfl) ?_)))
    intro b33 w34 hs35 hz36 hB37 hE38
    have hO39 : OwnL w34 b33 (b33 + 1) 5 1 (RF e_U8) (some ⟨b33, 0, none⟩) 1 1 ([IntKind.wrap .u8 (IntKind.wrap .i64 (48 + (Int.tmod x16 10)))] : List Int) := OwnL.of_box (S := fun _ => False) hB37 (Nat.le_refl _) (Nat.lt_succ_self _) (EncL.cons (c := [.int .u8 (IntKind.wrap .u8 (IntKind.wrap .i64 (48 + (Int.tmod x16 10))))]) rfl rfl EncL.nil) (Nat.le_of_ble_eq_true rfl) (fun h => h) (fun _ h => False.elim h)
    refine sd rfl (yl_toS Try.un200 Try.un5 Try.un9 rfl rfl (OwnL.rd good_U8 hO39) (sd rfl (yl_move rfl rfl ?_)))
    have hol41 : (toS ([IntKind.wrap .u8 (IntKind.wrap .i64 (48 + (Int.tmod x16 10)))] : List Int)).length ≤ 1073741824 := (okS_toS (Nat.le_of_ble_eq_true rfl))
    refine sd rfl (yl_sadd (a := (toS ([IntKind.wrap .u8 (IntKind.wrap .i64 (48 + (Int.tmod x16 10)))] : List Int))) (b := x17) rfl rfl rfl (by first | omega | (simp only [List.length_append, List.length_cons, List.length_nil, List.length_take, List.length_drop, toS_length]; omega)) (sd rfl (yl_assign rfl rfl (SeqR.done (tn (CW.region (sd rfl (yl_move rfl rfl (sd rfl (yl_quo rfl rfl rfl (by decide) (sd rfl (yl_assign rfl rfl (SeqR.done ?_)))))))))))))
    refine bn (tn ?_)
    have hB42 : B_l_markText_0 p_k (x16, x17) = .cont (IntKind.wrap .i64 (Int.tdiv x16 10), (toS ([IntKind.wrap .u8 (IntKind.wrap .i64 (48 + (Int.tmod x16 10)))] : List Int)) ++ x17) := by simp only [B_l_markText_0, hb1, hb32, cond_true, cond_false, loopE_done, loopE_ret]
    have hmu44 : (((IntKind.wrap .i64 (Int.tdiv x16 10)).toNat + 1) / 2) < (((x16).toNat + 1) / 2) := by (have hq := wtd (n := x16) (c := 10) (by decide) (by omega) (by omega); omega)
    exact ⟨m21 - 1, by omega, IntKind.wrap .i64 (Int.tdiv x16 10), (toS ([IntKind.wrap .u8 (IntKind.wrap .i64 (48 + (Int.tmod x16 10)))] : List Int)) ++ x17, (by omega), (by omega), rfl, rfl, (Ex.trans hf29 hE38), (by first | omega | (simp only [List.length_append, List.length_cons, List.length_nil, List.length_set, toS_length]; omega)), (by (have hq := wtd (n := x16) (c := 10) (by decide) (by omega) (by omega); omega)), (loopW.cont hk24 hB42).symm.trans hI25⟩
   ·have hb32p := dec_f hb32
    refine CW.cond_f rfl hb32 (CW.exit (tx (tx ?_)))
    have hB46 : B_l_markText_0 p_k (x16, x17) = .brk (x16, x17) := by simp only [B_l_markText_0, hb1, hb32, cond_true, cond_false, loopE_done, loopE_ret]
    have hL45 : loopW (B_l_markText_0 p_k) ((((p_k).toNat + 1) / 2) + 1) (p_k, ([] : Str)) = .done (x16, x17) := hI25.symm.trans (loopW.brk hk24 hB46)
    refine bx (tn (CW.seq (CW.region (sd rfl (yl_move rfl rfl (sd rfl (yl_sadd (a := ([109] : Str)) (b := x17) rfl rfl rfl (by first | omega | (simp only [List.length_append, List.length_cons, List.length_nil, List.length_take, List.length_drop, toS_length]; omega)) (sd rfl (yl_assign rfl rfl (SeqR.done (tn ?_)))))))))))
    refine CW.ret (rr rfl (.cons rfl .nil) ?_)
    have hM47 : (l_markText p_k) = (([109] : Str) ++ x17) := by simp only [l_markText, hb1, hb32, hL45, cond_true, cond_false, loopE_done, loopE_ret]
    rw [hM47]
    exact ⟨rfl, hf29⟩
set_option maxRecDepth 100000 in
set_option maxHeartbeats 2000000 in
theorem c_l_markStringS {A1 : Option Addr} {c1 : Nat} {lo1 hi1 : Nat} {w : World} (p_a : List Str) (p_k : Int) (h1 : OwnL w lo1 hi1 9 1 (RF e_Str) A1 p_a.length c1 p_a) (hrn2 : (0 ≤ lo1 ∧ lo1 ≤ hi1 ∧ hi1 ≤ w.heap.size)) (pre0 : p_k ≤ 9223372036854775807) : Cal Try.prog 109 #[.slice A1 p_a.length c1, .int .i64 (p_k)] w fun v w' => v = .int .i64 ((l_markStringS p_a p_k).1) ∧ OwnL w' lo1 hi1 9 1 (RF e_Str) A1 p_a.length c1 ((l_markStringS p_a p_k).2) ∧ Mut [(lo1, hi1)] w w' := by
 refine Cal.of (vs := [.slice A1 p_a.length c1, .int .i64 (p_k)]) Try.func109 rfl Try.ntmps109 rfl (CW.seq (CW.region (sd rfl (yl_assign rfl rfl (SeqR.done (tn (CW.seq (CW.seq (CW.region ?_)))))))))
 refine sd rfl (yl_assign rfl rfl (SeqR.done (tn (CW.block (CW.loop (fun m16 L17 w18 => ∃ (k3 : Nat) (x14 : Int) (x15 : List Str), m16 = p_a.length - k3 ∧ k3 ≤ p_a.length ∧ w.heap.size ≤ w18.heap.size ∧ lkp L17 0 = some (.slice A1 p_a.length c1) ∧ lkp L17 1 = some (.int .i64 (x14)) ∧ lkp L17 5 = some (.int .i64 ((k3 : Int))) ∧ OwnL w18 lo1 hi1 9 1 (RF e_Str) A1 p_a.length c1 x15 ∧ Mut [(lo1, hi1)] w w18 ∧ x14 ≤ 9223372036854775807 ∧ loopM (B_l_markStringS_0 p_a p_k) (p_a.length - k3) k3 (x14, x15) = loopM (B_l_markStringS_0 p_a p_k) (p_a.length - 0) 0 (p_k, p_a)) (p_a.length - 0) ?_ ?_)))))
 ·exact ⟨0, p_k, p_a, rfl, (by omega), Nat.le_refl _, rfl, rfl, rfl, h1, (Mut.refl (l := [(lo1, hi1)]) w), (by first | omega | assumption | (simp only [IntKind.wrap_i64] at *; omega)), rfl⟩
 ·rintro m19 L20 w21 ⟨k3, x14, x15, rfl, hk22, hsz24, hl25, hl26, hl27, hf28, hf29, hv30, hI23⟩
  refine CW.sub (Sub.cons hl25 (Sub.cons hl26 (Sub.cons hl27 (Sub.nil _)))) ?_
  have hf29z := Mut.size hf29
  have hbg31 := RdS.big (OwnL.rd good_Str hf28)
  rcases Nat.lt_or_ge k3 p_a.length with hlt33 | hlt33
  ·refine CW.seq (CW.seq (CW.region (sd rfl (yl_move rfl rfl (sd rfl (yl_move rfl rfl (sd rfl (yl_len Try.un22 rfl rfl (sd rfl (yl_lss rfl rfl rfl (SeqR.done (tn ?_))))))))))))
   refine CW.cond_t rfl (lt_t hlt33) (CW.skip (tn (CW.seq (CW.block (CW.seq (CW.region (sd rfl (yl_move rfl rfl (sd rfl (yl_move rfl rfl ?_))))))))))
   refine sd rfl (yl_move rfl rfl (sd rfl (yl_call Try.en103 rfl (opvs_cons rfl opvs_nil) (Cal.mono (c_l_markText x14 (by first | omega | assumption | (simp only [IntKind.wrap_i64] at *; omega))) ?_))))
   rintro v35 w34 ⟨rfl, hE36⟩
   have hE36z := Ex.size hE36
   have q38 := OwnL.ex good_Str hf28 hE36
   obtain ⟨eb39, eo39, ec39, eA39, eS39, ebl39, el39, eR39, eC39⟩ := RdS.atD (OwnL.rd good_Str q38) d_Str (i := k3) (by first | omega | assumption)
   obtain rfl := eR39
   have eC39 : Cells w34 eb39 (eo39 + k3 * 1) [.string (bs ((x15.getD k3 d_Str)))] := eC39
   refine sd rfl (yl_indexAddrN Try.un22 Try.ty9 rfl rfl rfl eA39 (by first | omega | assumption | (simp only [IntKind.wrap_i64] at *; omega)) ?_)
   have hrg40 := OwnL.rng q38 (i := k3) (by first | omega | assumption | (simp only [IntKind.wrap_i64] at *; omega)) eb39 (by rw [eA39]; rfl)
   refine SeqR.u rfl rfl (yl_storeF (off := eo39) (i := k3) (d := 0) (dx := d_Str) (x' := (l_markText x14)) (vs := [.string (bs ((l_markText x14)))]) Try.ty9 rfl q38 eA39 rfl rfl rfl rfl rfl (by first | omega | assumption | (simp only [IntKind.wrap_i64] at *; omega)) (Nat.le_of_ble_eq_true rfl) rfl rfl ?_)
   intro w41 hB42 hO43
   have hO43z := hO43.size
   refine SeqR.done (tn (CW.region (sd rfl (yl_move rfl rfl (sd rfl (yl_add rfl rfl rfl (sd rfl (yl_assign rfl rfl (SeqR.done (bn (tn ?_)))))))))))
   refine CW.region (sd rfl (yl_move rfl rfl (sd rfl (yl_inc rfl rfl rfl (by omega) (sd rfl (yl_assign rfl rfl (SeqR.done (tn ?_))))))))
   have hB44 : B_l_markStringS_0 p_a p_k k3 (x14, x15) = .cont (IntKind.wrap .i64 (x14 + 1), (x15.set k3 (l_markText x14))) := by simp only [B_l_markStringS_0, cond_true, cond_false, loopE_done, loopE_ret]
   exact ⟨p_a.length - (k3 + 1), by omega, k3 + 1, IntKind.wrap .i64 (x14 + 1), (x15.set k3 (l_markText x14)), rfl, hlt33, (by omega), rfl, rfl, rfl, hB42, (Mut.only (Mut.ex hf29 hE36) hO43 (by simp only [InR, or_false]; omega)), (by first | omega | assumption | (simp only [IntKind.wrap_i64] at *; omega)), (loopM.cont hlt33 hB44).symm.trans hI23⟩
  ·refine CW.seq (CW.seq (CW.region (sd rfl (yl_move rfl rfl (sd rfl (yl_move rfl rfl (sd rfl (yl_len Try.un22 rfl rfl (sd rfl (yl_lss rfl rfl rfl (SeqR.done (tn ?_))))))))))))
   refine CW.cond_f rfl (lt_f hlt33) (CW.exit (tx (tx ?_)))
   have hL47 : loopM (B_l_markStringS_0 p_a p_k) (p_a.length - 0) 0 (p_k, p_a) = .done (x14, x15) := hI23.symm.trans (loopM.stop hlt33)
   refine bx (tn (CW.seq (CW.region (sd rfl (yl_move rfl rfl (sd rfl (yl_assign rfl rfl (SeqR.done (tn (CW.ret ?_))))))))))
   refine rr rfl (.cons rfl .nil) ?_
   have hM48 : (l_markStringS p_a p_k) = ((x14, x15)) := by simp only [l_markStringS, hL47, cond_true, cond_false, loopE_done, loopE_ret]
   rw [hM48]
   exact ⟨rfl, hf28, hf29⟩
set_option maxRecDepth 100000 in
set_option maxHeartbeats 2000000 in
theorem c_l_markIdxS {A1 : Option Addr} {c1 : Nat} {lo1 hi1 : Nat} {w : World} (p_a : List DIdx) (p_k : Int) (h1 : OwnL w lo1 hi1 132 3 (RF e_Idx) A1 p_a.length c1 p_a) (hrn2 : (0 ≤ lo1 ∧ lo1 ≤ hi1 ∧ hi1 ≤ w.heap.size)) (pre0 : p_k ≤ 9223372036854775807) : Cal Try.prog 110 #[.slice A1 p_a.length c1, .int .i64 (p_k)] w fun v w' => v = .int .i64 ((l_markIdxS p_a p_k).1) ∧ OwnL w' lo1 hi1 132 3 (RF e_Idx) A1 p_a.length c1 ((l_markIdxS p_a p_k).2) ∧ Mut [(lo1, hi1)] w w' := by
 refine Cal.of (vs := [.slice A1 p_a.length c1, .int .i64 (p_k)]) Try.func110 rfl Try.ntmps110 rfl (CW.seq (CW.region (sd rfl (yl_assign rfl rfl (SeqR.done (tn (CW.seq (CW.seq (CW.region ?_)))))))))
 refine sd rfl (yl_assign rfl rfl (SeqR.done (tn (CW.block (CW.loop (fun m28 L29 w30 => ∃ (k3 : Nat) (x26 : Int) (x27 : List DIdx), m28 = p_a.length - k3 ∧ k3 ≤ p_a.length ∧ w.heap.size ≤ w30.heap.size ∧ lkp L29 0 = some (.slice A1 p_a.length c1) ∧ lkp L29 1 = some (.int .i64 (x26)) ∧ lkp L29 5 = some (.int .i64 ((k3 : Int))) ∧ OwnL w30 lo1 hi1 132 3 (RF e_Idx) A1 p_a.length c1 x27 ∧ Mut [(lo1, hi1)] w w30 ∧ x26 ≤ 9223372036854775807 ∧ loopM (B_l_markIdxS_0 p_a p_k) (p_a.length - k3) k3 (x26, x27) = loopM (B_l_markIdxS_0 p_a p_k) (p_a.length - 0) 0 (p_k, p_a)) (p_a.length - 0) ?_ ?_)))))
 ·exact ⟨0, p_k, p_a, rfl, (by omega), Nat.le_refl _, rfl, rfl, rfl, h1, (Mut.refl (l := [(lo1, hi1)]) w), (by first | omega | assumption | (simp only [IntKind.wrap_i64] at *; omega)), rfl⟩
 ·rintro m31 L32 w33 ⟨k3, x26, x27, rfl, hk34, hsz36, hl37, hl38, hl39, hf40, hf41, hv42, hI35⟩
  refine CW.sub (Sub.cons hl37 (Sub.cons hl38 (Sub.cons hl39 (Sub.nil _)))) ?_
  have hf41z := Mut.size hf41
  have hbg43 := RdS.big (OwnL.rd good_Idx hf40)
  rcases Nat.lt_or_ge k3 p_a.length with hlt45 | hlt45
  ·refine CW.seq (CW.seq (CW.region (sd rfl (yl_move rfl rfl (sd rfl (yl_move rfl rfl (sd rfl (yl_len Try.un33 rfl rfl (sd rfl (yl_lss rfl rfl rfl (SeqR.done (tn ?_))))))))))))
   refine CW.cond_t rfl (lt_t hlt45) (CW.skip (tn (CW.seq (CW.block (CW.seq (CW.region (sd rfl (yl_move rfl rfl (sd rfl (yl_move rfl rfl ?_))))))))))
   refine sd rfl (yl_move rfl rfl (sd rfl (yl_call Try.en103 rfl (opvs_cons rfl opvs_nil) (Cal.mono (c_l_markText x26 (by first | omega | assumption | (simp only [IntKind.wrap_i64] at *; omega))) ?_))))
   rintro v47 w46 ⟨rfl, hE48⟩
   have hE48z := Ex.size hE48
   have q50 := OwnL.ex good_Idx hf40 hE48
   obtain ⟨eb51, eo51, ec51, eA51, eS51, ebl51, el51, eR51, eC51⟩ := RdS.atD (OwnL.rd good_Idx q50) d_Idx (i := k3) (by first | omega | assumption)
   obtain rfl := eR51
   have eC51 : Cells w46 eb51 (eo51 + k3 * 3) [.string (bs ((x27.getD k3 d_Idx).Name)), .int .i64 ((x27.getD k3 d_Idx).Col), .int .i64 ((x27.getD k3 d_Idx).Stage)] := eC51
   refine sd rfl (yl_indexAddrN Try.un33 Try.ty132 rfl rfl rfl eA51 (by first | omega | assumption | (simp only [IntKind.wrap_i64] at *; omega)) (sd rfl (yl_fieldAddr Try.fd132_0 rfl rfl ?_)))
   have hrg52 := OwnL.rng q50 (i := k3) (by first | omega | assumption | (simp only [IntKind.wrap_i64] at *; omega)) eb51 (by rw [eA51]; rfl)
   refine SeqR.u rfl rfl (yl_storeF (off := eo51) (i := k3) (d := 0) (dx := d_Idx) (x' := (⟨(l_markText x26), (x27.getD k3 d_Idx).Col, (x27.getD k3 d_Idx).Stage⟩ : DIdx)) (vs := [.string (bs ((l_markText x26)))]) Try.ty9 rfl q50 eA51 rfl rfl rfl rfl rfl (by first | omega | assumption | (simp only [IntKind.wrap_i64] at *; omega)) (Nat.le_of_ble_eq_true rfl) rfl rfl ?_)
   intro w53 hB54 hO55
   have hO55z := hO55.size
   refine SeqR.done (tn (CW.seq (CW.region (sd rfl (yl_move rfl rfl (sd rfl (yl_add rfl rfl rfl (sd rfl (yl_assign rfl rfl (SeqR.done (tn ?_)))))))))))
   refine CW.seq (CW.region (sd rfl (yl_move rfl rfl (sd rfl (yl_move rfl rfl (sd rfl (yl_move rfl rfl ?_)))))))
   obtain ⟨eb57, eo57, ec57, eA57, eS57, ebl57, el57, eR57, eC57⟩ := RdS.atD (OwnL.rd good_Idx hB54) d_Idx (i := k3) (by first | omega | assumption)
   obtain rfl := eR57
   have eC57 : Cells w53 eb57 (eo57 + k3 * 3) [.string (bs (((x27.set k3 (⟨(l_markText x26), (x27.getD k3 d_Idx).Col, (x27.getD k3 d_Idx).Stage⟩ : DIdx)).getD k3 d_Idx).Name)), .int .i64 (((x27.set k3 (⟨(l_markText x26), (x27.getD k3 d_Idx).Col, (x27.getD k3 d_Idx).Stage⟩ : DIdx)).getD k3 d_Idx).Col), .int .i64 (((x27.set k3 (⟨(l_markText x26), (x27.getD k3 d_Idx).Col, (x27.getD k3 d_Idx).Stage⟩ : DIdx)).getD k3 d_Idx).Stage)] := eC57
   refine sd rfl (yl_indexAddrN Try.un33 Try.ty132 rfl rfl rfl eA57 (by first | omega | assumption | (simp only [IntKind.wrap_i64] at *; omega)) (sd rfl (yl_fieldAddr Try.fd132_1 rfl rfl ?_)))
   have hrg58 := OwnL.rng hB54 (i := k3) (by first | omega | assumption | (simp only [IntKind.wrap_i64] at *; omega)) eb57 (by rw [eA57]; rfl)
   refine SeqR.u rfl rfl (yl_storeF (off := eo57) (i := k3) (d := 1) (dx := d_Idx) (x' := (⟨((x27.set k3 (⟨(l_markText x26), (x27.getD k3 d_Idx).Col, (x27.getD k3 d_Idx).Stage⟩ : DIdx)).getD k3 d_Idx).Name, IntKind.wrap .i64 (x26 + 1), ((x27.set k3 (⟨(l_markText x26), (x27.getD k3 d_Idx).Col, (x27.getD k3 d_Idx).Stage⟩ : DIdx)).getD k3 d_Idx).Stage⟩ : DIdx)) (vs := [.int .i64 (IntKind.wrap .i64 (x26 + 1))]) Try.ty3 rfl hB54 eA57 rfl rfl rfl rfl rfl (by first | omega | assumption | (simp only [IntKind.wrap_i64] at *; omega)) (Nat.le_of_ble_eq_true rfl) rfl rfl ?_)
   intro w59 hB60 hO61
   have hO61z := hO61.size
   refine SeqR.done (tn (CW.seq (CW.region (sd rfl (yl_move rfl rfl (sd rfl (yl_add rfl rfl rfl (sd rfl (yl_assign rfl rfl (SeqR.done (tn ?_)))))))))))
   refine CW.seq (CW.region (sd rfl (yl_move rfl rfl (sd rfl (yl_move rfl rfl (sd rfl (yl_move rfl rfl ?_)))))))
   obtain ⟨eb63, eo63, ec63, eA63, eS63, ebl63, el63, eR63, eC63⟩ := RdS.atD (OwnL.rd good_Idx hB60) d_Idx (i := k3) (by first | omega | assumption)
   obtain rfl := eR63
   have eC63 : Cells w59 eb63 (eo63 + k3 * 3) [.string (bs ((((x27.set k3 (⟨(l_markText x26), (x27.getD k3 d_Idx).Col, (x27.getD k3 d_Idx).Stage⟩ : DIdx)).set k3 (⟨((x27.set k3 (⟨(l_markText x26), (x27.getD k3 d_Idx).Col, (x27.getD k3 d_Idx).Stage⟩ : DIdx)).getD k3 d_Idx).Name, IntKind.wrap .i64 (x26 + 1), ((x27.set k3 (⟨(l_markText x26), (x27.getD k3 d_Idx).Col, (x27.getD k3 d_Idx).Stage⟩ : DIdx)).getD k3 d_Idx).Stage⟩ : DIdx)).getD k3 d_Idx).Name)), .int .i64 ((((x27.set k3 (⟨(l_markText x26), (x27.getD k3 d_Idx).Col, (x27.getD k3 d_Idx).Stage⟩ : DIdx)).set k3 (⟨((x27.set k3 (⟨(l_markText x26), (x27.getD k3 d_Idx).Col, (x27.getD k3 d_Idx).Stage⟩ : DIdx)).getD k3 d_Idx).Name, IntKind.wrap .i64 (x26 + 1), ((x27.set k3 (⟨(l_markText x26), (x27.getD k3 d_Idx).Col, (x27.getD k3 d_Idx).Stage⟩ : DIdx)).getD k3 d_Idx).Stage⟩ : DIdx)).getD k3 d_Idx).Col), .int .i64 ((((x27.set k3 (⟨(l_markText x26), (x27.getD k3 d_Idx).Col, (x27.getD k3 d_Idx).Stage⟩ : DIdx)).set k3 (⟨((x27.set k3 (⟨(l_markText x26), (x27.getD k3 d_Idx).Col, (x27.getD k3 d_Idx).Stage⟩ : DIdx)).getD k3 d_Idx).Name, IntKind.wrap .i64 (x26 + 1), ((x27.set k3 (⟨(l_markText x26), (x27.getD k3 d_Idx).Col, (x27.getD k3 d_Idx).Stage⟩ : DIdx)).getD k3 d_Idx).Stage⟩ : DIdx)).getD k3 d_Idx).Stage)] := eC63
   refine sd rfl (yl_indexAddrN Try.un33 Try.ty132 rfl rfl rfl eA63 (by first | omega | assumption | (simp only [IntKind.wrap_i64] at *; omega)) (sd rfl (yl_fieldAddr Try.fd132_2 rfl rfl ?_)))
   have hrg64 := OwnL.rng hB60 (i := k3) (by first | omega | assumption | (simp only [IntKind.wrap_i64] at *; omega)) eb63 (by rw [eA63]; rfl)
   refine SeqR.u rfl rfl (yl_storeF (off := eo63) (i := k3) (d := 2) (dx := d_Idx) (x' := (⟨(((x27.set k3 (⟨(l_markText x26), (x27.getD k3 d_Idx).Col, (x27.getD k3 d_Idx).Stage⟩ : DIdx)).set k3 (⟨((x27.set k3 (⟨(l_markText x26), (x27.getD k3 d_Idx).Col, (x27.getD k3 d_Idx).Stage⟩ : DIdx)).getD k3 d_Idx).Name, IntKind.wrap .i64 (x26 + 1), ((x27.set k3 (⟨(l_markText x26), (x27.getD k3 d_Idx).Col, (x27.getD k3 d_Idx).Stage⟩ : DIdx)).getD k3 d_Idx).Stage⟩ : DIdx)).getD k3 d_Idx).Name, (((x27.set k3 (⟨(l_markText x26), (x27.getD k3 d_Idx).Col, (x27.getD k3 d_Idx).Stage⟩ : DIdx)).set k3 (⟨((x27.set k3 (⟨(l_markText x26), (x27.getD k3 d_Idx).Col, (x27.getD k3 d_Idx).Stage⟩ : DIdx)).getD k3 d_Idx).Name, IntKind.wrap .i64 (x26 + 1), ((x27.set k3 (⟨(l_markText x26), (x27.getD k3 d_Idx).Col, (x27.getD k3 d_Idx).Stage⟩ : DIdx)).getD k3 d_Idx).Stage⟩ : DIdx)).getD k3 d_Idx).Col, IntKind.wrap .i64 ((IntKind.wrap .i64 (x26 + 1)) + 1)⟩ : DIdx)) (vs := [.int .i64 (IntKind.wrap .i64 ((IntKind.wrap .i64 (x26 + 1)) + 1))]) Try.ty3 rfl hB60 eA63 rfl rfl rfl rfl rfl (by first | omega | assumption | (simp only [IntKind.wrap_i64] at *; omega)) (Nat.le_of_ble_eq_true rfl) rfl rfl ?_)
   intro w65 hB66 hO67
   have hO67z := hO67.size
   refine SeqR.done (tn (CW.region (sd rfl (yl_move rfl rfl (sd rfl (yl_add rfl rfl rfl (sd rfl (yl_assign rfl rfl (SeqR.done (bn (tn ?_)))))))))))
   refine CW.region (sd rfl (yl_move rfl rfl (sd rfl (yl_inc rfl rfl rfl (by omega) (sd rfl (yl_assign rfl rfl (SeqR.done (tn ?_))))))))
   have hB68 : B_l_markIdxS_0 p_a p_k k3 (x26, x27) = .cont (IntKind.wrap .i64 ((IntKind.wrap .i64 ((IntKind.wrap .i64 (x26 + 1)) + 1)) + 1), (((x27.set k3 (⟨(l_markText x26), (x27.getD k3 d_Idx).Col, (x27.getD k3 d_Idx).Stage⟩ : DIdx)).set k3 (⟨((x27.set k3 (⟨(l_markText x26), (x27.getD k3 d_Idx).Col, (x27.getD k3 d_Idx).Stage⟩ : DIdx)).getD k3 d_Idx).Name, IntKind.wrap .i64 (x26 + 1), ((x27.set k3 (⟨(l_markText x26), (x27.getD k3 d_Idx).Col, (x27.getD k3 d_Idx).Stage⟩ : DIdx)).getD k3 d_Idx).Stage⟩ : DIdx)).set k3 (⟨(((x27.set k3 (⟨(l_markText x26), (x27.getD k3 d_Idx).Col, (x27.getD k3 d_Idx).Stage⟩ : DIdx)).set k3 (⟨((x27.set k3 (⟨(l_markText x26), (x27.getD k3 d_Idx).Col, (x27.getD k3 d_Idx).Stage⟩ : DIdx)).getD k3 d_Idx).Name, IntKind.wrap .i64 (x26 + 1), ((x27.set k3 (⟨(l_markText x26), (x27.getD k3 d_Idx).Col, (x27.getD k3 d_Idx).Stage⟩ : DIdx)).getD k3 d_Idx).Stage⟩ : DIdx)).getD k3 d_Idx).Name, (((x27.set k3 (⟨(l_markText x26), (x27.getD k3 d_Idx).Col, (x27.getD k3 d_Idx).Stage⟩ : DIdx)).set k3 (⟨((x27.set k3 (⟨(l_markText x26), (x27.getD k3 d_Idx).Col, (x27.getD k3 d_Idx).Stage⟩ : DIdx)).getD k3 d_Idx).Name, IntKind.wrap .i64 (x26 + 1), ((x27.set k3 (⟨(l_markText x26), (x27.getD k3 d_Idx).Col, (x27.getD k3 d_Idx).Stage⟩ : DIdx)).getD k3 d_Idx).Stage⟩ : DIdx)).getD k3 d_Idx).Col, IntKind.wrap .i64 ((IntKind.wrap .i64 (x26 + 1)) + 1)⟩ : DIdx))) := by simp only [B_l_markIdxS_0, cond_true, cond_false, loopE_done, loopE_ret]
   exact ⟨p_a.length - (k3 + 1), by omega, k3 + 1, IntKind.wrap .i64 ((IntKind.wrap .i64 ((IntKind.wrap .i64 (x26 + 1)) + 1)) + 1), (((x27.set k3 (⟨(l_markText x26), (x27.getD k3 d_Idx).Col, (x27.getD k3 d_Idx).Stage⟩ : DIdx)).set k3 (⟨((x27.set k3 (⟨(l_markText x26), (x27.getD k3 d_Idx).Col, (x27.getD k3 d_Idx).Stage⟩ : DIdx)).getD k3 d_Idx).Name, IntKind.wrap .i64 (x26 + 1), ((x27.set k3 (⟨(l_markText x26), (x27.getD k3 d_Idx).Col, (x27.getD k3 d_Idx).Stage⟩ : DIdx)).getD k3 d_Idx).Stage⟩ : DIdx)).set k3 (⟨(((x27.set k3 (⟨(l_markText x26), (x27.getD k3 d_Idx).Col, (x27.getD k3 d_Idx).Stage⟩ : DIdx)).set k3 (⟨((x27.set k3 (⟨(l_markText x26), (x27.getD k3 d_Idx).Col, (x27.getD k3 d_Idx).Stage⟩ : DIdx)).getD k3 d_Idx).Name, IntKind.wrap .i64 (x26 + 1), ((x27.set k3 (⟨(l_markText x26), (x27.getD k3 d_Idx).Col, (x27.getD k3 d_Idx).Stage⟩ : DIdx)).getD k3 d_Idx).Stage⟩ : DIdx)).getD k3 d_Idx).Name, (((x27.set k3 (⟨(l_markText x26), (x27.getD k3 d_Idx).Col, (x27.getD k3 d_Idx).Stage⟩ : DIdx)).set k3 (⟨((x27.set k3 (⟨(l_markText x26), (x27.getD k3 d_Idx).Col, (x27.getD k3 d_Idx).Stage⟩ : DIdx)).getD k3 d_Idx).Name, IntKind.wrap .i64 (x26 + 1), ((x27.set k3 (⟨(l_markText x26), (x27.getD k3 d_Idx).Col, (x27.getD k3 d_Idx).Stage⟩ : DIdx)).getD k3 d_Idx).Stage⟩ : DIdx)).getD k3 d_Idx).Col, IntKind.wrap .i64 ((IntKind.wrap .i64 (x26 + 1)) + 1)⟩ : DIdx)), rfl, hlt45, (by omega), rfl, rfl, rfl, hB66, (Mut.only (Mut.only (Mut.only (Mut.ex hf41 hE48) hO55 (by simp only [InR, or_false]; omega)) hO61 (by simp only [InR, or_false]; omega)) hO67 (by simp only [InR, or_false]; omega)), (by first | omega | assumption | (simp only [IntKind.wrap_i64] at *; omega)), (loopM.cont hlt45 hB68).symm.trans hI35⟩
  ·refine CW.seq (CW.seq (CW.region (sd rfl (yl_move rfl rfl (sd rfl (yl_move rfl rfl (sd rfl (yl_len Try.un33 rfl rfl (sd rfl (yl_lss rfl rfl rfl (SeqR.done (tn ?_))))))))))))
   refine CW.cond_f rfl (lt_f hlt45) (CW.exit (tx (tx ?_)))
   have hL73 : loopM (B_l_markIdxS_0 p_a p_k) (p_a.length - 0) 0 (p_k, p_a) = .done (x26, x27) := hI35.symm.trans (loopM.stop hlt45)
   refine bx (tn (CW.seq (CW.region (sd rfl (yl_move rfl rfl (sd rfl (yl_assign rfl rfl (SeqR.done (tn (CW.ret ?_))))))))))
   refine rr rfl (.cons rfl .nil) ?_
   have hM74 : (l_markIdxS p_a p_k) = ((x26, x27)) := by simp only [l_markIdxS, hL73, cond_true, cond_false, loopE_done, loopE_ret]
   rw [hM74]
   exact ⟨rfl, hf40, hf41⟩
set_option maxRecDepth 100000 in
set_option maxHeartbeats 2000000 in
theorem c_l_markTable {A1 : Option Addr} {c1 : Nat} {lo1 hi1 : Nat} {A2 : Option Addr} {c2 : Nat} {lo2 hi2 : Nat} {w : World} (p_a : DTable) (p_k : Int) (h1 : OwnL w lo1 hi1 9 1 (RF e_Str) A1 p_a.Cols.length c1 p_a.Cols) (h2 : OwnL w lo2 hi2 132 3 (RF e_Idx) A2 p_a.Idxs.length c2 p_a.Idxs) (hrn3 : (0 ≤ lo1 ∧ lo1 ≤ hi1 ∧ hi1 ≤ w.heap.size)) (hrn4 : (0 ≤ lo2 ∧ lo2 ≤ hi2 ∧ hi2 ≤ w.heap.size)) (hrn5 : (hi1 ≤ lo2 ∨ hi2 ≤ lo1)) (pre0 : p_k ≤ 9223372036854775807) : Cal Try.prog 50 #[.agg #[.string (bs (p_a.Name)), .slice A1 p_a.Cols.length c1, .slice A2 p_a.Idxs.length c2], .int .i64 (p_k)] w fun v w' => v = .int .i64 ((l_markTable p_a p_k).1) ∧ OwnL w' lo1 hi1 9 1 (RF e_Str) A1 p_a.Cols.length c1 ((l_markTable p_a p_k).2.Cols) ∧ OwnL w' lo2 hi2 132 3 (RF e_Idx) A2 p_a.Idxs.length c2 ((l_markTable p_a p_k).2.Idxs) ∧ Mut [(lo1, hi1), (lo2, hi2)] w w' := by
 refine Cal.of (vs := [.agg #[.string (bs (p_a.Name)), .slice A1 p_a.Cols.length c1, .slice A2 p_a.Idxs.length c2], .int .i64 (p_k)]) Try.func50 rfl Try.ntmps50 rfl (CW.seq (CW.region (sd rfl (yl_box (cs := [.string (bs (p_a.Name)), .slice A1 p_a.Cols.length c1, .slice A2 p_a.Idxs.length c2]) rfl rfl rfl ?_))))
 intro b6 w7 hs8 hz9 hB10 hE11
 refine sd rfl (yl_assign rfl rfl (SeqR.done (tn (CW.seq (CW.region (sd rfl (yl_fieldAddr Try.fd35_1 rfl rfl (sd rfl (yl_load1 Try.ty22 rfl rfl ((hB10.cell 1).trans rfl) (sd rfl (yl_move rfl rfl (sd rfl (yl_call Try.en109 rfl (opvs_cons rfl (opvs_cons rfl opvs_nil)) (Cal.mono (c_l_markStringS p_a.Cols p_k (OwnL.ex good_Str h1 hE11) (by omega) (by first | omega | assumption | (simp only [IntKind.wrap_i64] at *; omega))) ?_))))))))))))))
 rintro v14 w13 ⟨rfl, h16, hm15⟩
 have hm15z := Mut.size hm15
 have hrf17 := rf_markStringS p_a.Cols p_k (by first | omega | assumption | (simp only [IntKind.wrap_i64] at *; omega))
 refine sd rfl (yl_assign rfl rfl (SeqR.done (tn (CW.seq (CW.region (sd rfl (yl_fieldAddr Try.fd35_2 rfl rfl (sd rfl (yl_load1 Try.ty33 rfl rfl (((Box.mut hB10 hm15 (fun k hk => by simp only [InR, or_false] at hk; omega)).cell 2).trans rfl) (sd rfl (yl_move rfl rfl (sd rfl (yl_call Try.en110 rfl (opvs_cons rfl (opvs_cons rfl opvs_nil)) (Cal.mono (c_l_markIdxS p_a.Idxs ((l_markStringS p_a.Cols p_k).1) (OwnL.mut good_Idx (OwnL.ex good_Idx h2 hE11) hm15 (fun k hk => by simp only [InR, or_false] at hk; omega)) (by omega) (by first | omega | assumption | (simp only [IntKind.wrap_i64] at *; omega))) ?_))))))))))))))
 rintro v22 w21 ⟨rfl, h24, hm23⟩
 have hm23z := Mut.size hm23
 have hrf25 := rf_markIdxS p_a.Idxs ((l_markStringS p_a.Cols p_k).1) (by first | omega | assumption | (simp only [IntKind.wrap_i64] at *; omega))
 refine sd rfl (yl_assign rfl rfl (SeqR.done (tn (CW.seq (CW.region (sd rfl (yl_move rfl rfl (sd rfl (yl_assign rfl rfl (SeqR.done (tn ?_)))))))))))
 refine CW.ret (rr rfl (.cons rfl .nil) ?_)
 have hM26 : (l_markTable p_a p_k) = (((l_markIdxS p_a.Idxs ((l_markStringS p_a.Cols p_k).1)).1, (⟨p_a.Name, (l_markStringS p_a.Cols p_k).2, (l_markIdxS p_a.Idxs ((l_markStringS p_a.Cols p_k).1)).2⟩ : DTable))) := by simp only [l_markTable, cond_true, cond_false, loopE_done, loopE_ret]
 rw [hM26]
 exact ⟨rfl, (OwnL.mut good_Str h16 hm23 (fun k hk => by simp only [InR, or_false] at hk; omega)), h24, (Mut.mut (Mut.mut (Mut.ex (Mut.refl (l := [(lo1, hi1), (lo2, hi2)]) w) hE11) hm15 (fun k hk => by simp only [InR, or_false] at hk ⊢; omega)) hm23 (fun k hk => by simp only [InR, or_false] at hk ⊢; omega))⟩
set_option maxRecDepth 100000 in
set_option maxHeartbeats 2000000 in
theorem c_l_heldStringS {A1 : Option Addr} {c1 : Nat} {w : World} (p_a : List Str) (p_k : Int) (h1 : RdS w (Iv 0 w.heap.size) (RF e_Str) 1 A1 p_a.length c1 p_a) (pre0 : p_k ≤ 9223372036854775807) : Cal Try.prog 111 #[.slice A1 p_a.length c1, .int .i64 (p_k)] w fun v w' => v = .int .i64 ((l_heldStringS p_a p_k)) ∧ Ex w w' := by
 refine Cal.of (vs := [.slice A1 p_a.length c1, .int .i64 (p_k)]) Try.func111 rfl Try.ntmps111 rfl (CW.seq (CW.region (sd rfl (yl_assign rfl rfl (SeqR.done (tn (CW.seq (CW.seq (CW.region ?_)))))))))
 refine sd rfl (yl_assign rfl rfl (SeqR.done (tn (CW.block (CW.loop (fun m4 L5 w6 => ∃ (k2 : Nat) (x3 : Int), m4 = p_a.length - k2 ∧ k2 ≤ p_a.length ∧ w.heap.size ≤ w6.heap.size ∧ lkp L5 0 = some (.slice A1 p_a.length c1) ∧ lkp L5 1 = some (.int .i64 (x3)) ∧ lkp L5 5 = some (.int .i64 ((k2 : Int))) ∧ RdS w6 (Iv 0 w.heap.size) (RF e_Str) 1 A1 p_a.length c1 p_a ∧ Ex w w6 ∧ x3 ≤ 9223372036854775807 ∧ loopM (B_l_heldStringS_0 p_a p_k) (p_a.length - k2) k2 (x3) = loopM (B_l_heldStringS_0 p_a p_k) (p_a.length - 0) 0 (p_k)) (p_a.length - 0) ?_ ?_)))))
 ·exact ⟨0, p_k, rfl, (by omega), Nat.le_refl _, rfl, rfl, rfl, h1, (Ex.refl w), (by first | omega | assumption | (simp only [IntKind.wrap_i64] at *; omega)), rfl⟩
 ·rintro m7 L8 w9 ⟨k2, x3, rfl, hk10, hsz12, hl13, hl14, hl15, hf16, hf17, hv18, hI11⟩
  refine CW.sub (Sub.cons hl13 (Sub.cons hl14 (Sub.cons hl15 (Sub.nil _)))) ?_
  have hf17z := Ex.size hf17
  have hbg19 := RdS.big hf16
  rcases Nat.lt_or_ge k2 p_a.length with hlt20 | hlt20
  ·refine CW.seq (CW.seq (CW.region (sd rfl (yl_move rfl rfl (sd rfl (yl_move rfl rfl (sd rfl (yl_len Try.un22 rfl rfl (sd rfl (yl_lss rfl rfl rfl (SeqR.done (tn ?_))))))))))))
   refine CW.cond_t rfl (lt_t hlt20) (CW.skip (tn (CW.seq (CW.block (CW.seq (CW.seq ?_))))))
   obtain ⟨eb21, eo21, ec21, eA21, eS21, ebl21, el21, eR21, eC21⟩ := RdS.atD hf16 d_Str (i := k2) (by first | omega | assumption)
   obtain rfl := eR21
   have eC21 : Cells w9 eb21 (eo21 + k2 * 1) [.string (bs ((p_a.getD k2 d_Str)))] := eC21
   refine CW.drawsI 7 (vgetI [DetI (.slice A1 p_a.length c1), DetI (.int .i64 ((k2 : Int))), DetI (.pointer (some ⟨eb21, eo21 + k2 * 1, none⟩)), DetI (.string (bs ((p_a.getD k2 d_Str)))), DetI (.int .i64 (x3)), DetI (.string (bs ((l_markText x3)))), DetI (.bool (!((p_a.getD k2 d_Str) == (l_markText x3))))]) Try.follows rfl rfl rfl rfl rfl rfl (vgetI_stable ⟨StableI.det _, StableI.det _, StableI.det _, StableI.det _, StableI.det _, StableI.det _, StableI.det _, trivial⟩) ⟨?_, ?_, ?_, ?_, ?_, ?_, ?_, trivial⟩ ?_
   ·exact fun _ _ h => os rfl ((yl_move rfl (h.old 0 _ rfl rfl) kI))
   ·exact fun _ _ h => os rfl ((yl_move rfl (h.old 5 _ rfl rfl) kI))
   ·intro L33 w34 hi35
    have hE36 := hi35.ex
    have hE36z := Ex.size hE36
    exact os rfl ((yl_indexAddrN Try.un22 Try.ty9 rfl (hi35.dt 0 12 rfl rfl rfl) (hi35.dt 1 13 rfl rfl rfl) eA21 (by first | omega | assumption | (simp only [IntKind.wrap_i64] at *; omega)) kI))
   ·exact fun _ _ h => os rfl ((yl_load1 Try.ty9 rfl (h.dt 2 14 rfl rfl rfl) ((Cells.ex eC21 h.ex) 0 _ rfl) kI))
   ·exact fun _ _ h => os rfl ((yl_move rfl (h.old 1 _ rfl rfl) kI))
   ·intro L50 w51 hi52
    have hE53 := hi52.ex
    have hE53z := Ex.size hE53
    refine OpR.op' rfl (yl_call Try.en103 rfl (opvs_cons (hi52.dt 4 16 rfl rfl rfl) opvs_nil) (Cal.mono (c_l_markText x3 (by first | omega | assumption | (simp only [IntKind.wrap_i64] at *; omega))) ?_))
    rintro v56 w55 ⟨rfl, hE57⟩
    exact ⟨rfl, hE57⟩
   ·exact fun _ _ h => os rfl ((yl_sneq (a := (p_a.getD k2 d_Str)) (b := (l_markText x3)) rfl (h.dt 3 15 rfl rfl rfl) (h.dt 5 17 rfl rfl rfl) kI))
   ·intro fl67 fh68 L64 w65 hp66
    have hE69 := hp66.ex
    have hE69z := Ex.size hE69
    refine SeqR.done (tn (CW.sub (Sub.cons (d := 0) (hp66.old 0 _ rfl rfl) (Sub.cons (d := 1) (hp66.old 1 _ rfl rfl) (Sub.cons (d := 5) (hp66.old 5 _ rfl rfl) (Sub.cons (d := 18) (hp66.nt 6 18 rfl rfl rfl) (Sub.nil _))))) (bcase ((p_a.getD k2 d_Str) == (l_markText x3)) (fun hb74 => ?_) (fun hb74 => ?_))))
    ·refine CW.cond_f rfl (not_t hb74) (CW.skip (tn (CW.region (sd rfl (yl_move rfl rfl (sd rfl (yl_add rfl rfl rfl (sd rfl (yl_assign rfl rfl (SeqR.done (bn ?_)))))))))))
     refine tn (CW.region (sd rfl (yl_move rfl rfl (sd rfl (yl_inc rfl rfl rfl (by omega) (sd rfl (yl_assign rfl rfl (SeqR.done (tn ?_)))))))))
     have hB75 : B_l_heldStringS_0 p_a p_k k2 (x3) = .cont (IntKind.wrap .i64 (x3 + 1)) := by simp only [B_l_heldStringS_0, hb74, cond_true, cond_false, loopE_done, loopE_ret]
     exact ⟨p_a.length - (k2 + 1), by omega, k2 + 1, IntKind.wrap .i64 (x3 + 1), rfl, hlt20, (by omega), rfl, rfl, rfl, (RdS.ex good_Str hf16 hE69), (Ex.trans hf17 hE69), (by first | omega | assumption | (simp only [IntKind.wrap_i64] at *; omega)), (loopM.cont hlt20 hB75).symm.trans hI11⟩
    ·refine CW.cond_t rfl (not_f hb74) (CW.seq (CW.region (sd rfl (yl_assign rfl rfl (SeqR.done (tn (CW.ret (tr (br ?_)))))))))
     refine tr (tr ?_)
     have hB79 : B_l_heldStringS_0 p_a p_k k2 (x3) = .ret (-1) := by simp only [B_l_heldStringS_0, hb74, cond_true, cond_false, loopE_done, loopE_ret]
     have hL78 : loopM (B_l_heldStringS_0 p_a p_k) (p_a.length - 0) 0 (p_k) = .ret (-1) := hI11.symm.trans (loopM.ret hlt20 hB79)
     refine br (tr (rr rfl (.cons rfl .nil) ?_))
     have hM80 : (l_heldStringS p_a p_k) = (-1) := by simp only [l_heldStringS, hb74, hL78, cond_true, cond_false, loopE_done, loopE_ret]
     rw [hM80]
     exact ⟨rfl, (Ex.trans hf17 hE69)⟩
  ·refine CW.seq (CW.seq (CW.region (sd rfl (yl_move rfl rfl (sd rfl (yl_move rfl rfl (sd rfl (yl_len Try.un22 rfl rfl (sd rfl (yl_lss rfl rfl rfl (SeqR.done (tn ?_))))))))))))
   refine CW.cond_f rfl (lt_f hlt20) (CW.exit (tx (tx ?_)))
   have hL82 : loopM (B_l_heldStringS_0 p_a p_k) (p_a.length - 0) 0 (p_k) = .done (x3) := hI11.symm.trans (loopM.stop hlt20)
   refine bx (tn (CW.seq (CW.region (sd rfl (yl_move rfl rfl (sd rfl (yl_assign rfl rfl (SeqR.done (tn (CW.ret ?_))))))))))
   refine rr rfl (.cons rfl .nil) ?_
   have hM83 : (l_heldStringS p_a p_k) = (x3) := by simp only [l_heldStringS, hL82, cond_true, cond_false, loopE_done, loopE_ret]
   rw [hM83]
   exact ⟨rfl, hf17⟩
set_option maxRecDepth 100000 in
set_option maxHeartbeats 2000000 in
theorem c_l_heldIdxS {A1 : Option Addr} {c1 : Nat} {w : World} (p_a : List DIdx) (p_k : Int) (h1 : RdS w (Iv 0 w.heap.size) (RF e_Idx) 3 A1 p_a.length c1 p_a) (pre0 : p_k ≤ 9223372036854775807) : Cal Try.prog 112 #[.slice A1 p_a.length c1, .int .i64 (p_k)] w fun v w' => v = .int .i64 ((l_heldIdxS p_a p_k)) ∧ Ex w w' := by
 refine Cal.of (vs := [.slice A1 p_a.length c1, .int .i64 (p_k)]) Try.func112 rfl Try.ntmps112 rfl (CW.seq (CW.region (sd rfl (yl_assign rfl rfl (SeqR.done (tn (CW.seq (CW.seq (CW.region ?_)))))))))
 refine sd rfl (yl_assign rfl rfl (SeqR.done (tn (CW.block (CW.loop (fun m4 L5 w6 => ∃ (k2 : Nat) (x3 : Int), m4 = p_a.length - k2 ∧ k2 ≤ p_a.length ∧ w.heap.size ≤ w6.heap.size ∧ lkp L5 0 = some (.slice A1 p_a.length c1) ∧ lkp L5 1 = some (.int .i64 (x3)) ∧ lkp L5 5 = some (.int .i64 ((k2 : Int))) ∧ RdS w6 (Iv 0 w.heap.size) (RF e_Idx) 3 A1 p_a.length c1 p_a ∧ Ex w w6 ∧ x3 ≤ 9223372036854775807 ∧ loopM (B_l_heldIdxS_0 p_a p_k) (p_a.length - k2) k2 (x3) = loopM (B_l_heldIdxS_0 p_a p_k) (p_a.length - 0) 0 (p_k)) (p_a.length - 0) ?_ ?_)))))
 ·exact ⟨0, p_k, rfl, (by omega), Nat.le_refl _, rfl, rfl, rfl, h1, (Ex.refl w), (by first | omega | assumption | (simp only [IntKind.wrap_i64] at *; omega)), rfl⟩
 ·rintro m7 L8 w9 ⟨k2, x3, rfl, hk10, hsz12, hl13, hl14, hl15, hf16, hf17, hv18, hI11⟩
  refine CW.sub (Sub.cons hl13 (Sub.cons hl14 (Sub.cons hl15 (Sub.nil _)))) ?_
  have hf17z := Ex.size hf17
  have hbg19 := RdS.big hf16
  rcases Nat.lt_or_ge k2 p_a.length with hlt20 | hlt20
  ·refine CW.seq (CW.seq (CW.region (sd rfl (yl_move rfl rfl (sd rfl (yl_move rfl rfl (sd rfl (yl_len Try.un33 rfl rfl (sd rfl (yl_lss rfl rfl rfl (SeqR.done (tn ?_))))))))))))
   refine CW.cond_t rfl (lt_t hlt20) (CW.skip (tn (CW.seq (CW.block (CW.seq (CW.seq ?_))))))
   obtain ⟨eb21, eo21, ec21, eA21, eS21, ebl21, el21, eR21, eC21⟩ := RdS.atD hf16 d_Idx (i := k2) (by first | omega | assumption)
   obtain rfl := eR21
   have eC21 : Cells w9 eb21 (eo21 + k2 * 3) [.string (bs ((p_a.getD k2 d_Idx).Name)), .int .i64 ((p_a.getD k2 d_Idx).Col), .int .i64 ((p_a.getD k2 d_Idx).Stage)] := eC21
   refine CW.drawsI 8 (vgetI [DetI (.slice A1 p_a.length c1), DetI (.int .i64 ((k2 : Int))), DetI (.pointer (some ⟨eb21, eo21 + k2 * 3, none⟩)), DetI (.pointer (some ⟨eb21, eo21 + k2 * 3 + 0, none⟩)), DetI (.string (bs ((p_a.getD k2 d_Idx).Name))), DetI (.int .i64 (x3)), DetI (.string (bs ((l_markText x3)))), DetI (.bool (!(((p_a.getD k2 d_Idx).Name) == (l_markText x3))))]) Try.follows rfl rfl rfl rfl rfl rfl (vgetI_stable ⟨StableI.det _, StableI.det _, StableI.det _, StableI.det _, StableI.det _, StableI.det _, StableI.det _, StableI.det _, trivial⟩) ⟨?_, ?_, ?_, ?_, ?_, ?_, ?_, ?_, trivial⟩ ?_
   ·exact fun _ _ h => os rfl ((yl_move rfl (h.old 0 _ rfl rfl) kI))
   ·exact fun _ _ h => os rfl ((yl_move rfl (h.old 5 _ rfl rfl) kI))
   ·intro L33 w34 hi35
    have hE36 := hi35.ex
    have hE36z := Ex.size hE36
    exact os rfl ((yl_indexAddrN Try.un33 Try.ty132 rfl (hi35.dt 0 12 rfl rfl rfl) (hi35.dt 1 13 rfl rfl rfl) eA21 (by first | omega | assumption | (simp only [IntKind.wrap_i64] at *; omega)) kI))
   ·exact fun _ _ h => os rfl ((yl_fieldAddr Try.fd132_0 rfl (h.dt 2 14 rfl rfl rfl) kI))
   ·exact fun _ _ h => os rfl ((yl_load1 Try.ty9 rfl (h.dt 3 15 rfl rfl rfl) ((Cells.ex eC21 h.ex) 0 _ rfl) kI))
   ·exact fun _ _ h => os rfl ((yl_move rfl (h.old 1 _ rfl rfl) kI))
   ·intro L55 w56 hi57
    have hE58 := hi57.ex
    have hE58z := Ex.size hE58
    refine OpR.op' rfl (yl_call Try.en103 rfl (opvs_cons (hi57.dt 5 17 rfl rfl rfl) opvs_nil) (Cal.mono (c_l_markText x3 (by first | omega | assumption | (simp only [IntKind.wrap_i64] at *; omega))) ?_))
    rintro v61 w60 ⟨rfl, hE62⟩
    exact ⟨rfl, hE62⟩
   ·exact fun _ _ h => os rfl ((yl_sneq (a := ((p_a.getD k2 d_Idx).Name)) (b := (l_markText x3)) rfl (h.dt 4 16 rfl rfl rfl) (h.dt 6 18 rfl rfl rfl) kI))
   ·intro fl72 fh73 L69 w70 hp71
    have hE74 := hp71.ex
    have hE74z := Ex.size hE74
    refine SeqR.done (tn (CW.sub (Sub.cons (d := 0) (hp71.old 0 _ rfl rfl) (Sub.cons (d := 1) (hp71.old 1 _ rfl rfl) (Sub.cons (d := 5) (hp71.old 5 _ rfl rfl) (Sub.cons (d := 19) (hp71.nt 7 19 rfl rfl rfl) (Sub.nil _))))) (bcase (((p_a.getD k2 d_Idx).Name) == (l_markText x3)) (fun hb79 => ?_) (fun hb79 => ?_))))
    ·refine CW.cond_f rfl (not_t hb79) (CW.skip (tn (CW.seq (CW.region (sd rfl (yl_move rfl rfl (sd rfl (yl_add rfl rfl rfl (sd rfl (yl_assign rfl rfl (SeqR.done ?_)))))))))))
     refine tn (CW.seq (CW.seq (CW.region (sd rfl (yl_move rfl rfl (sd rfl (yl_move rfl rfl (sd rfl (yl_indexAddrN Try.un33 Try.ty132 rfl rfl rfl eA21 (by first | omega | assumption | (simp only [IntKind.wrap_i64] at *; omega)) (sd rfl (yl_fieldAddr Try.fd132_1 rfl rfl ?_)))))))))))
     have q80 := Cells.ex eC21 hE74
     refine sd rfl (yl_load1 Try.ty3 rfl rfl (q80 1 _ rfl) (sd rfl (yl_move rfl rfl (sd rfl (yl_neq rfl rfl rfl (SeqR.done (tn (bcase (decide (((p_a.getD k2 d_Idx).Col) = (IntKind.wrap .i64 (x3 + 1)))) (fun hb81 => ?_) (fun hb81 => ?_)))))))))
     ·have hb81p := dec_t hb81
      refine CW.cond_f rfl (not_t hb81) (CW.skip (tn (CW.seq (CW.region (sd rfl (yl_move rfl rfl (sd rfl (yl_add rfl rfl rfl (sd rfl (yl_assign rfl rfl (SeqR.done ?_)))))))))))
      refine tn (CW.seq (CW.seq (CW.region (sd rfl (yl_move rfl rfl (sd rfl (yl_move rfl rfl (sd rfl (yl_indexAddrN Try.un33 Try.ty132 rfl rfl rfl eA21 (by first | omega | assumption | (simp only [IntKind.wrap_i64] at *; omega)) (sd rfl (yl_fieldAddr Try.fd132_2 rfl rfl (sd rfl (yl_load1 Try.ty3 rfl rfl (q80 2 _ rfl) ?_)))))))))))))
      refine sd rfl (yl_move rfl rfl (sd rfl (yl_neq rfl rfl rfl (SeqR.done (tn (bcase (decide (((p_a.getD k2 d_Idx).Stage) = (IntKind.wrap .i64 ((IntKind.wrap .i64 (x3 + 1)) + 1)))) (fun hb82 => ?_) (fun hb82 => ?_)))))))
      ·have hb82p := dec_t hb82
       refine CW.cond_f rfl (not_t hb82) (CW.skip (tn (CW.region (sd rfl (yl_move rfl rfl (sd rfl (yl_add rfl rfl rfl (sd rfl (yl_assign rfl rfl (SeqR.done (bn ?_)))))))))))
       refine tn (CW.region (sd rfl (yl_move rfl rfl (sd rfl (yl_inc rfl rfl rfl (by omega) (sd rfl (yl_assign rfl rfl (SeqR.done (tn ?_)))))))))
       have hB83 : B_l_heldIdxS_0 p_a p_k k2 (x3) = .cont (IntKind.wrap .i64 ((IntKind.wrap .i64 ((IntKind.wrap .i64 (x3 + 1)) + 1)) + 1)) := by simp only [B_l_heldIdxS_0, hb79, hb81, hb82, cond_true, cond_false, loopE_done, loopE_ret]
       exact ⟨p_a.length - (k2 + 1), by omega, k2 + 1, IntKind.wrap .i64 ((IntKind.wrap .i64 ((IntKind.wrap .i64 (x3 + 1)) + 1)) + 1), rfl, hlt20, (by omega), rfl, rfl, rfl, (RdS.ex good_Idx hf16 hE74), (Ex.trans hf17 hE74), (by first | omega | assumption | (simp only [IntKind.wrap_i64] at *; omega)), (loopM.cont hlt20 hB83).symm.trans hI11⟩
      ·have hb82p := dec_f hb82
       refine CW.cond_t rfl (not_f hb82) (CW.seq (CW.region (sd rfl (yl_assign rfl rfl (SeqR.done (tn (CW.ret (tr (br ?_)))))))))
       refine tr (tr ?_)
       have hB87 : B_l_heldIdxS_0 p_a p_k k2 (x3) = .ret (-1) := by simp only [B_l_heldIdxS_0, hb79, hb81, hb82, cond_true, cond_false, loopE_done, loopE_ret]
       have hL86 : loopM (B_l_heldIdxS_0 p_a p_k) (p_a.length - 0) 0 (p_k) = .ret (-1) := hI11.symm.trans (loopM.ret hlt20 hB87)
       refine br (tr (rr rfl (.cons rfl .nil) ?_))
       have hM88 : (l_heldIdxS p_a p_k) = (-1) := by simp only [l_heldIdxS, hb79, hb81, hb82, hL86, cond_true, cond_false, loopE_done, loopE_ret]
       rw [hM88]
       exact ⟨rfl, (Ex.trans hf17 hE74)⟩
     ·have hb81p := dec_f hb81
      refine CW.cond_t rfl (not_f hb81) (CW.seq (CW.region (sd rfl (yl_assign rfl rfl (SeqR.done (tn (CW.ret (tr (br ?_)))))))))
      refine tr (tr ?_)
      have hB91 : B_l_heldIdxS_0 p_a p_k k2 (x3) = .ret (-1) := by simp only [B_l_heldIdxS_0, hb79, hb81, cond_true, cond_false, loopE_done, loopE_ret]
      have hL90 : loopM (B_l_heldIdxS_0 p_a p_k) (p_a.length - 0) 0 (p_k) = .ret (-1) := hI11.symm.trans (loopM.ret hlt20 hB91)
      refine br (tr (rr rfl (.cons rfl .nil) ?_))
      have hM92 : (l_heldIdxS p_a p_k) = (-1) := by simp only [l_heldIdxS, hb79, hb81, hL90, cond_true, cond_false, loopE_done, loopE_ret]
      rw [hM92]
      exact ⟨rfl, (Ex.trans hf17 hE74)⟩
    ·refine CW.cond_t rfl (not_f hb79) (CW.seq (CW.region (sd rfl (yl_assign rfl rfl (SeqR.done (tn (CW.ret (tr (br ?_)))))))))
     refine tr (tr ?_)
     have hB95 : B_l_heldIdxS_0 p_a p_k k2 (x3) = .ret (-1) := by simp only [B_l_heldIdxS_0, hb79, cond_true, cond_false, loopE_done, loopE_ret]
     have hL94 : loopM (B_l_heldIdxS_0 p_a p_k) (p_a.length - 0) 0 (p_k) = .ret (-1) := hI11.symm.trans (loopM.ret hlt20 hB95)
     refine br (tr (rr rfl (.cons rfl .nil) ?_))
     have hM96 : (l_heldIdxS p_a p_k) = (-1) := by simp only [l_heldIdxS, hb79, hL94, cond_true, cond_false, loopE_done, loopE_ret]
     rw [hM96]
     exact ⟨rfl, (Ex.trans hf17 hE74)⟩
  ·refine CW.seq (CW.seq (CW.region (sd rfl (yl_move rfl rfl (sd rfl (yl_move rfl rfl (sd rfl (yl_len Try.un33 rfl rfl (sd rfl (yl_lss rfl rfl rfl (SeqR.done (tn ?_))))))))))))
   refine CW.cond_f rfl (lt_f hlt20) (CW.exit (tx (tx ?_)))
   have hL98 : loopM (B_l_heldIdxS_0 p_a p_k) (p_a.length - 0) 0 (p_k) = .done (x3) := hI11.symm.trans (loopM.stop hlt20)
   refine bx (tn (CW.seq (CW.region (sd rfl (yl_move rfl rfl (sd rfl (yl_assign rfl rfl (SeqR.done (tn (CW.ret ?_))))))))))
   refine rr rfl (.cons rfl .nil) ?_
   have hM99 : (l_heldIdxS p_a p_k) = (x3) := by simp only [l_heldIdxS, hL98, cond_true, cond_false, loopE_done, loopE_ret]
   rw [hM99]
   exact ⟨rfl, hf17⟩
set_option maxRecDepth 100000 in
set_option maxHeartbeats 2000000 in
theorem c_l_heldTable {A1 : Option Addr} {c1 : Nat} {A2 : Option Addr} {c2 : Nat} {w : World} (p_a : DTable) (p_k : Int) (h1 : RdS w (Iv 0 w.heap.size) (RF e_Str) 1 A1 p_a.Cols.length c1 p_a.Cols) (h2 : RdS w (Iv 0 w.heap.size) (RF e_Idx) 3 A2 p_a.Idxs.length c2 p_a.Idxs) (pre0 : p_k ≤ 9223372036854775807) : Cal Try.prog 51 #[.agg #[.string (bs (p_a.Name)), .slice A1 p_a.Cols.length c1, .slice A2 p_a.Idxs.length c2], .int .i64 (p_k)] w fun v w' => v = .int .i64 ((l_heldTable p_a p_k)) ∧ Ex w w' := by
 refine Cal.of (vs := [.agg #[.string (bs (p_a.Name)), .slice A1 p_a.Cols.length c1, .slice A2 p_a.Idxs.length c2], .int .i64 (p_k)]) Try.func51 rfl Try.ntmps51 rfl (CW.seq (CW.region (sd rfl (yl_box (cs := [.string (bs (p_a.Name)), .slice A1 p_a.Cols.length c1, .slice A2 p_a.Idxs.length c2]) rfl rfl rfl ?_))))
 intro b3 w4 hs5 hz6 hB7 hE8
 refine sd rfl (yl_assign rfl rfl (SeqR.done (tn (CW.seq (CW.region (sd rfl (yl_fieldAddr Try.fd35_1 rfl rfl (sd rfl (yl_load1 Try.ty22 rfl rfl ((hB7.cell 1).trans rfl) (sd rfl (yl_move rfl rfl (sd rfl (yl_call Try.en111 rfl (opvs_cons rfl (opvs_cons rfl opvs_nil)) (Cal.mono (c_l_heldStringS p_a.Cols p_k (RdS.up (RdS.ex good_Str h1 hE8) good_Str) (by first | omega | assumption | (simp only [IntKind.wrap_i64] at *; omega))) ?_))))))))))))))
 rintro v11 w10 ⟨rfl, hE12⟩
 have hE12z := Ex.size hE12
 have hrf13 := rf_heldStringS p_a.Cols p_k (by first | omega | assumption | (simp only [IntKind.wrap_i64] at *; omega))
 refine sd rfl (yl_assign rfl rfl (SeqR.done (tn (CW.seq (CW.seq (CW.region (sd rfl (yl_move rfl rfl (sd rfl (yl_lss rfl rfl rfl (SeqR.done ?_)))))))))))
 refine tn (bcase (decide ((l_heldStringS p_a.Cols p_k) < 0)) (fun hb14 => ?_) (fun hb14 => ?_))
 ·have hb14p := dec_t hb14
  refine CW.cond_t rfl hb14 (CW.seq (CW.region (sd rfl (yl_assign rfl rfl (SeqR.done (tn (CW.ret (tr (rr rfl (.cons rfl .nil) ?_)))))))))
  have hM15 : (l_heldTable p_a p_k) = (-1) := by simp only [l_heldTable, hb14, cond_true, cond_false, loopE_done, loopE_ret]
  rw [hM15]
  exact ⟨rfl, (Ex.trans (Ex.trans (Ex.refl w) hE8) hE12)⟩
 ·have hb14p := dec_f hb14
  refine CW.cond_f rfl hb14 (CW.skip (tn (CW.seq (CW.region (sd rfl (yl_fieldAddr Try.fd35_2 rfl rfl (sd rfl (yl_load1 Try.ty33 rfl rfl (((Box.ex hB7 hE12).cell 2).trans rfl) (sd rfl (yl_move rfl rfl (sd rfl (yl_call Try.en112 rfl (opvs_cons rfl (opvs_cons rfl opvs_nil)) (Cal.mono (c_l_heldIdxS p_a.Idxs (l_heldStringS p_a.Cols p_k) (RdS.up (RdS.ex good_Idx (RdS.ex good_Idx h2 hE8) hE12) good_Idx) (by first | omega | assumption | (simp only [IntKind.wrap_i64] at *; omega))) ?_)))))))))))))
  rintro v22 w21 ⟨rfl, hE23⟩
  have hE23z := Ex.size hE23
  have hrf24 := rf_heldIdxS p_a.Idxs (l_heldStringS p_a.Cols p_k) (by first | omega | assumption | (simp only [IntKind.wrap_i64] at *; omega))
  refine sd rfl (yl_assign rfl rfl (SeqR.done (tn (CW.seq (CW.seq (CW.region (sd rfl (yl_move rfl rfl (sd rfl (yl_lss rfl rfl rfl (SeqR.done ?_)))))))))))
  refine tn (bcase (decide ((l_heldIdxS p_a.Idxs (l_heldStringS p_a.Cols p_k)) < 0)) (fun hb25 => ?_) (fun hb25 => ?_))
  ·have hb25p := dec_t hb25
   refine CW.cond_t rfl hb25 (CW.seq (CW.region (sd rfl (yl_assign rfl rfl (SeqR.done (tn (CW.ret (tr (rr rfl (.cons rfl .nil) ?_)))))))))
   have hM26 : (l_heldTable p_a p_k) = (-1) := by simp only [l_heldTable, hb14, hb25, cond_true, cond_false, loopE_done, loopE_ret]
   rw [hM26]
   exact ⟨rfl, (Ex.trans (Ex.trans (Ex.trans (Ex.refl w) hE8) hE12) hE23)⟩
  ·have hb25p := dec_f hb25
   refine CW.cond_f rfl hb25 (CW.skip (tn (CW.seq (CW.region (sd rfl (yl_move rfl rfl (sd rfl (yl_assign rfl rfl (SeqR.done (tn ?_))))))))))
   refine CW.ret (rr rfl (.cons rfl .nil) ?_)
   have hM30 : (l_heldTable p_a p_k) = ((l_heldIdxS p_a.Idxs (l_heldStringS p_a.Cols p_k))) := by simp only [l_heldTable, hb14, hb25, cond_true, cond_false, loopE_done, loopE_ret]
   rw [hM30]
   exact ⟨rfl, (Ex.trans (Ex.trans (Ex.trans (Ex.refl w) hE8) hE12) hE23)⟩
set_option maxRecDepth 100000 in
set_option maxHeartbeats 2000000 in
theorem c_l_FnExactSetStage {A1 : Option Addr} {c1 : Nat} {A2 : Option Addr} {c2 : Nat} {w : World} (p_0 : DTable) (p_1 : Str) (p_2 : Int) (h1 : RdS w (Iv 0 w.heap.size) (RF e_Str) 1 A1 p_0.Cols.length c1 p_0.Cols) (h2 : RdS w (Iv 0 w.heap.size) (RF e_Idx) 3 A2 p_0.Idxs.length c2 p_0.Idxs) (pre0 : wf_Table p_0) (pre1 : wfS p_1) (pre2 : wfI p_2) : Cal Try.prog 9 #[.agg #[.string (bs (p_0.Name)), .slice A1 p_0.Cols.length c1, .slice A2 p_0.Idxs.length c2], .string (bs (p_1)), .int .i64 (p_2)] w fun v w' => v = .bool ((l_FnExactSetStage p_0 p_1 p_2)) ∧ Ex w w' := by
 refine Cal.of (vs := [.agg #[.string (bs (p_0.Name)), .slice A1 p_0.Cols.length c1, .slice A2 p_0.Idxs.length c2], .string (bs (p_1)), .int .i64 (p_2)]) Try.func9 rfl Try.ntmps9 rfl (CW.seq (CW.region (sd rfl (yl_box (cs := [.string (bs (p_0.Name)), .slice A1 p_0.Cols.length c1, .slice A2 p_0.Idxs.length c2]) rfl rfl rfl ?_))))
 intro b3 w4 hs5 hz6 hB7 hE8
 refine sd rfl (yl_assign rfl rfl (SeqR.done (tn (CW.seq (CW.seq (CW.region (sd rfl (yl_move rfl rfl (sd rfl (yl_slen Try.un9 (a := p_1) rfl rfl (sd rfl (yl_gtr rfl rfl rfl ?_))))))))))))
 refine SeqR.done (tn (bcase (decide (1048576 < (p_1.length : Int))) (fun hb9 => ?_) (fun hb9 => ?_)))
 ·have hb9p := dec_t hb9
  refine CW.cond_t rfl hb9 (CW.seq (CW.region (sd rfl (yl_assign rfl rfl (SeqR.done (tn (CW.ret (tr (rr rfl (.cons rfl .nil) ?_)))))))))
  have hM10 : (l_FnExactSetStage p_0 p_1 p_2) = (true) := by simp only [l_FnExactSetStage, hb9, cond_true, cond_false, loopE_done, loopE_ret]
  rw [hM10]
  exact ⟨rfl, (Ex.trans (Ex.refl w) hE8)⟩
 ·have hb9p := dec_f hb9
  refine CW.cond_f rfl hb9 (CW.skip (tn (CW.seq (CW.region (sd rfl (yl_assign rfl rfl (SeqR.done (tn (CW.seq ?_)))))))))
  refine CW.region (sd rfl (yl_loadN (cs := [.string (bs (p_0.Name)), .slice A1 p_0.Cols.length c1, .slice A2 p_0.Idxs.length c2]) Try.ty25 rfl rfl (hB7.cells (n := 3) rfl) rfl (sd rfl (yl_move rfl rfl ?_))))
  have q12 := RdS.ex good_Str h1 hE8
  have q13 := RdS.ex good_Idx h2 hE8
  refine sd rfl (yl_call Try.en14 rfl (opvs_cons rfl (opvs_cons rfl opvs_nil)) (Cal.mono (c_l_szTable p_0 1048576 (RdS.up q12 good_Str) (RdS.up q13 good_Idx)) ?_))
  rintro v15 w14 ⟨rfl, hE16⟩
  have hE16z := Ex.size hE16
  refine sd rfl (yl_assign rfl rfl (SeqR.done (tn (CW.seq (CW.seq (CW.region (sd rfl (yl_move rfl rfl (sd rfl (yl_lss rfl rfl rfl (SeqR.done ?_)))))))))))
  refine tn (bcase (decide ((l_szTable p_0 1048576) < 0)) (fun hb17 => ?_) (fun hb17 => ?_))
  ·have hb17p := dec_t hb17
   refine CW.cond_t rfl hb17 (CW.seq (CW.region (sd rfl (yl_assign rfl rfl (SeqR.done (tn (CW.ret (tr (rr rfl (.cons rfl .nil) ?_)))))))))
   have hM18 : (l_FnExactSetStage p_0 p_1 p_2) = (true) := by simp only [l_FnExactSetStage, hb9, hb17, cond_true, cond_false, loopE_done, loopE_ret]
   rw [hM18]
   exact ⟨rfl, (Ex.trans (Ex.trans (Ex.refl w) hE8) hE16)⟩
  ·have hb17p := dec_f hb17
   refine CW.cond_f rfl hb17 (CW.skip (tn (CW.seq (CW.region ?_))))
   have q21 := Box.ex hB7 hE16
   refine sd rfl (yl_loadN (cs := [.string (bs (p_0.Name)), .slice A1 p_0.Cols.length c1, .slice A2 p_0.Idxs.length c2]) Try.ty25 rfl rfl (q21.cells (n := 3) rfl) rfl ?_)
   have q22 := RdS.ex good_Str q12 hE16
   have q23 := RdS.ex good_Idx q13 hE16
   refine sd rfl (yl_call Try.en17 rfl (opvs_cons rfl opvs_nil) (Cal.mono (c_l_toTable p_0 (RdS.up q22 good_Str) (RdS.up q23 good_Idx) ((szok_Table pre0 (by decide) (dec_f hb17)).1)) ?_))
   rintro v27 w24 ⟨A25, c25, lo25, hi25, A26, c26, lo26, hi26, rfl, h25, h26, hrn29, hrn30, hrn31, hE28⟩
   have hE28z := Ex.size hE28
   refine sd rfl (yl_move rfl rfl (sd rfl (yl_move rfl rfl (sd rfl (yl_call Try.en48 rfl (opvs_cons rfl (opvs_cons rfl (opvs_cons rfl opvs_nil))) (Cal.mono (c_s_SetStage p_0 p_1 p_2 (RdS.up (OwnL.rd good_Str h25) good_Str) (RdS.up (OwnL.rd good_Idx h26) good_Idx) ((szok_Table pre0 (by decide) (dec_f hb17)).1) (by unfold okS; omega)) ?_))))))
   rintro v38 w34 ⟨A35, c35, lo35, hi35, A36, c36, lo36, hi36, rfl, h35, h36, ho37, hrn40, hrn41, hrn42, hE39⟩
   have hE39z := Ex.size hE39
   refine sd rfl (yl_move rfl rfl (sd rfl (yl_extract rfl rfl rfl (sd rfl (yl_extract rfl rfl rfl (sd rfl (yl_alloc Try.ty35 (cs := [.string (bs (([] : Str))), .slice none 0 0, .slice none 0 0]) rfl rfl ?_)))))))
   intro b43 w44 hs45 hz46 hB47 hE48
   refine SeqR.u rfl rfl (yl_store (vs := [.string (bs ((s_SetStage p_0 p_1 p_2).1.Name)), .slice A35 (((s_SetStage p_0 p_1 p_2).1.Cols).length) c35, .slice A36 (((s_SetStage p_0 p_1 p_2).1.Idxs).length) c36]) Try.ty35 rfl rfl rfl rfl rfl rfl hB47 (Nat.le_of_ble_eq_true rfl) ?_)
   intro w49 hB50 hO51
   have hB50 : Box w49 b43 35 [.string (bs ((s_SetStage p_0 p_1 p_2).1.Name)), .slice A35 (((s_SetStage p_0 p_1 p_2).1.Cols).length) c35, .slice A36 (((s_SetStage p_0 p_1 p_2).1.Idxs).length) c36] := hB50
   have hO51z := hO51.size
   refine sd rfl (yl_assign rfl rfl (SeqR.done (tn (CW.seq (CW.region ?_)))))
   have q55 := Box.only (Box.ex (Box.ex (Box.ex q21 hE28) hE39) hE48) hO51 (by omega)
   refine sd rfl (yl_loadN (cs := [.string (bs (p_0.Name)), .slice A1 p_0.Cols.length c1, .slice A2 p_0.Idxs.length c2]) Try.ty25 rfl rfl (q55.cells (n := 3) rfl) rfl ?_)
   have q59 := RdS.only good_Str (RdS.ex good_Str (RdS.ex good_Str (RdS.ex good_Str q22 hE28) hE39) hE48) hO51 (by simp only [Iv]; omega)
   have q63 := RdS.only good_Idx (RdS.ex good_Idx (RdS.ex good_Idx (RdS.ex good_Idx q23 hE28) hE39) hE48) hO51 (by simp only [Iv]; omega)
   refine sd rfl (yl_call Try.en17 rfl (opvs_cons rfl opvs_nil) (Cal.mono (c_l_toTable p_0 (RdS.up q59 good_Str) (RdS.up q63 good_Idx) ((szok_Table pre0 (by decide) (dec_f hb17)).1)) ?_))
   rintro v67 w64 ⟨A65, c65, lo65, hi65, A66, c66, lo66, hi66, rfl, h65, h66, hrn69, hrn70, hrn71, hE68⟩
   have hE68z := Ex.size hE68
   refine sd rfl (yl_alloc Try.ty35 (cs := [.string (bs (([] : Str))), .slice none 0 0, .slice none 0 0]) rfl rfl ?_)
   intro b72 w73 hs74 hz75 hB76 hE77
   refine SeqR.u rfl rfl (yl_store (vs := [.string (bs (p_0.Name)), .slice A65 p_0.Cols.length c65, .slice A66 p_0.Idxs.length c66]) Try.ty35 rfl rfl rfl rfl rfl rfl hB76 (Nat.le_of_ble_eq_true rfl) ?_)
   intro w78 hB79 hO80
   have hB79 : Box w78 b72 35 [.string (bs (p_0.Name)), .slice A65 p_0.Cols.length c65, .slice A66 p_0.Idxs.length c66] := hB79
   have hO80z := hO80.size
   refine SeqR.done (tn (CW.seq (CW.region (sd rfl (yl_loadN (cs := [.string (bs (p_0.Name)), .slice A65 p_0.Cols.length c65, .slice A66 p_0.Idxs.length c66]) Try.ty35 rfl rfl (hB79.cells (n := 3) rfl) rfl (sd rfl (yl_move rfl rfl (sd rfl (yl_move rfl rfl ?_)))))))))
   have q83 := OwnL.only good_Str (OwnL.ex good_Str h65 hE77) hO80 (by omega)
   have q86 := OwnL.only good_Idx (OwnL.ex good_Idx h66 hE77) hO80 (by omega)
   refine sd rfl (yl_call Try.en49 rfl (opvs_cons rfl (opvs_cons rfl (opvs_cons rfl opvs_nil))) (Cal.mono (c_i_SetStage p_0 p_1 p_2 (RdS.up (OwnL.rd good_Str q83) good_Str) (RdS.up (OwnL.rd good_Idx q86) good_Idx) ((szok_Table pre0 (by decide) (dec_f hb17)).1) (by unfold okS; omega)) ?_))
   rintro v91 w87 ⟨A88, c88, lo88, hi88, A89, c89, lo89, hi89, rfl, h88, h89, ho90, hrn93, hrn94, hrn95, hE92⟩
   have hE92z := Ex.size hE92
   refine sd rfl (yl_move rfl rfl (sd rfl (yl_extract rfl rfl rfl (sd rfl (yl_extract rfl rfl rfl (sd rfl (yl_alloc Try.ty35 (cs := [.string (bs (([] : Str))), .slice none 0 0, .slice none 0 0]) rfl rfl ?_)))))))
   intro b96 w97 hs98 hz99 hB100 hE101
   refine SeqR.u rfl rfl (yl_store (vs := [.string (bs ((i_SetStage p_0 p_1 p_2).1.Name)), .slice A88 (((i_SetStage p_0 p_1 p_2).1.Cols).length) c88, .slice A89 (((i_SetStage p_0 p_1 p_2).1.Idxs).length) c89]) Try.ty35 rfl rfl rfl rfl rfl rfl hB100 (Nat.le_of_ble_eq_true rfl) ?_)
   intro w102 hB103 hO104
   have hB103 : Box w102 b96 35 [.string (bs ((i_SetStage p_0 p_1 p_2).1.Name)), .slice A88 (((i_SetStage p_0 p_1 p_2).1.Cols).length) c88, .slice A89 (((i_SetStage p_0 p_1 p_2).1.Idxs).length) c89] := hB103
   have hO104z := hO104.size
   refine sd rfl (yl_assign rfl rfl (SeqR.done (tn (CW.seq (CW.seq (CW.region (sd rfl (yl_loadN (cs := [.string (bs ((i_SetStage p_0 p_1 p_2).1.Name)), .slice A88 (((i_SetStage p_0 p_1 p_2).1.Cols).length) c88, .slice A89 (((i_SetStage p_0 p_1 p_2).1.Idxs).length) c89]) Try.ty35 rfl rfl (hB103.cells (n := 3) rfl) rfl ?_))))))))
   have q110 := Box.only (Box.ex (Box.ex (Box.only (Box.ex (Box.ex hB50 hE68) hE77) hO80 (by omega)) hE92) hE101) hO104 (by omega)
   refine sd rfl (yl_loadN (cs := [.string (bs ((s_SetStage p_0 p_1 p_2).1.Name)), .slice A35 (((s_SetStage p_0 p_1 p_2).1.Cols).length) c35, .slice A36 (((s_SetStage p_0 p_1 p_2).1.Idxs).length) c36]) Try.ty35 rfl rfl (q110.cells (n := 3) rfl) rfl ?_)
   have q113 := OwnL.only good_Str (OwnL.ex good_Str h88 hE101) hO104 (by omega)
   have q116 := OwnL.only good_Idx (OwnL.ex good_Idx h89 hE101) hO104 (by omega)
   have q125 := OwnL.only good_Str (OwnL.ex good_Str (OwnL.ex good_Str (OwnL.only good_Str (OwnL.ex good_Str (OwnL.ex good_Str (OwnL.only good_Str (OwnL.ex good_Str h35 hE48) hO51 (by omega)) hE68) hE77) hO80 (by omega)) hE92) hE101) hO104 (by omega)
   have q134 := OwnL.only good_Idx (OwnL.ex good_Idx (OwnL.ex good_Idx (OwnL.only good_Idx (OwnL.ex good_Idx (OwnL.ex good_Idx (OwnL.only good_Idx (OwnL.ex good_Idx h36 hE48) hO51 (by omega)) hE68) hE77) hO80 (by omega)) hE92) hE101) hO104 (by omega)
   refine sd rfl (yl_call Try.en20 rfl (opvs_cons rfl (opvs_cons rfl opvs_nil)) (Cal.mono (c_l_eqTable ((i_SetStage p_0 p_1 p_2).1) ((s_SetStage p_0 p_1 p_2).1) (RdS.up (OwnL.rd good_Str q113) good_Str) (RdS.up (OwnL.rd good_Idx q116) good_Idx) (RdS.up (OwnL.rd good_Str q125) good_Str) (RdS.up (OwnL.rd good_Idx q134) good_Idx)) ?_))
   rintro v136 w135 ⟨rfl, hE137⟩
   have hE137z := Ex.size hE137
   refine sd rfl (yl_not rfl rfl (sd rfl (yl_move rfl rfl (bcase (l_eqTable ((i_SetStage p_0 p_1 p_2).1) ((s_SetStage p_0 p_1 p_2).1)) (fun hb138 => ?_) (fun hb138 => ?_)))))
   ·refine sy rfl rfl (not_t hb138) (yl_move rfl rfl (sy rfl rfl (not_t hb138) (yl_move rfl rfl (sy rfl rfl (not_t hb138) (yl_bneq Try.un4 rfl rfl rfl (sd rfl (yl_pick_f rfl rfl (not_t hb138) rfl (SeqR.done (tn (bcase (((i_SetStage p_0 p_1 p_2).2) == ((s_SetStage p_0 p_1 p_2).2)) (fun hb139 => ?_) (fun hb139 => ?_)))))))))))
    ·refine CW.cond_f rfl (not_t hb139) (CW.skip (tn (CW.seq (CW.seq ?_))))
     have q143 := Box.ex (Box.only (Box.ex (Box.ex hB79 hE92) hE101) hO104 (by omega)) hE137
     have q150 := Box.ex (Box.only (Box.ex (Box.ex (Box.only (Box.ex (Box.ex q55 hE68) hE77) hO80 (by omega)) hE92) hE101) hO104 (by omega)) hE137
     have q157 := RdS.ex good_Str (RdS.only good_Str (RdS.ex good_Str (RdS.ex good_Str (RdS.only good_Str (RdS.ex good_Str (RdS.ex good_Str q59 hE68) hE77) hO80 (by simp only [Iv]; omega)) hE92) hE101) hO104 (by simp only [Iv]; omega)) hE137
     have q164 := RdS.ex good_Idx (RdS.only good_Idx (RdS.ex good_Idx (RdS.ex good_Idx (RdS.only good_Idx (RdS.ex good_Idx (RdS.ex good_Idx q63 hE68) hE77) hO80 (by simp only [Iv]; omega)) hE92) hE101) hO104 (by simp only [Iv]; omega)) hE137
     have q172 := OwnL.ex good_Str (OwnL.only good_Str (OwnL.ex good_Str (OwnL.ex good_Str q83 hE92) hE101) hO104 (by omega)) hE137
     have q177 := OwnL.ex good_Idx (OwnL.only good_Idx (OwnL.ex good_Idx (OwnL.ex good_Idx q86 hE92) hE101) hO104 (by omega)) hE137
     refine CW.drawsI 5 (vgetI [DetI (.agg #[.string (bs (p_0.Name)), .slice A65 p_0.Cols.length c65, .slice A66 p_0.Idxs.length c66]), DetI (.agg #[.string (bs (p_0.Name)), .slice A1 p_0.Cols.length c1, .slice A2 p_0.Idxs.length c2]), fun lo hi v wq => ∃ A166 c166 lo166 hi166 A167 c167 lo167 hi167, v = .agg #[.string (bs (p_0.Name)), .slice A166 p_0.Cols.length c166, .slice A167 p_0.Idxs.length c167] ∧ OwnL wq lo166 hi166 9 1 (RF e_Str) A166 p_0.Cols.length c166 p_0.Cols ∧ OwnL wq lo167 hi167 132 3 (RF e_Idx) A167 p_0.Idxs.length c167 p_0.Idxs ∧ (lo ≤ lo166 ∧ lo166 ≤ hi166 ∧ hi166 ≤ hi) ∧ (lo ≤ lo167 ∧ lo167 ≤ hi167 ∧ hi167 ≤ hi) ∧ (hi166 ≤ lo167 ∨ hi167 ≤ lo166), DetI (.bool ((l_eqTable p_0 p_0))), DetI (.bool (!(l_eqTable p_0 p_0)))]) Try.follows rfl rfl rfl rfl rfl rfl (vgetI_stable ⟨StableI.det _, StableI.det _, (fun _ _ _ _ _ ⟨A166, c166, lo166, hi166, A167, c167, lo167, hi167, hv, h166, h167, hr0, hr1, hr2⟩ e => ⟨A166, c166, lo166, hi166, A167, c167, lo167, hi167, hv, OwnL.ex good_Str h166 e, OwnL.ex good_Idx h167 e, hr0, hr1, hr2⟩), StableI.det _, StableI.det _, trivial⟩) ⟨?_, ?_, ?_, ?_, ?_, trivial⟩ ?_
     ·exact fun _ _ h => os rfl ((yl_loadN (cs := [.string (bs (p_0.Name)), .slice A65 p_0.Cols.length c65, .slice A66 p_0.Idxs.length c66]) Try.ty35 rfl (h.old 10 _ rfl rfl) ((Box.ex q143 h.ex).cells (n := 3) rfl) rfl kI))
     ·exact fun _ _ h => os rfl ((yl_loadN (cs := [.string (bs (p_0.Name)), .slice A1 p_0.Cols.length c1, .slice A2 p_0.Idxs.length c2]) Try.ty25 rfl (h.old 3 _ rfl rfl) ((Box.ex q150 h.ex).cells (n := 3) rfl) rfl kI))
     ·intro L191 w192 hi193
      have hE194 := hi193.ex
      refine OpR.op' rfl (yl_call Try.en17 rfl (opvs_cons (hi193.dt 1 53 rfl rfl rfl) opvs_nil) (Cal.mono (c_l_toTable p_0 (RdS.up (RdS.ex good_Str q157 hE194) good_Str) (RdS.up (RdS.ex good_Idx q164 hE194) good_Idx) ((szok_Table pre0 (by decide) (dec_f hb17)).1)) ?_))
      rintro v201 w198 ⟨A199, c199, lo199, hi199, A200, c200, lo200, hi200, rfl, h199, h200, hrn203, hrn204, hrn205, hE202⟩
      exact ⟨⟨A199, c199, lo199, hi199, A200, c200, lo200, hi200, rfl, h199, h200, hrn203, hrn204, hrn205⟩, hE202⟩
     ·intro L206 w207 hi208
      have hE209 := hi208.ex
      obtain ⟨lo212, hh213, _, hx211, hr214, hr215, hr216, A166_217, c166_218, lo166_219, hi166_220, A167_221, c167_222, lo167_223, hi167_224, rfl, h225, h226, hrn227, hrn228, hrn229⟩ := hi208.dep 2 54 rfl rfl
      refine OpR.op' rfl (yl_call Try.en20 rfl (opvs_cons (hi208.dt 0 52 rfl rfl rfl) (opvs_cons hx211 opvs_nil)) (Cal.mono (c_l_eqTable p_0 p_0 (RdS.up (OwnL.rd good_Str (OwnL.ex good_Str q172 hE209)) good_Str) (RdS.up (OwnL.rd good_Idx (OwnL.ex good_Idx q177 hE209)) good_Idx) (RdS.up (OwnL.rd good_Str h225) good_Str) (RdS.up (OwnL.rd good_Idx h226) good_Idx)) ?_))
      rintro v237 w236 ⟨rfl, hE238⟩
      exact ⟨rfl, hE238⟩
     ·exact fun _ _ h => os rfl ((yl_not rfl (h.dt 3 55 rfl rfl rfl) kI))
     ·intro fl247 fh248 L244 w245 hp246
      have hE249 := hp246.ex
      have hE249z := Ex.size hE249
      have hr259 := hp246.rng 2 rfl
      obtain ⟨_, hx258, A166_260, c166_261, lo166_262, hi166_263, A167_264, c167_265, lo167_266, hi167_267, rfl, h268, h269, hrn270, hrn271, hrn272⟩ := hp246.new 2 54 rfl rfl
      refine SeqR.done (tn (CW.sub (Sub.cons (d := 1) (hp246.old 1 _ rfl rfl) (Sub.cons (d := 2) (hp246.old 2 _ rfl rfl) (Sub.cons (d := 3) (hp246.old 3 _ rfl rfl) (Sub.cons (d := 8) (hp246.old 8 _ rfl rfl) (Sub.cons (d := 9) (hp246.old 9 _ rfl rfl) (Sub.cons (d := 10) (hp246.old 10 _ rfl rfl) (Sub.cons (d := 11) (hp246.old 11 _ rfl rfl) (Sub.cons (d := 12) (hp246.old 12 _ rfl rfl) (Sub.cons (d := 56) (hp246.nt 4 56 rfl rfl rfl) (Sub.nil _)))))))))) (bcase (l_eqTable p_0 p_0) (fun hb274 => ?_) (fun hb274 => ?_))))
      ·refine CW.cond_f rfl (not_t hb274) (CW.skip (tn (CW.seq (CW.region (sd rfl (yl_assign rfl rfl (SeqR.done (tn (CW.seq ?_)))))))))
       refine CW.region (sd rfl (yl_loadN (cs := [.string (bs (p_0.Name)), .slice A65 p_0.Cols.length c65, .slice A66 p_0.Idxs.length c66]) Try.ty35 rfl rfl ((Box.ex q143 hE249).cells (n := 3) rfl) rfl (sd rfl (yl_move rfl rfl (sd rfl (yl_call Try.en50 rfl (opvs_cons rfl (opvs_cons rfl opvs_nil)) (Cal.mono (c_l_markTable p_0 1 (OwnL.ex good_Str q172 hE249) (OwnL.ex good_Idx q177 hE249) (by omega) (by omega) (by omega) (by first | omega | assumption | (simp only [IntKind.wrap_i64] at *; omega))) ?_)))))))
       rintro v279 w278 ⟨rfl, h281, h282, hm280⟩
       have hm280z := Mut.size hm280
       have hrf283 := rf_markTable p_0 1 (by first | omega | assumption | (simp only [IntKind.wrap_i64] at *; omega))
       refine sd rfl (yl_assign rfl rfl (SeqR.done (tn (CW.seq (CW.seq (CW.region (sd rfl (yl_move rfl rfl (sd rfl (yl_lss rfl rfl rfl (sd rfl (yl_move rfl rfl ?_))))))))))))
       refine bcase (decide (((l_markTable p_0 1).1) < 0)) (fun hb284 => ?_) (fun hb284 => ?_)
       ·have hb284p := dec_t hb284
        refine sz rfl rfl hb284 (sz rfl rfl hb284 (sz rfl rfl hb284 (sz rfl rfl hb284 (sd rfl (yl_pick_t rfl rfl hb284 rfl (sd rfl (yl_move rfl rfl (sz rfl rfl rfl (sz rfl rfl rfl (sz rfl rfl rfl ?_))))))))))
        refine sd rfl (yl_pick_t rfl rfl rfl rfl (SeqR.done (tn (CW.cond_t rfl rfl (CW.seq (CW.region (sd rfl (yl_assign rfl rfl (SeqR.done (tn ?_))))))))))
        refine CW.ret (tr (rr rfl (.cons rfl .nil) ?_))
        have hM285 : (l_FnExactSetStage p_0 p_1 p_2) = (false) := by simp only [l_FnExactSetStage, hb9, hb17, hb138, hb139, hb274, hb284, cond_true, cond_false, loopE_done, loopE_ret]
        rw [hM285]
        exact ⟨rfl, (Ex.mut (Ex.trans (Ex.trans (Below.only (Ex.trans (Ex.trans (Below.only (Ex.trans (Ex.trans (Below.only (Ex.trans (Ex.trans (Ex.trans (Ex.trans (Ex.trans (Ex.refl w) hE8) hE16) hE28) hE39) hE48) hO51 (by omega)) hE68) hE77) hO80 (by omega)) hE92) hE101) hO104 (by omega)) hE137) hE249) hm280 (fun k hk => by simp only [InR, or_false] at hk; omega))⟩
       ·have hb284p := dec_f hb284
        have q303 := Box.mut (Box.ex (Box.ex hB103 hE137) hE249) hm280 (fun k hk => by simp only [InR, or_false] at hk; omega)
        refine sy rfl rfl hb284 (yl_loadN (cs := [.string (bs ((i_SetStage p_0 p_1 p_2).1.Name)), .slice A88 (((i_SetStage p_0 p_1 p_2).1.Cols).length) c88, .slice A89 (((i_SetStage p_0 p_1 p_2).1.Idxs).length) c89]) Try.ty35 rfl rfl (q303.cells (n := 3) rfl) rfl ?_)
        have q306 := Box.mut (Box.ex (Box.ex q110 hE137) hE249) hm280 (fun k hk => by simp only [InR, or_false] at hk; omega)
        refine sy rfl rfl hb284 (yl_loadN (cs := [.string (bs ((s_SetStage p_0 p_1 p_2).1.Name)), .slice A35 (((s_SetStage p_0 p_1 p_2).1.Cols).length) c35, .slice A36 (((s_SetStage p_0 p_1 p_2).1.Idxs).length) c36]) Try.ty35 rfl rfl (q306.cells (n := 3) rfl) rfl ?_)
        have q310 := OwnL.mut good_Str (OwnL.ex good_Str (OwnL.ex good_Str q113 hE137) hE249) hm280 (fun k hk => by simp only [InR, or_false] at hk; omega)
        have q314 := OwnL.mut good_Idx (OwnL.ex good_Idx (OwnL.ex good_Idx q116 hE137) hE249) hm280 (fun k hk => by simp only [InR, or_false] at hk; omega)
        have q318 := OwnL.mut good_Str (OwnL.ex good_Str (OwnL.ex good_Str q125 hE137) hE249) hm280 (fun k hk => by simp only [InR, or_false] at hk; omega)
        have q322 := OwnL.mut good_Idx (OwnL.ex good_Idx (OwnL.ex good_Idx q134 hE137) hE249) hm280 (fun k hk => by simp only [InR, or_false] at hk; omega)
        refine sy rfl rfl hb284 (yl_call Try.en20 rfl (opvs_cons rfl (opvs_cons rfl opvs_nil)) (Cal.mono (c_l_eqTable ((i_SetStage p_0 p_1 p_2).1) ((s_SetStage p_0 p_1 p_2).1) (RdS.up (OwnL.rd good_Str q310) good_Str) (RdS.up (OwnL.rd good_Idx q314) good_Idx) (RdS.up (OwnL.rd good_Str q318) good_Str) (RdS.up (OwnL.rd good_Idx q322) good_Idx)) ?_))
        rintro v324 w323 ⟨rfl, hE325⟩
        have hE325z := Ex.size hE325
        refine sy rfl rfl hb284 (yl_not rfl rfl (sd rfl (yl_pick_f rfl rfl hb284 rfl (sd rfl (yl_move rfl rfl (sy rfl rfl (not_t hb138) (yl_move rfl rfl (sy rfl rfl (not_t hb138) (yl_move rfl rfl (sy rfl rfl (not_t hb138) (yl_bneq Try.un4 rfl rfl rfl (sd rfl (yl_pick_f rfl rfl (not_t hb138) rfl (SeqR.done (tn ?_)))))))))))))))
        refine CW.cond_f rfl (not_t hb139) (CW.skip (tn (CW.seq (CW.region (sd rfl (yl_assign rfl rfl (SeqR.done (tn (CW.seq ?_)))))))))
        refine CW.region ?_
        have q326 := Box.ex q303 hE325
        refine sd rfl (yl_loadN (cs := [.string (bs ((i_SetStage p_0 p_1 p_2).1.Name)), .slice A88 (((i_SetStage p_0 p_1 p_2).1.Cols).length) c88, .slice A89 (((i_SetStage p_0 p_1 p_2).1.Idxs).length) c89]) Try.ty35 rfl rfl (q326.cells (n := 3) rfl) rfl (sd rfl (yl_move rfl rfl (sd rfl (yl_call Try.en50 rfl (opvs_cons rfl (opvs_cons rfl opvs_nil)) (Cal.mono (c_l_markTable ((i_SetStage p_0 p_1 p_2).1) 1 (OwnL.ex good_Str q310 hE325) (OwnL.ex good_Idx q314 hE325) (by omega) (by omega) (by omega) (by first | omega | assumption | (simp only [IntKind.wrap_i64] at *; omega))) ?_))))))
        rintro v330 w329 ⟨rfl, h332, h333, hm331⟩
        have hm331z := Mut.size hm331
        have hrf334 := rf_markTable ((i_SetStage p_0 p_1 p_2).1) 1 (by first | omega | assumption | (simp only [IntKind.wrap_i64] at *; omega))
        refine sd rfl (yl_assign rfl rfl (SeqR.done (tn (CW.seq (CW.region (sd rfl (yl_assign rfl rfl (SeqR.done (tn (CW.seq ?_))))))))))
        refine CW.region ?_
        have q335 := Box.mut q326 hm331 (fun k hk => by simp only [InR, or_false] at hk; omega)
        refine sd rfl (yl_loadN (cs := [.string (bs ((i_SetStage p_0 p_1 p_2).1.Name)), .slice A88 (((i_SetStage p_0 p_1 p_2).1.Cols).length) c88, .slice A89 (((i_SetStage p_0 p_1 p_2).1.Idxs).length) c89]) Try.ty35 rfl rfl (q335.cells (n := 3) rfl) rfl (sd rfl (yl_move rfl rfl ?_)))
        have hle336 := OwnL.len h332
        have hle338 := OwnL.len h333
        refine sd rfl (yl_call Try.en51 rfl (opvs_cons rfl (opvs_cons rfl opvs_nil)) (Cal.mono (Cal.args (by rw [← hle336, ← hle338]) (c_l_heldTable (⟨(i_SetStage p_0 p_1 p_2).1.Name, (l_markTable ((i_SetStage p_0 p_1 p_2).1) 1).2.Cols, (l_markTable ((i_SetStage p_0 p_1 p_2).1) 1).2.Idxs⟩ : DTable) 1 (RdS.fix (RdS.up (OwnL.rd good_Str h332) good_Str)) (RdS.fix (RdS.up (OwnL.rd good_Idx h333) good_Idx)) (by first | omega | assumption | (simp only [IntKind.wrap_i64] at *; omega)))) ?_))
        rintro v341 w340 ⟨rfl, hE342⟩
        have hE342z := Ex.size hE342
        have hrf343 := rf_heldTable (⟨(i_SetStage p_0 p_1 p_2).1.Name, (l_markTable ((i_SetStage p_0 p_1 p_2).1) 1).2.Cols, (l_markTable ((i_SetStage p_0 p_1 p_2).1) 1).2.Idxs⟩ : DTable) 1 (by first | omega | assumption | (simp only [IntKind.wrap_i64] at *; omega))
        refine sd rfl (yl_assign rfl rfl (SeqR.done (tn (CW.seq (CW.seq (CW.region (sd rfl (yl_move rfl rfl (sd rfl (yl_lss rfl rfl rfl (SeqR.done ?_)))))))))))
        refine tn (bcase (decide ((l_heldTable (⟨(i_SetStage p_0 p_1 p_2).1.Name, (l_markTable ((i_SetStage p_0 p_1 p_2).1) 1).2.Cols, (l_markTable ((i_SetStage p_0 p_1 p_2).1) 1).2.Idxs⟩ : DTable) 1) < 0)) (fun hb344 => ?_) (fun hb344 => ?_))
        ·have hb344p := dec_t hb344
         refine CW.cond_t rfl hb344 (CW.seq (CW.region (sd rfl (yl_assign rfl rfl (SeqR.done (tn (CW.ret (tr (rr rfl (.cons rfl .nil) ?_)))))))))
         have hM345 : (l_FnExactSetStage p_0 p_1 p_2) = (false) := by simp only [l_FnExactSetStage, hb9, hb17, hb138, hb139, hb274, hb284, hb344, cond_true, cond_false, loopE_done, loopE_ret]
         rw [hM345]
         have q362 := Ex.mut (Ex.trans (Ex.mut (Ex.trans (Ex.trans (Below.only (Ex.trans (Ex.trans (Below.only (Ex.trans (Ex.trans (Below.only (Ex.trans (Ex.trans (Ex.trans (Ex.trans (Ex.trans (Ex.refl w) hE8) hE16) hE28) hE39) hE48) hO51 (by omega)) hE68) hE77) hO80 (by omega)) hE92) hE101) hO104 (by omega)) hE137) hE249) hm280 (fun k hk => by simp only [InR, or_false] at hk; omega)) hE325) hm331 (fun k hk => by simp only [InR, or_false] at hk; omega)
         exact ⟨rfl, (Ex.trans q362 hE342)⟩
        ·have hb344p := dec_f hb344
         refine CW.cond_f rfl hb344 (CW.skip (tn (CW.seq (CW.seq (CW.region (sd rfl (yl_move rfl rfl (sd rfl (yl_move rfl rfl (sd rfl (yl_neq rfl rfl rfl ?_)))))))))))
         refine SeqR.done (tn (bcase (decide ((l_heldTable (⟨(i_SetStage p_0 p_1 p_2).1.Name, (l_markTable ((i_SetStage p_0 p_1 p_2).1) 1).2.Cols, (l_markTable ((i_SetStage p_0 p_1 p_2).1) 1).2.Idxs⟩ : DTable) 1) = ((l_markTable ((i_SetStage p_0 p_1 p_2).1) 1).1))) (fun hb364 => ?_) (fun hb364 => ?_)))
         ·have hb364p := dec_t hb364
          refine CW.cond_f rfl (not_t hb364) (CW.skip (tn (CW.seq (CW.region (sd rfl (yl_loadN (cs := [.string (bs (p_0.Name)), .slice A1 p_0.Cols.length c1, .slice A2 p_0.Idxs.length c2]) Try.ty25 rfl rfl ((Box.ex (Box.mut (Box.ex (Box.mut (Box.ex q150 hE249) hm280 (fun k hk => by simp only [InR, or_false] at hk; omega)) hE325) hm331 (fun k hk => by simp only [InR, or_false] at hk; omega)) hE342).cells (n := 3) rfl) rfl (sd rfl (yl_call Try.en17 rfl (opvs_cons rfl opvs_nil) (Cal.mono (c_l_toTable p_0 (RdS.up (RdS.ex good_Str (RdS.mut good_Str (RdS.ex good_Str (RdS.mut good_Str (RdS.ex good_Str q157 hE249) hm280 (fun k hk => by simp only [InR, or_false, Iv, Ge] at hk ⊢; omega)) hE325) hm331 (fun k hk => by simp only [InR, or_false, Iv, Ge] at hk ⊢; omega)) hE342) good_Str) (RdS.up (RdS.ex good_Idx (RdS.mut good_Idx (RdS.ex good_Idx (RdS.mut good_Idx (RdS.ex good_Idx q164 hE249) hm280 (fun k hk => by simp only [InR, or_false, Iv, Ge] at hk ⊢; omega)) hE325) hm331 (fun k hk => by simp only [InR, or_false, Iv, Ge] at hk ⊢; omega)) hE342) good_Idx) ((szok_Table pre0 (by decide) (dec_f hb17)).1)) ?_)))))))))
          rintro v383 w380 ⟨A381, c381, lo381, hi381, A382, c382, lo382, hi382, rfl, h381, h382, hrn385, hrn386, hrn387, hE384⟩
          have hE384z := Ex.size hE384
          refine sd rfl (yl_move rfl rfl (sd rfl (yl_move rfl rfl (sd rfl (yl_call Try.en49 rfl (opvs_cons rfl (opvs_cons rfl (opvs_cons rfl opvs_nil))) (Cal.mono (c_i_SetStage p_0 p_1 p_2 (RdS.up (OwnL.rd good_Str h381) good_Str) (RdS.up (OwnL.rd good_Idx h382) good_Idx) ((szok_Table pre0 (by decide) (dec_f hb17)).1) (by unfold okS; omega)) ?_))))))
          rintro v394 w390 ⟨A391, c391, lo391, hi391, A392, c392, lo392, hi392, rfl, h391, h392, ho393, hrn396, hrn397, hrn398, hE395⟩
          have hE395z := Ex.size hE395
          refine sd rfl (yl_move rfl rfl (sd rfl (yl_extract rfl rfl rfl (sd rfl (yl_extract rfl rfl rfl (sd rfl (yl_alloc Try.ty35 (cs := [.string (bs (([] : Str))), .slice none 0 0, .slice none 0 0]) rfl rfl ?_)))))))
          intro b399 w400 hs401 hz402 hB403 hE404
          refine SeqR.u rfl rfl (yl_store (vs := [.string (bs ((i_SetStage p_0 p_1 p_2).1.Name)), .slice A391 (((i_SetStage p_0 p_1 p_2).1.Cols).length) c391, .slice A392 (((i_SetStage p_0 p_1 p_2).1.Idxs).length) c392]) Try.ty35 rfl rfl rfl rfl rfl rfl hB403 (Nat.le_of_ble_eq_true rfl) ?_)
          intro w405 hB406 hO407
          have hB406 : Box w405 b399 35 [.string (bs ((i_SetStage p_0 p_1 p_2).1.Name)), .slice A391 (((i_SetStage p_0 p_1 p_2).1.Cols).length) c391, .slice A392 (((i_SetStage p_0 p_1 p_2).1.Idxs).length) c392] := hB406
          have hO407z := hO407.size
          refine sd rfl (yl_assign rfl rfl (SeqR.done (tn (CW.seq (CW.seq (CW.region (sd rfl (yl_loadN (cs := [.string (bs ((i_SetStage p_0 p_1 p_2).1.Name)), .slice A391 (((i_SetStage p_0 p_1 p_2).1.Cols).length) c391, .slice A392 (((i_SetStage p_0 p_1 p_2).1.Idxs).length) c392]) Try.ty35 rfl rfl (hB406.cells (n := 3) rfl) rfl (sd rfl (yl_loadN (cs := [.string (bs ((s_SetStage p_0 p_1 p_2).1.Name)), .slice A35 (((s_SetStage p_0 p_1 p_2).1.Cols).length) c35, .slice A36 (((s_SetStage p_0 p_1 p_2).1.Idxs).length) c36]) Try.ty35 rfl rfl ((Box.only (Box.ex (Box.ex (Box.ex (Box.ex (Box.mut (Box.ex q306 hE325) hm331 (fun k hk => by simp only [InR, or_false] at hk; omega)) hE342) hE384) hE395) hE404) hO407 (by omega)).cells (n := 3) rfl) rfl (sd rfl (yl_call Try.en20 rfl (opvs_cons rfl (opvs_cons rfl opvs_nil)) (Cal.mono (c_l_eqTable ((i_SetStage p_0 p_1 p_2).1) ((s_SetStage p_0 p_1 p_2).1) (RdS.up (OwnL.rd good_Str (OwnL.only good_Str (OwnL.ex good_Str h391 hE404) hO407 (by omega))) good_Str) (RdS.up (OwnL.rd good_Idx (OwnL.only good_Idx (OwnL.ex good_Idx h392 hE404) hO407 (by omega))) good_Idx) (RdS.up (OwnL.rd good_Str (OwnL.only good_Str (OwnL.ex good_Str (OwnL.ex good_Str (OwnL.ex good_Str (OwnL.ex good_Str (OwnL.mut good_Str (OwnL.ex good_Str q318 hE325) hm331 (fun k hk => by simp only [InR, or_false] at hk; omega)) hE342) hE384) hE395) hE404) hO407 (by omega))) good_Str) (RdS.up (OwnL.rd good_Idx (OwnL.only good_Idx (OwnL.ex good_Idx (OwnL.ex good_Idx (OwnL.ex good_Idx (OwnL.ex good_Idx (OwnL.mut good_Idx (OwnL.ex good_Idx q322 hE325) hm331 (fun k hk => by simp only [InR, or_false] at hk; omega)) hE342) hE384) hE395) hE404) hO407 (by omega))) good_Idx)) ?_)))))))))))))
          rintro v438 w437 ⟨rfl, hE439⟩
          have hE439z := Ex.size hE439
          refine sd rfl (yl_not rfl rfl (sd rfl (yl_move rfl rfl (sy rfl rfl (not_t hb138) (yl_move rfl rfl (sy rfl rfl (not_t hb138) (yl_move rfl rfl (sy rfl rfl (not_t hb138) (yl_bneq Try.un4 rfl rfl rfl (sd rfl (yl_pick_f rfl rfl (not_t hb138) rfl (SeqR.done (tn (CW.cond_f rfl (not_t hb139) ?_))))))))))))))
          refine CW.skip (tn (CW.seq (CW.region (sd rfl (yl_assign rfl rfl (SeqR.done (tn (CW.seq (CW.region ?_)))))))))
          refine sd rfl (yl_loadN (cs := [.string (bs ((i_SetStage p_0 p_1 p_2).1.Name)), .slice A88 (((i_SetStage p_0 p_1 p_2).1.Cols).length) c88, .slice A89 (((i_SetStage p_0 p_1 p_2).1.Idxs).length) c89]) Try.ty35 rfl rfl ((Box.ex (Box.only (Box.ex (Box.ex (Box.ex (Box.ex q335 hE342) hE384) hE395) hE404) hO407 (by omega)) hE439).cells (n := 3) rfl) rfl (sd rfl (yl_move rfl rfl ?_)))
          have q452 := OwnL.ex good_Str (OwnL.only good_Str (OwnL.ex good_Str (OwnL.ex good_Str (OwnL.ex good_Str (OwnL.ex good_Str h332 hE342) hE384) hE395) hE404) hO407 (by omega)) hE439
          have hle446 := OwnL.len q452
          have q460 := OwnL.ex good_Idx (OwnL.only good_Idx (OwnL.ex good_Idx (OwnL.ex good_Idx (OwnL.ex good_Idx (OwnL.ex good_Idx h333 hE342) hE384) hE395) hE404) hO407 (by omega)) hE439
          have hle454 := OwnL.len q460
          refine sd rfl (yl_call Try.en51 rfl (opvs_cons rfl (opvs_cons rfl opvs_nil)) (Cal.mono (Cal.args (by rw [← hle446, ← hle454]) (c_l_heldTable (⟨(i_SetStage p_0 p_1 p_2).1.Name, (l_markTable ((i_SetStage p_0 p_1 p_2).1) 1).2.Cols, (l_markTable ((i_SetStage p_0 p_1 p_2).1) 1).2.Idxs⟩ : DTable) 1 (RdS.fix (RdS.up (OwnL.rd good_Str q452) good_Str)) (RdS.fix (RdS.up (OwnL.rd good_Idx q460) good_Idx)) (by first | omega | assumption | (simp only [IntKind.wrap_i64] at *; omega)))) ?_))
          rintro v463 w462 ⟨rfl, hE464⟩
          have hE464z := Ex.size hE464
          have hrf465 := rf_heldTable (⟨(i_SetStage p_0 p_1 p_2).1.Name, (l_markTable ((i_SetStage p_0 p_1 p_2).1) 1).2.Cols, (l_markTable ((i_SetStage p_0 p_1 p_2).1) 1).2.Idxs⟩ : DTable) 1 (by first | omega | assumption | (simp only [IntKind.wrap_i64] at *; omega))
          refine sd rfl (yl_assign rfl rfl (SeqR.done (tn (CW.seq (CW.seq (CW.region (sd rfl (yl_move rfl rfl (sd rfl (yl_lss rfl rfl rfl (SeqR.done ?_)))))))))))
          refine tn (CW.cond_f rfl hb344 (CW.skip (tn (CW.seq (CW.seq (CW.region (sd rfl (yl_move rfl rfl (sd rfl (yl_move rfl rfl ?_))))))))))
          refine sd rfl (yl_neq rfl rfl rfl (SeqR.done (tn (CW.cond_f rfl (not_t hb364) (CW.skip (tn (CW.seq (CW.region (sd rfl (yl_assign rfl rfl ?_))))))))))
          refine SeqR.done (tn (CW.ret (rr rfl (.cons rfl .nil) ?_)))
          have hM466 : (l_FnExactSetStage p_0 p_1 p_2) = (true) := by simp only [l_FnExactSetStage, hb9, hb17, hb138, hb139, hb274, hb284, hb344, hb364, cond_true, cond_false, loopE_done, loopE_ret]
          rw [hM466]
          have q483 := Ex.mut (Ex.trans (Ex.mut (Ex.trans (Ex.trans (Below.only (Ex.trans (Ex.trans (Below.only (Ex.trans (Ex.trans (Below.only (Ex.trans (Ex.trans (Ex.trans (Ex.trans (Ex.trans (Ex.refl w) hE8) hE16) hE28) hE39) hE48) hO51 (by omega)) hE68) hE77) hO80 (by omega)) hE92) hE101) hO104 (by omega)) hE137) hE249) hm280 (fun k hk => by simp only [InR, or_false] at hk; omega)) hE325) hm331 (fun k hk => by simp only [InR, or_false] at hk; omega)
          exact ⟨rfl, (Ex.trans (Ex.trans (Below.only (Ex.trans (Ex.trans (Ex.trans (Ex.trans q483 hE342) hE384) hE395) hE404) hO407 (by omega)) hE439) hE464)⟩
         ·have hb364p := dec_f hb364
          refine CW.cond_t rfl (not_f hb364) (CW.seq (CW.region (sd rfl (yl_assign rfl rfl (SeqR.done (tn (CW.ret (tr (rr rfl (.cons rfl .nil) ?_)))))))))
          have hM491 : (l_FnExactSetStage p_0 p_1 p_2) = (false) := by simp only [l_FnExactSetStage, hb9, hb17, hb138, hb139, hb274, hb284, hb344, hb364, cond_true, cond_false, loopE_done, loopE_ret]
          rw [hM491]
          have q508 := Ex.mut (Ex.trans (Ex.mut (Ex.trans (Ex.trans (Below.only (Ex.trans (Ex.trans (Below.only (Ex.trans (Ex.trans (Below.only (Ex.trans (Ex.trans (Ex.trans (Ex.trans (Ex.trans (Ex.refl w) hE8) hE16) hE28) hE39) hE48) hO51 (by omega)) hE68) hE77) hO80 (by omega)) hE92) hE101) hO104 (by omega)) hE137) hE249) hm280 (fun k hk => by simp only [InR, or_false] at hk; omega)) hE325) hm331 (fun k hk => by simp only [InR, or_false] at hk; omega)
          exact ⟨rfl, (Ex.trans q508 hE342)⟩
      ·refine CW.cond_t rfl (not_f hb274) (CW.seq (CW.region (sd rfl (yl_assign rfl rfl (SeqR.done (tn (CW.ret (tr (rr rfl (.cons rfl .nil) ?_)))))))))
       have hM510 : (l_FnExactSetStage p_0 p_1 p_2) = (false) := by simp only [l_FnExactSetStage, hb9, hb17, hb138, hb139, hb274, cond_true, cond_false, loopE_done, loopE_ret]
       rw [hM510]
       exact ⟨rfl, (Ex.trans (Ex.trans (Below.only (Ex.trans (Ex.trans (Below.only (Ex.trans (Ex.trans (Below.only (Ex.trans (Ex.trans (Ex.trans (Ex.trans (Ex.trans (Ex.refl w) hE8) hE16) hE28) hE39) hE48) hO51 (by omega)) hE68) hE77) hO80 (by omega)) hE92) hE101) hO104 (by omega)) hE137) hE249)⟩
    ·refine CW.cond_t rfl (not_f hb139) (CW.seq (CW.region (sd rfl (yl_assign rfl rfl (SeqR.done (tn (CW.ret (tr (rr rfl (.cons rfl .nil) ?_)))))))))
     have hM525 : (l_FnExactSetStage p_0 p_1 p_2) = (false) := by simp only [l_FnExactSetStage, hb9, hb17, hb138, hb139, cond_true, cond_false, loopE_done, loopE_ret]
     rw [hM525]
     exact ⟨rfl, (Ex.trans (Below.only (Ex.trans (Ex.trans (Below.only (Ex.trans (Ex.trans (Below.only (Ex.trans (Ex.trans (Ex.trans (Ex.trans (Ex.trans (Ex.refl w) hE8) hE16) hE28) hE39) hE48) hO51 (by omega)) hE68) hE77) hO80 (by omega)) hE92) hE101) hO104 (by omega)) hE137)⟩
   ·refine sz rfl rfl (not_f hb138) (sz rfl rfl (not_f hb138) (sz rfl rfl (not_f hb138) (sd rfl (yl_pick_t rfl rfl (not_f hb138) rfl (SeqR.done (tn (CW.cond_t rfl rfl (CW.seq (CW.region ?_)))))))))
    refine sd rfl (yl_assign rfl rfl (SeqR.done (tn (CW.ret (tr (rr rfl (.cons rfl .nil) ?_))))))
    have hM539 : (l_FnExactSetStage p_0 p_1 p_2) = (false) := by simp only [l_FnExactSetStage, hb9, hb17, hb138, cond_true, cond_false, loopE_done, loopE_ret]
    rw [hM539]
    exact ⟨rfl, (Ex.trans (Below.only (Ex.trans (Ex.trans (Below.only (Ex.trans (Ex.trans (Below.only (Ex.trans (Ex.trans (Ex.trans (Ex.trans (Ex.trans (Ex.refl w) hE8) hE16) hE28) hE39) hE48) hO51 (by omega)) hE68) hE77) hO80 (by omega)) hE92) hE101) hO104 (by omega)) hE137)⟩
end Go.Proofs.Ytmlfbjlkccnpmaa
