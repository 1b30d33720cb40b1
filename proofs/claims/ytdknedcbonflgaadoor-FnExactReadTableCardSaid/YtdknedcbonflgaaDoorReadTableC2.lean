/- Read Table: what each call returns, part 2. -/
import Derived.Test.YtdknedcbonflgaaDoorReadTableC1
set_option maxRecDepth 100000
set_option maxHeartbeats 2000000
open Go.Proofs.Tryd Go.Proofs.YtdknedcbonflgaaDoor.Tryd
set_option linter.unusedVariables false
set_option linter.unusedSimpArgs false
namespace Go.Proofs.YtdknedcbonflgaaDoor
open Go.RowKit Go.X
theorem c_i_ReadTable {w : World} (p_0 : Str) (o1 : okS p_0) (hgb : GB 1 2 w) : Cal Tryd.prog 5 #[.string (bs (p_0))] w fun v w' => ∃ A_1 c_1 lo_1 hi_1 A_2 c_2 lo_2 hi_2, v = .tuple #[.agg #[.string (bs ((i_ReadTable p_0).1.Name)), .slice A_1 (((i_ReadTable p_0).1.Cols).length) c_1, .slice A_2 (((i_ReadTable p_0).1.Idxs).length) c_2], .bool ((i_ReadTable p_0).2)] ∧ OwnL w' lo_1 hi_1 9 1 (RF e_Str) A_1 (((i_ReadTable p_0).1.Cols).length) c_1 ((i_ReadTable p_0).1.Cols) ∧ OwnL w' lo_2 hi_2 33 3 (RF e_Idx) A_2 (((i_ReadTable p_0).1.Idxs).length) c_2 ((i_ReadTable p_0).1.Idxs) ∧ ok_Table ((i_ReadTable p_0).1) ∧ (w.heap.size ≤ lo_1 ∧ lo_1 ≤ hi_1 ∧ hi_1 ≤ w'.heap.size) ∧ (w.heap.size ≤ lo_2 ∧ lo_2 ≤ hi_2 ∧ hi_2 ≤ w'.heap.size) ∧ (hi_1 ≤ lo_2 ∨ hi_2 ≤ lo_1) ∧ Ex w w' := by
 have hol2 : p_0.length ≤ 1073741824 := o1
 have hcut := rf_Cut p_0 ([41] : Str)
 refine Cal.of func5 rfl ntmps5 rfl (CW.seq (CW.region (sd rfl (yl_alloc ty25 (cs := [.string (bs (([] : Str))), .slice none 0 0, .slice none 0 0]) rfl rfl ?_))))
 intro b3 w4 hs5 hz6 hB7 hE8
 refine sd rfl (yl_assign rfl rfl (dn (CW.seq (CW.region (sd rfl (yl_move rfl rfl (sd rfl (yl_call en13 rfl (oc rfl (oc rfl oz)) (Cal.mono (c_g_strings_Cut p_0 ([41] : Str) o1 (okS.lit rfl) rfl) ?_)))))))))
 rintro v12 w9 ⟨rfl, ho10, ho11, hE13⟩
 have hE13z := Ex.size hE13
 refine sd rfl (yl_move rfl rfl (sd rfl (yl_extract rfl rfl rfl (sd rfl (yl_extract rfl rfl rfl (sd rfl (yl_extract rfl rfl rfl (sd rfl (yl_assign rfl rfl (sd rfl (yl_assign rfl rfl (sd rfl (yl_assign rfl rfl (dn ?_))))))))))))))
 refine CW.seq (CW.region (sd rfl (yl_move rfl rfl (sd rfl (yl_call en13 rfl (oc rfl (oc rfl oz)) (Cal.mono (c_g_strings_Cut ((g_strings_Cut p_0 ([41] : Str)).1) ([40] : Str) ho10 (okS.lit rfl) rfl) ?_))))))
 rintro v17 w14 ⟨rfl, ho15, ho16, hE18⟩
 have hE18z := Ex.size hE18
 refine sd rfl (yl_move rfl rfl (sd rfl (yl_extract rfl rfl rfl (sd rfl (yl_extract rfl rfl rfl (sd rfl (yl_extract rfl rfl rfl (sd rfl (yl_assign rfl rfl (sd rfl (yl_assign rfl rfl (sd rfl (yl_assign rfl rfl (dn ?_))))))))))))))
 refine CW.seq (CW.region (sd rfl (yl_move rfl rfl (sd rfl (yl_move rfl rfl (sd rfl (yl_call en14 rfl (oc rfl (oc rfl oz)) (Cal.mono (c_g_strings_Split ((g_strings_Cut ((g_strings_Cut p_0 ([41] : Str)).1) ([40] : Str)).2.1) ([44] : Str) ho16 (okS.lit rfl) rfl) ?_))))))))
 rintro v22 w19 ⟨A20, c20, lo20, hi20, rfl, h20, ho21, hrn24, hE23⟩
 have hE23z := Ex.size hE23
 have hrf25 := rf_Split ((g_strings_Cut ((g_strings_Cut p_0 ([41] : Str)).1) ([40] : Str)).2.1) ([44] : Str)
 refine sd rfl (yl_build (cs := [.string (bs ((g_strings_Cut ((g_strings_Cut p_0 ([41] : Str)).1) ([40] : Str)).1)), .slice A20 ((g_strings_Split ((g_strings_Cut ((g_strings_Cut p_0 ([41] : Str)).1) ([40] : Str)).2.1) ([44] : Str)).length) c20, .slice none 0 0]) rfl (oc rfl (oc rfl oz)) (by kernel_rfl) (sd rfl (yl_alloc ty25 (cs := [.string (bs (([] : Str))), .slice none 0 0, .slice none 0 0]) rfl rfl ?_)))
 intro b26 w27 hs28 hz29 hB30 hE31
 refine SeqR.u rfl rfl (yl_store (vs := [.string (bs ((g_strings_Cut ((g_strings_Cut p_0 ([41] : Str)).1) ([40] : Str)).1)), .slice A20 ((g_strings_Split ((g_strings_Cut ((g_strings_Cut p_0 ([41] : Str)).1) ([40] : Str)).2.1) ([44] : Str)).length) c20, .slice none 0 0]) ty25 rfl rfl rfl rfl rfl rfl hB30 (Nat.le_of_ble_eq_true rfl) ?_)
 intro w32 hB33 hO34
 have hB33 : Box w32 b26 25 [.string (bs ((g_strings_Cut ((g_strings_Cut p_0 ([41] : Str)).1) ([40] : Str)).1)), .slice A20 ((g_strings_Split ((g_strings_Cut ((g_strings_Cut p_0 ([41] : Str)).1) ([40] : Str)).2.1) ([44] : Str)).length) c20, .slice none 0 0] := hB33
 have hO34z := hO34.size
 refine dn (CW.seq (CW.seq (CW.region (sd rfl (yl_move rfl rfl (sd rfl (yl_call en14 rfl (oc rfl (oc rfl oz)) (Cal.mono (c_g_strings_Split ((g_strings_Cut p_0 ([41] : Str)).2.1) ([32] : Str) ho11 (okS.lit rfl) rfl) ?_))))))))
 rintro v38 w35 ⟨A36, c36, lo36, hi36, rfl, h36, ho37, hrn40, hE39⟩
 have hE39z := Ex.size hE39
 have hrf41 := rf_Split ((g_strings_Cut p_0 ([41] : Str)).2.1) ([32] : Str)
 refine sd rfl (yl_len un22 rfl rfl (sd rfl (yl_move rfl rfl (dn (CW.block (CW.loop (fun m115 L116 w117 => ∃ (k42 : Nat) (x110 : Bool) (x111 : List DIdx) (A112 : Option Addr) (c113 : Nat) (u114 : Nat), m115 = (g_strings_Split ((g_strings_Cut p_0 ([41] : Str)).2.1) ([32] : Str)).length - k42 ∧ k42 ≤ (g_strings_Split ((g_strings_Cut p_0 ([41] : Str)).2.1) ([32] : Str)).length ∧ w35.heap.size ≤ w117.heap.size ∧ lkp L116 0 = some (.string (bs (p_0))) ∧ lkp L116 2 = some (.pointer (some ⟨b3, 0, none⟩)) ∧ lkp L116 6 = some (.bool (x110)) ∧ lkp L116 9 = some (.bool ((g_strings_Cut ((g_strings_Cut p_0 ([41] : Str)).1) ([40] : Str)).2.2)) ∧ lkp L116 10 = some (.pointer (some ⟨b26, 0, none⟩)) ∧ lkp L116 33 = some (.slice A36 ((g_strings_Split ((g_strings_Cut p_0 ([41] : Str)).2.1) ([32] : Str)).length) c36) ∧ lkp L116 34 = some (.int .i64 (((g_strings_Split ((g_strings_Cut p_0 ([41] : Str)).2.1) ([32] : Str)).length : Int))) ∧ lkp L116 35 = some (.int .i64 ((k42 : Int))) ∧ Box w117 b3 25 [.string (bs (([] : Str))), .slice none 0 0, .slice none 0 0] ∧ Box w117 b26 25 [.string (bs ((g_strings_Cut ((g_strings_Cut p_0 ([41] : Str)).1) ([40] : Str)).1)), .slice A20 ((g_strings_Split ((g_strings_Cut ((g_strings_Cut p_0 ([41] : Str)).1) ([40] : Str)).2.1) ([44] : Str)).length) c20, .slice A112 x111.length c113] ∧ OwnL w117 lo20 hi20 9 1 (RF e_Str) A20 ((g_strings_Split ((g_strings_Cut ((g_strings_Cut p_0 ([41] : Str)).1) ([40] : Str)).2.1) ([44] : Str)).length) c20 (g_strings_Split ((g_strings_Cut ((g_strings_Cut p_0 ([41] : Str)).1) ([40] : Str)).2.1) ([44] : Str)) ∧ OwnL w117 w35.heap.size u114 33 3 (RF e_Idx) A112 x111.length c113 x111 ∧ OwnL w117 lo36 hi36 9 1 (RF e_Str) A36 ((g_strings_Split ((g_strings_Cut p_0 ([41] : Str)).2.1) ([32] : Str)).length) c36 (g_strings_Split ((g_strings_Cut p_0 ([41] : Str)).2.1) ([32] : Str)) ∧ Ex w w117 ∧ (w35.heap.size ≤ u114 ∧ u114 ≤ w117.heap.size) ∧ x111.length ≤ 0 + 1 * (k42 - 0) ∧ (∀ y ∈ x111, ok_Idx y) ∧ loopM (B_i_ReadTable_0 p_0) ((g_strings_Split ((g_strings_Cut p_0 ([41] : Str)).2.1) ([32] : Str)).length - k42) k42 (x110, x111) = loopM (B_i_ReadTable_0 p_0) ((g_strings_Split ((g_strings_Cut p_0 ([41] : Str)).2.1) ([32] : Str)).length - 0) 0 ((g_strings_Cut p_0 ([41] : Str)).2.2, ([] : List DIdx))) ((g_strings_Split ((g_strings_Cut p_0 ([41] : Str)).2.1) ([32] : Str)).length - 0) ?_ ?_))))))
 ·exact ⟨0, (g_strings_Cut p_0 ([41] : Str)).2.2, ([] : List DIdx), none, 0, w35.heap.size, rfl, (by omega), Nat.le_refl _, rfl, rfl, rfl, rfl, rfl, rfl, rfl, rfl, (Box.ex (Box.only (Box.ex (Box.ex (Box.ex (Box.ex hB7 hE13) hE18) hE23) hE31) hO34 (by omega)) hE39), (Box.ex hB33 hE39), (OwnL.ex good_Str (OwnL.only good_Str (OwnL.ex good_Str h20 hE31) hO34 (by omega)) hE39), (OwnL.nil w35 w35.heap.size w35.heap.size 33 3 (RF e_Idx)), h36, (Ex.trans (Below.only (Ex.trans (Ex.trans (Ex.trans (Ex.trans (Ex.trans (Ex.refl w) hE8) hE13) hE18) hE23) hE31) hO34 (by omega)) hE39), (by omega), (by first | (simp; done) | (first | omega | (simp only [List.length_append, List.length_cons, List.length_nil, List.length_set, toS_length]; omega))), okE.nil, rfl⟩
 ·rintro m135 L136 w137 ⟨k42, x110, x111, A112, c113, u114, rfl, hk138, hsz140, hl141, hl142, hl143, hl144, hl145, hl146, hl147, hl148, hf149, hf150, hf151, hf152, hf153, hf154, hu155, hln156, hok157, hI139⟩
  refine CW.sub (Sub.cons hl141 (Sub.cons hl142 (Sub.cons hl143 (Sub.cons hl144 (Sub.cons hl145 (Sub.cons hl146 (Sub.cons hl147 (Sub.cons hl148 (Sub.nil _))))))))) ?_
  have hf149z := Box.lt hf149
  have hf150z := Box.lt hf150
  have hf154z := Ex.size hf154
  have hbg158 := RdS.big (OwnL.rd good_Str hf153)
  rcases Nat.lt_or_ge k42 ((g_strings_Split ((g_strings_Cut p_0 ([41] : Str)).2.1) ([32] : Str)).length) with hlt160 | hlt160
  ·refine CW.seq (CW.region (sd rfl (yl_lss rfl rfl rfl (dn (CW.seq (CW.cond_t rfl (lt_t hlt160) (CW.skip (tn ?_))))))))
   refine CW.seq (CW.block (CW.seq (CW.region (sd rfl (yl_move rfl rfl ?_)))))
   obtain ⟨eb162, eo162, _, eA162, _, ebl162, _, eR162, eC162⟩ := RdS.aD (OwnL.rd good_Str hf153) d_Str (i := k42)
   obtain rfl := eR162
   have eC162 : Cells w137 eb162 (eo162 + k42 * 1) [.string (bs (((g_strings_Split ((g_strings_Cut p_0 ([41] : Str)).2.1) ([32] : Str)).getD k42 d_Str)))] := eC162
   refine sd rfl (yl_ixN un22 ty9 rfl rfl rfl eA162 (sd rfl (yl_load1 ty9 rfl rfl (eC162 0 _ rfl) (sd rfl (yl_assign rfl rfl (sd rfl (yl_assign rfl rfl (dn (CW.seq (CW.seq (CW.region ?_)))))))))))
   refine sd rfl (yl_move rfl rfl (sd rfl (yl_eql rfl rfl rfl (dn (bcase (decide ((k42 : Int) = 0)) (fun hb163 => ?_) (fun hb163 => ?_))))))
   ·have hb163p := dec_t hb163
    refine CW.cond_t rfl hb163 (CW.exit (tx (bx (tn (CW.region (sd rfl (yl_inc rfl rfl rfl (by omega) (sd rfl (yl_move rfl rfl (SeqR.done ?_))))))))))
    refine tn ?_
    have hB164 : B_i_ReadTable_0 p_0 k42 (x110, x111) = .cont (x110, x111) := by simp only [B_i_ReadTable_0, hb163, cL]
    exact ⟨(g_strings_Split ((g_strings_Cut p_0 ([41] : Str)).2.1) ([32] : Str)).length - (k42 + 1), by omega, k42 + 1, x110, x111, A112, c113, u114, rfl, hlt160, (by omega), rfl, rfl, rfl, rfl, rfl, rfl, rfl, rfl, hf149, hf150, hf151, hf152, hf153, hf154, (by omega), (by first | omega | (simp only [List.length_append, List.length_cons, List.length_nil, List.length_set, toS_length]; omega)), hok157, (loopM.cont hlt160 hB164).symm.trans hI139⟩
   ·have hb163p := dec_f hb163
    refine CW.cond_f rfl hb163 (CW.skip (tn (CW.seq (CW.region (sd rfl (yl_move rfl rfl (sd rfl (yl_call en14 rfl (oc rfl (oc rfl oz)) (Cal.mono (c_g_strings_Split ((g_strings_Split ((g_strings_Cut p_0 ([41] : Str)).2.1) ([32] : Str)).getD k42 d_Str) ([47] : Str) (okL.getD ho37 ok_d_Str _) (okS.lit rfl) rfl) ?_)))))))))
    rintro v168 w165 ⟨A166, c166, lo166, hi166, rfl, h166, ho167, hrn170, hE169⟩
    have hE169z := Ex.size hE169
    have hrf171 := rf_Split ((g_strings_Split ((g_strings_Cut p_0 ([41] : Str)).2.1) ([32] : Str)).getD k42 d_Str) ([47] : Str)
    refine sd rfl (yl_assign rfl rfl (dn (CW.seq (CW.seq (CW.region (sd rfl (yl_move rfl rfl (sd rfl (yl_len un22 rfl rfl (sd rfl (yl_neq rfl rfl rfl ?_)))))))))))
    refine dn (bcase (decide (((g_strings_Split ((g_strings_Split ((g_strings_Cut p_0 ([41] : Str)).2.1) ([32] : Str)).getD k42 d_Str) ([47] : Str)).length : Int) = 3)) (fun hb172 => ?_) (fun hb172 => ?_))
    ·have hb172p := dec_t hb172
     refine CW.cond_f rfl (not_t hb172) (CW.skip (tn (CW.seq (CW.region (sd rfl (yl_move rfl rfl ?_))))))
     obtain ⟨eb174, eo174, _, eA174, _, ebl174, _, eR174, eC174⟩ := RdS.aD (OwnL.rd good_Str h166) d_Str (i := 2)
     obtain rfl := eR174
     have eC174 : Cells w165 eb174 (eo174 + 2 * 1) [.string (bs (((g_strings_Split ((g_strings_Split ((g_strings_Cut p_0 ([41] : Str)).2.1) ([32] : Str)).getD k42 d_Str) ([47] : Str)).getD 2 d_Str)))] := eC174
     refine sd rfl (yl_ixN un22 ty9 rfl rfl rfl eA174 (sd rfl (yl_load1 ty9 rfl rfl (eC174 0 _ rfl) ?_)))
     have q175 := Ex.trans hf154 hE169
     refine sd rfl (yl_call en15 rfl (oc rfl (oc rfl (oc rfl oz))) (Cal.mono (c_i_readInt ((g_strings_Split ((g_strings_Split ((g_strings_Cut p_0 ([41] : Str)).2.1) ([32] : Str)).getD k42 d_Str) ([47] : Str)).getD 2 d_Str) 0 3 (okL.getD ho167 ok_d_Str _) (by first | omega | assumption | (simp only [wI] at *; omega)) (by first | omega | assumption | (simp only [wI] at *; omega)) (GB.ex hgb q175)) ?_))
     rintro v177 w176 ⟨rfl, hE178⟩
     have hE178z := Ex.size hE178
     refine sd rfl (yl_move rfl rfl (sd rfl (yl_extract rfl rfl rfl (sd rfl (yl_extract rfl rfl rfl (sd rfl (yl_assign rfl rfl (sd rfl (yl_assign rfl rfl (dn (CW.seq (CW.region ?_))))))))))))
     refine sd rfl (yl_move rfl rfl (sd rfl (yl_move rfl rfl (bcase (x110) (fun hb179 => ?_) (fun hb179 => ?_)))))
     ·refine sy rfl rfl hb179 (yl_move rfl rfl (sd rfl (yl_pick_t rfl rfl hb179 rfl (sd rfl (yl_assign rfl rfl (dn ?_))))))
      have q181 := Box.ex (Box.ex hf150 hE169) hE178
      have q183 := OwnL.ex good_Str h166 hE178
      obtain ⟨eb184, eo184, _, eA184, _, ebl184, _, eR184, eC184⟩ := RdS.aD (OwnL.rd good_Str q183) d_Str (i := 0)
      obtain rfl := eR184
      have eC184 : Cells w176 eb184 (eo184 + 0 * 1) [.string (bs (((g_strings_Split ((g_strings_Split ((g_strings_Cut p_0 ([41] : Str)).2.1) ([32] : Str)).getD k42 d_Str) ([47] : Str)).getD 0 d_Str)))] := eC184
      obtain ⟨eb186, eo186, _, eA186, _, ebl186, _, eR186, eC186⟩ := RdS.aD (OwnL.rd good_Str q183) d_Str (i := 1)
      obtain rfl := eR186
      have eC186 : Cells w176 eb186 (eo186 + 1 * 1) [.string (bs (((g_strings_Split ((g_strings_Split ((g_strings_Cut p_0 ([41] : Str)).2.1) ([32] : Str)).getD k42 d_Str) ([47] : Str)).getD 1 d_Str)))] := eC186
      have q189 := OwnL.ex good_Str (OwnL.ex good_Str hf151 hE169) hE178
      refine CW.drawsI 14 (vgetI [DetI (.pointer (some ⟨b26, 0 + 2, none⟩)), DetI (.slice A112 x111.length c113), DetI (.slice A166 ((g_strings_Split ((g_strings_Split ((g_strings_Cut p_0 ([41] : Str)).2.1) ([32] : Str)).getD k42 d_Str) ([47] : Str)).length) c166), DetI (.pointer (some ⟨eb184, eo184 + 0 * 1, none⟩)), DetI (.string (bs (((g_strings_Split ((g_strings_Split ((g_strings_Cut p_0 ([41] : Str)).2.1) ([32] : Str)).getD k42 d_Str) ([47] : Str)).getD 0 d_Str)))), DetI (.pointer (some ⟨b26, 0 + 1, none⟩)), DetI (.slice A20 ((g_strings_Split ((g_strings_Cut ((g_strings_Cut p_0 ([41] : Str)).1) ([40] : Str)).2.1) ([44] : Str)).length) c20), DetI (.slice A166 ((g_strings_Split ((g_strings_Split ((g_strings_Cut p_0 ([41] : Str)).2.1) ([32] : Str)).getD k42 d_Str) ([47] : Str)).length) c166), DetI (.pointer (some ⟨eb186, eo186 + 1 * 1, none⟩)), DetI (.string (bs (((g_strings_Split ((g_strings_Split ((g_strings_Cut p_0 ([41] : Str)).2.1) ([32] : Str)).getD k42 d_Str) ([47] : Str)).getD 1 d_Str)))), DetI (.int .i64 ((g_slices_Index_string (g_strings_Split ((g_strings_Cut ((g_strings_Cut p_0 ([41] : Str)).1) ([40] : Str)).2.1) ([44] : Str)) ((g_strings_Split ((g_strings_Split ((g_strings_Cut p_0 ([41] : Str)).2.1) ([32] : Str)).getD k42 d_Str) ([47] : Str)).getD 1 d_Str)))), DetI (.int .i64 ((i_readInt ((g_strings_Split ((g_strings_Split ((g_strings_Cut p_0 ([41] : Str)).2.1) ([32] : Str)).getD k42 d_Str) ([47] : Str)).getD 2 d_Str) 0 3).1)), DetI (.agg #[.string (bs (((g_strings_Split ((g_strings_Split ((g_strings_Cut p_0 ([41] : Str)).2.1) ([32] : Str)).getD k42 d_Str) ([47] : Str)).getD 0 d_Str))), .int .i64 ((g_slices_Index_string (g_strings_Split ((g_strings_Cut ((g_strings_Cut p_0 ([41] : Str)).1) ([40] : Str)).2.1) ([44] : Str)) ((g_strings_Split ((g_strings_Split ((g_strings_Cut p_0 ([41] : Str)).2.1) ([32] : Str)).getD k42 d_Str) ([47] : Str)).getD 1 d_Str))), .int .i64 ((i_readInt ((g_strings_Split ((g_strings_Split ((g_strings_Cut p_0 ([41] : Str)).2.1) ([32] : Str)).getD k42 d_Str) ([47] : Str)).getD 2 d_Str) 0 3).1)]), fun lo hi v wq => ∃ A191 c192, v = .slice A191 1 c192 ∧ OwnL wq lo hi 33 3 (RF e_Idx) A191 1 c192 ([(⟨((g_strings_Split ((g_strings_Split ((g_strings_Cut p_0 ([41] : Str)).2.1) ([32] : Str)).getD k42 d_Str) ([47] : Str)).getD 0 d_Str), (g_slices_Index_string (g_strings_Split ((g_strings_Cut ((g_strings_Cut p_0 ([41] : Str)).1) ([40] : Str)).2.1) ([44] : Str)) ((g_strings_Split ((g_strings_Split ((g_strings_Cut p_0 ([41] : Str)).2.1) ([32] : Str)).getD k42 d_Str) ([47] : Str)).getD 1 d_Str)), (i_readInt ((g_strings_Split ((g_strings_Split ((g_strings_Cut p_0 ([41] : Str)).2.1) ([32] : Str)).getD k42 d_Str) ([47] : Str)).getD 2 d_Str) 0 3).1⟩ : DIdx)] : List DIdx)]) Tryd.follows rfl rfl rfl rfl rfl rfl (vgetI_stable ⟨StableI.det _, StableI.det _, StableI.det _, StableI.det _, StableI.det _, StableI.det _, StableI.det _, StableI.det _, StableI.det _, StableI.det _, StableI.det _, StableI.det _, StableI.det _, (fun _ _ _ _ _ ⟨A191, c192, hv, hO⟩ e => ⟨A191, c192, hv, OwnL.ex good_Idx hO e⟩), trivial⟩) ⟨?_, ?_, ?_, ?_, ?_, ?_, ?_, ?_, ?_, ?_, ?_, ?_, ?_, ?_, trivial⟩ ?_
      ·exact oI rfl fun h => yl_fieldAddr fd25_2 rfl (h.old 10 _ rfl rfl) kI
      ·exact oI rfl fun h => yl_load1 ty23 rfl (h.dt 0 59 rfl rfl rfl) (((Box.ex q181 h.ex).cell 2).trans rfl) kI
      ·exact oI rfl fun h => yl_move rfl (h.old 13 _ rfl rfl) kI
      ·intro L210 w211 hi212
       have hE213 := hi212.ex
       have hE213z := Ex.size hE213
       exact os rfl ((yl_ixN un22 ty9 rfl (hi212.dt 2 61 rfl rfl rfl) rfl eA184 kI))
      ·exact oI rfl fun h => yl_load1 ty9 rfl (h.dt 3 62 rfl rfl rfl) ((Cells.ex eC184 h.ex) 0 _ rfl) kI
      ·exact oI rfl fun h => yl_fieldAddr fd25_1 rfl (h.old 10 _ rfl rfl) kI
      ·exact oI rfl fun h => yl_load1 ty22 rfl (h.dt 5 64 rfl rfl rfl) (((Box.ex q181 h.ex).cell 1).trans rfl) kI
      ·exact oI rfl fun h => yl_move rfl (h.old 13 _ rfl rfl) kI
      ·intro L237 w238 hi239
       have hE240 := hi239.ex
       have hE240z := Ex.size hE240
       exact os rfl ((yl_ixN un22 ty9 rfl (hi239.dt 7 66 rfl rfl rfl) rfl eA186 kI))
      ·exact oI rfl fun h => yl_load1 ty9 rfl (h.dt 8 67 rfl rfl rfl) ((Cells.ex eC186 h.ex) 0 _ rfl) kI
      ·intro L248 w249 hi250
       have hE251 := hi250.ex
       exact OpR.op' rfl (yl_call en16 rfl (oc (hi250.dt 6 65 rfl rfl rfl) (oc (hi250.dt 9 68 rfl rfl rfl) oz)) (Cal.mono (c_g_slices_Index_string (g_strings_Split ((g_strings_Cut ((g_strings_Cut p_0 ([41] : Str)).1) ([40] : Str)).2.1) ([44] : Str)) ((g_strings_Split ((g_strings_Split ((g_strings_Cut p_0 ([41] : Str)).2.1) ([32] : Str)).getD k42 d_Str) ([47] : Str)).getD 1 d_Str) (RdS.up (OwnL.rd good_Str (OwnL.ex good_Str q189 hE251)) good_Str) ho21 (okL.getD ho167 ok_d_Str _)) fun _ _ h => h))
      ·exact oI rfl fun h => yl_move rfl (h.old 14 _ rfl rfl) kI
      ·exact oI rfl fun h => yl_build (cs := [.string (bs (((g_strings_Split ((g_strings_Split ((g_strings_Cut p_0 ([41] : Str)).2.1) ([32] : Str)).getD k42 d_Str) ([47] : Str)).getD 0 d_Str))), .int .i64 ((g_slices_Index_string (g_strings_Split ((g_strings_Cut ((g_strings_Cut p_0 ([41] : Str)).1) ([40] : Str)).2.1) ([44] : Str)) ((g_strings_Split ((g_strings_Split ((g_strings_Cut p_0 ([41] : Str)).2.1) ([32] : Str)).getD k42 d_Str) ([47] : Str)).getD 1 d_Str))), .int .i64 ((i_readInt ((g_strings_Split ((g_strings_Split ((g_strings_Cut p_0 ([41] : Str)).2.1) ([32] : Str)).getD k42 d_Str) ([47] : Str)).getD 2 d_Str) 0 3).1)]) rfl (oc (h.dt 4 63 rfl rfl rfl) (oc (h.dt 10 69 rfl rfl rfl) (oc (h.dt 11 70 rfl rfl rfl) oz))) (by kernel_rfl) kI
      ·intro L271 w272 hi273
       have hE274 := hi273.ex
       have hE274z := Ex.size hE274
       refine OpR.op' rfl (yl_buildSlice (cs := [.string (bs (((g_strings_Split ((g_strings_Split ((g_strings_Cut p_0 ([41] : Str)).2.1) ([32] : Str)).getD k42 d_Str) ([47] : Str)).getD 0 d_Str))), .int .i64 ((g_slices_Index_string (g_strings_Split ((g_strings_Cut ((g_strings_Cut p_0 ([41] : Str)).1) ([40] : Str)).2.1) ([44] : Str)) ((g_strings_Split ((g_strings_Split ((g_strings_Cut p_0 ([41] : Str)).2.1) ([32] : Str)).getD k42 d_Str) ([47] : Str)).getD 1 d_Str))), .int .i64 ((i_readInt ((g_strings_Split ((g_strings_Split ((g_strings_Cut p_0 ([41] : Str)).2.1) ([32] : Str)).getD k42 d_Str) ([47] : Str)).getD 2 d_Str) 0 3).1)]) un23 ty33 (by decide) rfl (oc (hi273.dt 12 71 rfl rfl rfl) oz) (by kernel_rfl) ?_)
       intro b276 w277 hs278 hz279 hB280 hE281
       have hO282 : OwnL w277 b276 (b276 + 1) 33 3 (RF e_Idx) (some ⟨b276, 0, none⟩) 1 1 ([(⟨((g_strings_Split ((g_strings_Split ((g_strings_Cut p_0 ([41] : Str)).2.1) ([32] : Str)).getD k42 d_Str) ([47] : Str)).getD 0 d_Str), (g_slices_Index_string (g_strings_Split ((g_strings_Cut ((g_strings_Cut p_0 ([41] : Str)).1) ([40] : Str)).2.1) ([44] : Str)) ((g_strings_Split ((g_strings_Split ((g_strings_Cut p_0 ([41] : Str)).2.1) ([32] : Str)).getD k42 d_Str) ([47] : Str)).getD 1 d_Str)), (i_readInt ((g_strings_Split ((g_strings_Split ((g_strings_Cut p_0 ([41] : Str)).2.1) ([32] : Str)).getD k42 d_Str) ([47] : Str)).getD 2 d_Str) 0 3).1⟩ : DIdx)] : List DIdx) := OwnL.of_box (S := fun _ => False) hB280 (Nat.le_refl _) (Nat.lt_succ_self _) (EncL.cons (c := [.string (bs (((g_strings_Split ((g_strings_Split ((g_strings_Cut p_0 ([41] : Str)).2.1) ([32] : Str)).getD k42 d_Str) ([47] : Str)).getD 0 d_Str))), .int .i64 ((g_slices_Index_string (g_strings_Split ((g_strings_Cut ((g_strings_Cut p_0 ([41] : Str)).1) ([40] : Str)).2.1) ([44] : Str)) ((g_strings_Split ((g_strings_Split ((g_strings_Cut p_0 ([41] : Str)).2.1) ([32] : Str)).getD k42 d_Str) ([47] : Str)).getD 1 d_Str))), .int .i64 ((i_readInt ((g_strings_Split ((g_strings_Split ((g_strings_Cut p_0 ([41] : Str)).2.1) ([32] : Str)).getD k42 d_Str) ([47] : Str)).getD 2 d_Str) 0 3).1)]) rfl rfl EncL.nil) (Nat.le_of_ble_eq_true rfl) (fun h => h) (fun _ h => False.elim h)
       exact ⟨⟨(some ⟨b276, 0, none⟩), 1, rfl, OwnL.more hO282 (by omega) (by omega)⟩, hE281⟩
      ·intro fl286 fh287 L283 w284 hp285
       have hE288 := hp285.ex
       have hE288z := Ex.size hE288
       have hx293 := hp285.old 10 _ rfl rfl
       have hr300 := hp285.rng 13 rfl
       obtain ⟨_, hx299, A191_301, c192_302, rfl, h303⟩ := hp285.new 13 72 rfl rfl
       have q307 := OwnL.rd good_Idx h303
       obtain ⟨nw308, he309, hs310⟩ := RdS.src q307
       refine sd rfl (yl_appendL (S := (fun _ => False)) (lo := w35.heap.size) (hi := u114) (xs := x111) (ys := ([(⟨((g_strings_Split ((g_strings_Split ((g_strings_Cut p_0 ([41] : Str)).2.1) ([32] : Str)).getD k42 d_Str) ([47] : Str)).getD 0 d_Str), (g_slices_Index_string (g_strings_Split ((g_strings_Cut ((g_strings_Cut p_0 ([41] : Str)).1) ([40] : Str)).2.1) ([44] : Str)) ((g_strings_Split ((g_strings_Split ((g_strings_Cut p_0 ([41] : Str)).2.1) ([32] : Str)).getD k42 d_Str) ([47] : Str)).getD 1 d_Str)), (i_readInt ((g_strings_Split ((g_strings_Split ((g_strings_Cut p_0 ([41] : Str)).2.1) ([32] : Str)).getD k42 d_Str) ([47] : Str)).getD 2 d_Str) 0 3).1⟩ : DIdx)] : List DIdx)) good_Idx un23 ty33 rfl (Nat.le_of_ble_eq_true rfl) rfl (hp285.nt 1 60 rfl rfl rfl) hx299 (OwnL.ex good_Idx (OwnL.ex good_Idx (OwnL.ex good_Idx hf152 hE169) hE178) hE288) he309 hs310 (RdS.len q307) (by first | omega | (simp only [List.length_append, List.length_cons, List.length_nil, List.length_take, List.length_drop, List.length_replicate, List.length_set, toS_length]; omega)) (by first | omega | (simp only [List.length_append, List.length_cons, List.length_nil, List.length_take, List.length_drop, List.length_replicate, List.length_set, toS_length]; omega)) (by omega) (by omega) (fun _ h _ => False.elim h) (by omega) ?_)
       intro A311 c312 w313 row314 hO315 hG316 hrg317
       have hG316z := hG316.size
       refine sd rfl (yl_fieldAddr fd25_2 rfl hx293 (SeqR.u rfl rfl (yl_store (vs := [.slice A311 ((x111 ++ ([(⟨((g_strings_Split ((g_strings_Split ((g_strings_Cut p_0 ([41] : Str)).2.1) ([32] : Str)).getD k42 d_Str) ([47] : Str)).getD 0 d_Str), (g_slices_Index_string (g_strings_Split ((g_strings_Cut ((g_strings_Cut p_0 ([41] : Str)).1) ([40] : Str)).2.1) ([44] : Str)) ((g_strings_Split ((g_strings_Split ((g_strings_Cut p_0 ([41] : Str)).2.1) ([32] : Str)).getD k42 d_Str) ([47] : Str)).getD 1 d_Str)), (i_readInt ((g_strings_Split ((g_strings_Split ((g_strings_Cut p_0 ([41] : Str)).2.1) ([32] : Str)).getD k42 d_Str) ([47] : Str)).getD 2 d_Str) 0 3).1⟩ : DIdx)] : List DIdx)).length) c312]) ty23 rfl rfl rfl rfl rfl rfl (Box.grown (Box.ex q181 hE288) hG316 (fun k hk => by have := hrg317 k hk; omega)) (Nat.le_of_ble_eq_true rfl) ?_)))
       intro w320 hB321 hO322
       have hB321 : Box w320 b26 25 [.string (bs ((g_strings_Cut ((g_strings_Cut p_0 ([41] : Str)).1) ([40] : Str)).1)), .slice A20 ((g_strings_Split ((g_strings_Cut ((g_strings_Cut p_0 ([41] : Str)).1) ([40] : Str)).2.1) ([44] : Str)).length) c20, .slice A311 ((x111 ++ ([(⟨((g_strings_Split ((g_strings_Split ((g_strings_Cut p_0 ([41] : Str)).2.1) ([32] : Str)).getD k42 d_Str) ([47] : Str)).getD 0 d_Str), (g_slices_Index_string (g_strings_Split ((g_strings_Cut ((g_strings_Cut p_0 ([41] : Str)).1) ([40] : Str)).2.1) ([44] : Str)) ((g_strings_Split ((g_strings_Split ((g_strings_Cut p_0 ([41] : Str)).2.1) ([32] : Str)).getD k42 d_Str) ([47] : Str)).getD 1 d_Str)), (i_readInt ((g_strings_Split ((g_strings_Split ((g_strings_Cut p_0 ([41] : Str)).2.1) ([32] : Str)).getD k42 d_Str) ([47] : Str)).getD 2 d_Str) 0 3).1⟩ : DIdx)] : List DIdx)).length) c312] := hB321
       have hO322z := hO322.size
       refine SeqR.done (bn (tn (CW.sub (Sub.cons (d := 0) (hp285.old 0 _ rfl rfl) (Sub.cons (d := 2) (hp285.old 2 _ rfl rfl) (Sub.cons (d := 6) (hp285.old 6 _ rfl rfl) (Sub.cons (d := 9) (hp285.old 9 _ rfl rfl) (Sub.cons (d := 10) hx293 (Sub.cons (d := 33) (hp285.old 33 _ rfl rfl) (Sub.cons (d := 34) (hp285.old 34 _ rfl rfl) (Sub.cons (d := 35) (hp285.old 35 _ rfl rfl) (Sub.cons (d := 57) (hp285.old 57 _ rfl rfl) (Sub.nil _)))))))))) (CW.region (sd rfl (yl_inc rfl rfl rfl (by omega) (sd rfl (yl_move rfl rfl (dn ?_)))))))))
       have hB323 : B_i_ReadTable_0 p_0 k42 (x110, x111) = .cont ((i_readInt ((g_strings_Split ((g_strings_Split ((g_strings_Cut p_0 ([41] : Str)).2.1) ([32] : Str)).getD k42 d_Str) ([47] : Str)).getD 2 d_Str) 0 3).2, (x111 ++ ([(⟨((g_strings_Split ((g_strings_Split ((g_strings_Cut p_0 ([41] : Str)).2.1) ([32] : Str)).getD k42 d_Str) ([47] : Str)).getD 0 d_Str), (g_slices_Index_string (g_strings_Split ((g_strings_Cut ((g_strings_Cut p_0 ([41] : Str)).1) ([40] : Str)).2.1) ([44] : Str)) ((g_strings_Split ((g_strings_Split ((g_strings_Cut p_0 ([41] : Str)).2.1) ([32] : Str)).getD k42 d_Str) ([47] : Str)).getD 1 d_Str)), (i_readInt ((g_strings_Split ((g_strings_Split ((g_strings_Cut p_0 ([41] : Str)).2.1) ([32] : Str)).getD k42 d_Str) ([47] : Str)).getD 2 d_Str) 0 3).1⟩ : DIdx)] : List DIdx))) := by simp only [B_i_ReadTable_0, hb163, hb172, hb179, cL]
       exact ⟨(g_strings_Split ((g_strings_Cut p_0 ([41] : Str)).2.1) ([32] : Str)).length - (k42 + 1), by omega, k42 + 1, (i_readInt ((g_strings_Split ((g_strings_Split ((g_strings_Cut p_0 ([41] : Str)).2.1) ([32] : Str)).getD k42 d_Str) ([47] : Str)).getD 2 d_Str) 0 3).2, (x111 ++ ([(⟨((g_strings_Split ((g_strings_Split ((g_strings_Cut p_0 ([41] : Str)).2.1) ([32] : Str)).getD k42 d_Str) ([47] : Str)).getD 0 d_Str), (g_slices_Index_string (g_strings_Split ((g_strings_Cut ((g_strings_Cut p_0 ([41] : Str)).1) ([40] : Str)).2.1) ([44] : Str)) ((g_strings_Split ((g_strings_Split ((g_strings_Cut p_0 ([41] : Str)).2.1) ([32] : Str)).getD k42 d_Str) ([47] : Str)).getD 1 d_Str)), (i_readInt ((g_strings_Split ((g_strings_Split ((g_strings_Cut p_0 ([41] : Str)).2.1) ([32] : Str)).getD k42 d_Str) ([47] : Str)).getD 2 d_Str) 0 3).1⟩ : DIdx)] : List DIdx)), A311, c312, w313.heap.size, rfl, hlt160, (by omega), rfl, rfl, rfl, rfl, rfl, rfl, rfl, rfl, (Box.only (Box.grown (Box.ex (Box.ex (Box.ex hf149 hE169) hE178) hE288) hG316 (fun k hk => by have := hrg317 k hk; omega)) hO322 (by omega)), hB321, (OwnL.only good_Str (OwnL.grown good_Str (OwnL.ex good_Str q189 hE288) hG316 (fun k hk => by have := hrg317 k hk; omega)) hO322 (by omega)), (OwnL.only good_Idx hO315 hO322 (by omega)), (OwnL.only good_Str (OwnL.grown good_Str (OwnL.ex good_Str (OwnL.ex good_Str (OwnL.ex good_Str hf153 hE169) hE178) hE288) hG316 (fun k hk => by have := hrg317 k hk; omega)) hO322 (by omega)), (Below.only (Below.grown (Ex.trans (Ex.trans q175 hE178) hE288) hG316 (by omega) (fun k hk => by have := hrg317 k hk; omega)) hO322 (by omega)), (by omega), (by first | omega | (simp only [List.length_append, List.length_cons, List.length_nil, List.length_set, toS_length]; omega)), (okE.append hok157 ((okL.mk (Nat.le_of_ble_eq_true rfl) (okE.cons (show ok_Idx (⟨((g_strings_Split ((g_strings_Split ((g_strings_Cut p_0 ([41] : Str)).2.1) ([32] : Str)).getD k42 d_Str) ([47] : Str)).getD 0 d_Str), (g_slices_Index_string (g_strings_Split ((g_strings_Cut ((g_strings_Cut p_0 ([41] : Str)).1) ([40] : Str)).2.1) ([44] : Str)) ((g_strings_Split ((g_strings_Split ((g_strings_Cut p_0 ([41] : Str)).2.1) ([32] : Str)).getD k42 d_Str) ([47] : Str)).getD 1 d_Str)), (i_readInt ((g_strings_Split ((g_strings_Split ((g_strings_Cut p_0 ([41] : Str)).2.1) ([32] : Str)).getD k42 d_Str) ([47] : Str)).getD 2 d_Str) 0 3).1⟩ : DIdx) from (okL.getD ho167 ok_d_Str _)) okE.nil))).2), (loopM.cont hlt160 hB323).symm.trans hI139⟩
     ·refine sz rfl rfl hb179 (sd rfl (yl_pick_f rfl rfl hb179 rfl (sd rfl (yl_assign rfl rfl (dn ?_)))))
      have q343 := Box.ex (Box.ex hf150 hE169) hE178
      have q345 := OwnL.ex good_Str h166 hE178
      obtain ⟨eb346, eo346, _, eA346, _, ebl346, _, eR346, eC346⟩ := RdS.aD (OwnL.rd good_Str q345) d_Str (i := 0)
      obtain rfl := eR346
      have eC346 : Cells w176 eb346 (eo346 + 0 * 1) [.string (bs (((g_strings_Split ((g_strings_Split ((g_strings_Cut p_0 ([41] : Str)).2.1) ([32] : Str)).getD k42 d_Str) ([47] : Str)).getD 0 d_Str)))] := eC346
      obtain ⟨eb348, eo348, _, eA348, _, ebl348, _, eR348, eC348⟩ := RdS.aD (OwnL.rd good_Str q345) d_Str (i := 1)
      obtain rfl := eR348
      have eC348 : Cells w176 eb348 (eo348 + 1 * 1) [.string (bs (((g_strings_Split ((g_strings_Split ((g_strings_Cut p_0 ([41] : Str)).2.1) ([32] : Str)).getD k42 d_Str) ([47] : Str)).getD 1 d_Str)))] := eC348
      have q351 := OwnL.ex good_Str (OwnL.ex good_Str hf151 hE169) hE178
      refine CW.drawsI 14 (vgetI [DetI (.pointer (some ⟨b26, 0 + 2, none⟩)), DetI (.slice A112 x111.length c113), DetI (.slice A166 ((g_strings_Split ((g_strings_Split ((g_strings_Cut p_0 ([41] : Str)).2.1) ([32] : Str)).getD k42 d_Str) ([47] : Str)).length) c166), DetI (.pointer (some ⟨eb346, eo346 + 0 * 1, none⟩)), DetI (.string (bs (((g_strings_Split ((g_strings_Split ((g_strings_Cut p_0 ([41] : Str)).2.1) ([32] : Str)).getD k42 d_Str) ([47] : Str)).getD 0 d_Str)))), DetI (.pointer (some ⟨b26, 0 + 1, none⟩)), DetI (.slice A20 ((g_strings_Split ((g_strings_Cut ((g_strings_Cut p_0 ([41] : Str)).1) ([40] : Str)).2.1) ([44] : Str)).length) c20), DetI (.slice A166 ((g_strings_Split ((g_strings_Split ((g_strings_Cut p_0 ([41] : Str)).2.1) ([32] : Str)).getD k42 d_Str) ([47] : Str)).length) c166), DetI (.pointer (some ⟨eb348, eo348 + 1 * 1, none⟩)), DetI (.string (bs (((g_strings_Split ((g_strings_Split ((g_strings_Cut p_0 ([41] : Str)).2.1) ([32] : Str)).getD k42 d_Str) ([47] : Str)).getD 1 d_Str)))), DetI (.int .i64 ((g_slices_Index_string (g_strings_Split ((g_strings_Cut ((g_strings_Cut p_0 ([41] : Str)).1) ([40] : Str)).2.1) ([44] : Str)) ((g_strings_Split ((g_strings_Split ((g_strings_Cut p_0 ([41] : Str)).2.1) ([32] : Str)).getD k42 d_Str) ([47] : Str)).getD 1 d_Str)))), DetI (.int .i64 ((i_readInt ((g_strings_Split ((g_strings_Split ((g_strings_Cut p_0 ([41] : Str)).2.1) ([32] : Str)).getD k42 d_Str) ([47] : Str)).getD 2 d_Str) 0 3).1)), DetI (.agg #[.string (bs (((g_strings_Split ((g_strings_Split ((g_strings_Cut p_0 ([41] : Str)).2.1) ([32] : Str)).getD k42 d_Str) ([47] : Str)).getD 0 d_Str))), .int .i64 ((g_slices_Index_string (g_strings_Split ((g_strings_Cut ((g_strings_Cut p_0 ([41] : Str)).1) ([40] : Str)).2.1) ([44] : Str)) ((g_strings_Split ((g_strings_Split ((g_strings_Cut p_0 ([41] : Str)).2.1) ([32] : Str)).getD k42 d_Str) ([47] : Str)).getD 1 d_Str))), .int .i64 ((i_readInt ((g_strings_Split ((g_strings_Split ((g_strings_Cut p_0 ([41] : Str)).2.1) ([32] : Str)).getD k42 d_Str) ([47] : Str)).getD 2 d_Str) 0 3).1)]), fun lo hi v wq => ∃ A353 c354, v = .slice A353 1 c354 ∧ OwnL wq lo hi 33 3 (RF e_Idx) A353 1 c354 ([(⟨((g_strings_Split ((g_strings_Split ((g_strings_Cut p_0 ([41] : Str)).2.1) ([32] : Str)).getD k42 d_Str) ([47] : Str)).getD 0 d_Str), (g_slices_Index_string (g_strings_Split ((g_strings_Cut ((g_strings_Cut p_0 ([41] : Str)).1) ([40] : Str)).2.1) ([44] : Str)) ((g_strings_Split ((g_strings_Split ((g_strings_Cut p_0 ([41] : Str)).2.1) ([32] : Str)).getD k42 d_Str) ([47] : Str)).getD 1 d_Str)), (i_readInt ((g_strings_Split ((g_strings_Split ((g_strings_Cut p_0 ([41] : Str)).2.1) ([32] : Str)).getD k42 d_Str) ([47] : Str)).getD 2 d_Str) 0 3).1⟩ : DIdx)] : List DIdx)]) Tryd.follows rfl rfl rfl rfl rfl rfl (vgetI_stable ⟨StableI.det _, StableI.det _, StableI.det _, StableI.det _, StableI.det _, StableI.det _, StableI.det _, StableI.det _, StableI.det _, StableI.det _, StableI.det _, StableI.det _, StableI.det _, (fun _ _ _ _ _ ⟨A353, c354, hv, hO⟩ e => ⟨A353, c354, hv, OwnL.ex good_Idx hO e⟩), trivial⟩) ⟨?_, ?_, ?_, ?_, ?_, ?_, ?_, ?_, ?_, ?_, ?_, ?_, ?_, ?_, trivial⟩ ?_
      ·exact oI rfl fun h => yl_fieldAddr fd25_2 rfl (h.old 10 _ rfl rfl) kI
      ·exact oI rfl fun h => yl_load1 ty23 rfl (h.dt 0 59 rfl rfl rfl) (((Box.ex q343 h.ex).cell 2).trans rfl) kI
      ·exact oI rfl fun h => yl_move rfl (h.old 13 _ rfl rfl) kI
      ·intro L372 w373 hi374
       have hE375 := hi374.ex
       have hE375z := Ex.size hE375
       exact os rfl ((yl_ixN un22 ty9 rfl (hi374.dt 2 61 rfl rfl rfl) rfl eA346 kI))
      ·exact oI rfl fun h => yl_load1 ty9 rfl (h.dt 3 62 rfl rfl rfl) ((Cells.ex eC346 h.ex) 0 _ rfl) kI
      ·exact oI rfl fun h => yl_fieldAddr fd25_1 rfl (h.old 10 _ rfl rfl) kI
      ·exact oI rfl fun h => yl_load1 ty22 rfl (h.dt 5 64 rfl rfl rfl) (((Box.ex q343 h.ex).cell 1).trans rfl) kI
      ·exact oI rfl fun h => yl_move rfl (h.old 13 _ rfl rfl) kI
      ·intro L399 w400 hi401
       have hE402 := hi401.ex
       have hE402z := Ex.size hE402
       exact os rfl ((yl_ixN un22 ty9 rfl (hi401.dt 7 66 rfl rfl rfl) rfl eA348 kI))
      ·exact oI rfl fun h => yl_load1 ty9 rfl (h.dt 8 67 rfl rfl rfl) ((Cells.ex eC348 h.ex) 0 _ rfl) kI
      ·intro L410 w411 hi412
       have hE413 := hi412.ex
       exact OpR.op' rfl (yl_call en16 rfl (oc (hi412.dt 6 65 rfl rfl rfl) (oc (hi412.dt 9 68 rfl rfl rfl) oz)) (Cal.mono (c_g_slices_Index_string (g_strings_Split ((g_strings_Cut ((g_strings_Cut p_0 ([41] : Str)).1) ([40] : Str)).2.1) ([44] : Str)) ((g_strings_Split ((g_strings_Split ((g_strings_Cut p_0 ([41] : Str)).2.1) ([32] : Str)).getD k42 d_Str) ([47] : Str)).getD 1 d_Str) (RdS.up (OwnL.rd good_Str (OwnL.ex good_Str q351 hE413)) good_Str) ho21 (okL.getD ho167 ok_d_Str _)) fun _ _ h => h))
      ·exact oI rfl fun h => yl_move rfl (h.old 14 _ rfl rfl) kI
      ·exact oI rfl fun h => yl_build (cs := [.string (bs (((g_strings_Split ((g_strings_Split ((g_strings_Cut p_0 ([41] : Str)).2.1) ([32] : Str)).getD k42 d_Str) ([47] : Str)).getD 0 d_Str))), .int .i64 ((g_slices_Index_string (g_strings_Split ((g_strings_Cut ((g_strings_Cut p_0 ([41] : Str)).1) ([40] : Str)).2.1) ([44] : Str)) ((g_strings_Split ((g_strings_Split ((g_strings_Cut p_0 ([41] : Str)).2.1) ([32] : Str)).getD k42 d_Str) ([47] : Str)).getD 1 d_Str))), .int .i64 ((i_readInt ((g_strings_Split ((g_strings_Split ((g_strings_Cut p_0 ([41] : Str)).2.1) ([32] : Str)).getD k42 d_Str) ([47] : Str)).getD 2 d_Str) 0 3).1)]) rfl (oc (h.dt 4 63 rfl rfl rfl) (oc (h.dt 10 69 rfl rfl rfl) (oc (h.dt 11 70 rfl rfl rfl) oz))) (by kernel_rfl) kI
      ·intro L433 w434 hi435
       have hE436 := hi435.ex
       have hE436z := Ex.size hE436
       refine OpR.op' rfl (yl_buildSlice (cs := [.string (bs (((g_strings_Split ((g_strings_Split ((g_strings_Cut p_0 ([41] : Str)).2.1) ([32] : Str)).getD k42 d_Str) ([47] : Str)).getD 0 d_Str))), .int .i64 ((g_slices_Index_string (g_strings_Split ((g_strings_Cut ((g_strings_Cut p_0 ([41] : Str)).1) ([40] : Str)).2.1) ([44] : Str)) ((g_strings_Split ((g_strings_Split ((g_strings_Cut p_0 ([41] : Str)).2.1) ([32] : Str)).getD k42 d_Str) ([47] : Str)).getD 1 d_Str))), .int .i64 ((i_readInt ((g_strings_Split ((g_strings_Split ((g_strings_Cut p_0 ([41] : Str)).2.1) ([32] : Str)).getD k42 d_Str) ([47] : Str)).getD 2 d_Str) 0 3).1)]) un23 ty33 (by decide) rfl (oc (hi435.dt 12 71 rfl rfl rfl) oz) (by kernel_rfl) ?_)
       intro b438 w439 hs440 hz441 hB442 hE443
       have hO444 : OwnL w439 b438 (b438 + 1) 33 3 (RF e_Idx) (some ⟨b438, 0, none⟩) 1 1 ([(⟨((g_strings_Split ((g_strings_Split ((g_strings_Cut p_0 ([41] : Str)).2.1) ([32] : Str)).getD k42 d_Str) ([47] : Str)).getD 0 d_Str), (g_slices_Index_string (g_strings_Split ((g_strings_Cut ((g_strings_Cut p_0 ([41] : Str)).1) ([40] : Str)).2.1) ([44] : Str)) ((g_strings_Split ((g_strings_Split ((g_strings_Cut p_0 ([41] : Str)).2.1) ([32] : Str)).getD k42 d_Str) ([47] : Str)).getD 1 d_Str)), (i_readInt ((g_strings_Split ((g_strings_Split ((g_strings_Cut p_0 ([41] : Str)).2.1) ([32] : Str)).getD k42 d_Str) ([47] : Str)).getD 2 d_Str) 0 3).1⟩ : DIdx)] : List DIdx) := OwnL.of_box (S := fun _ => False) hB442 (Nat.le_refl _) (Nat.lt_succ_self _) (EncL.cons (c := [.string (bs (((g_strings_Split ((g_strings_Split ((g_strings_Cut p_0 ([41] : Str)).2.1) ([32] : Str)).getD k42 d_Str) ([47] : Str)).getD 0 d_Str))), .int .i64 ((g_slices_Index_string (g_strings_Split ((g_strings_Cut ((g_strings_Cut p_0 ([41] : Str)).1) ([40] : Str)).2.1) ([44] : Str)) ((g_strings_Split ((g_strings_Split ((g_strings_Cut p_0 ([41] : Str)).2.1) ([32] : Str)).getD k42 d_Str) ([47] : Str)).getD 1 d_Str))), .int .i64 ((i_readInt ((g_strings_Split ((g_strings_Split ((g_strings_Cut p_0 ([41] : Str)).2.1) ([32] : Str)).getD k42 d_Str) ([47] : Str)).getD 2 d_Str) 0 3).1)]) rfl rfl EncL.nil) (Nat.le_of_ble_eq_true rfl) (fun h => h) (fun _ h => False.elim h)
       exact ⟨⟨(some ⟨b438, 0, none⟩), 1, rfl, OwnL.more hO444 (by omega) (by omega)⟩, hE443⟩
      ·intro fl448 fh449 L445 w446 hp447
       have hE450 := hp447.ex
       have hE450z := Ex.size hE450
       have hx455 := hp447.old 10 _ rfl rfl
       have hr462 := hp447.rng 13 rfl
       obtain ⟨_, hx461, A353_463, c354_464, rfl, h465⟩ := hp447.new 13 72 rfl rfl
       have q469 := OwnL.rd good_Idx h465
       obtain ⟨nw470, he471, hs472⟩ := RdS.src q469
       refine sd rfl (yl_appendL (S := (fun _ => False)) (lo := w35.heap.size) (hi := u114) (xs := x111) (ys := ([(⟨((g_strings_Split ((g_strings_Split ((g_strings_Cut p_0 ([41] : Str)).2.1) ([32] : Str)).getD k42 d_Str) ([47] : Str)).getD 0 d_Str), (g_slices_Index_string (g_strings_Split ((g_strings_Cut ((g_strings_Cut p_0 ([41] : Str)).1) ([40] : Str)).2.1) ([44] : Str)) ((g_strings_Split ((g_strings_Split ((g_strings_Cut p_0 ([41] : Str)).2.1) ([32] : Str)).getD k42 d_Str) ([47] : Str)).getD 1 d_Str)), (i_readInt ((g_strings_Split ((g_strings_Split ((g_strings_Cut p_0 ([41] : Str)).2.1) ([32] : Str)).getD k42 d_Str) ([47] : Str)).getD 2 d_Str) 0 3).1⟩ : DIdx)] : List DIdx)) good_Idx un23 ty33 rfl (Nat.le_of_ble_eq_true rfl) rfl (hp447.nt 1 60 rfl rfl rfl) hx461 (OwnL.ex good_Idx (OwnL.ex good_Idx (OwnL.ex good_Idx hf152 hE169) hE178) hE450) he471 hs472 (RdS.len q469) (by first | omega | (simp only [List.length_append, List.length_cons, List.length_nil, List.length_take, List.length_drop, List.length_replicate, List.length_set, toS_length]; omega)) (by first | omega | (simp only [List.length_append, List.length_cons, List.length_nil, List.length_take, List.length_drop, List.length_replicate, List.length_set, toS_length]; omega)) (by omega) (by omega) (fun _ h _ => False.elim h) (by omega) ?_)
       intro A473 c474 w475 row476 hO477 hG478 hrg479
       have hG478z := hG478.size
       refine sd rfl (yl_fieldAddr fd25_2 rfl hx455 (SeqR.u rfl rfl (yl_store (vs := [.slice A473 ((x111 ++ ([(⟨((g_strings_Split ((g_strings_Split ((g_strings_Cut p_0 ([41] : Str)).2.1) ([32] : Str)).getD k42 d_Str) ([47] : Str)).getD 0 d_Str), (g_slices_Index_string (g_strings_Split ((g_strings_Cut ((g_strings_Cut p_0 ([41] : Str)).1) ([40] : Str)).2.1) ([44] : Str)) ((g_strings_Split ((g_strings_Split ((g_strings_Cut p_0 ([41] : Str)).2.1) ([32] : Str)).getD k42 d_Str) ([47] : Str)).getD 1 d_Str)), (i_readInt ((g_strings_Split ((g_strings_Split ((g_strings_Cut p_0 ([41] : Str)).2.1) ([32] : Str)).getD k42 d_Str) ([47] : Str)).getD 2 d_Str) 0 3).1⟩ : DIdx)] : List DIdx)).length) c474]) ty23 rfl rfl rfl rfl rfl rfl (Box.grown (Box.ex q343 hE450) hG478 (fun k hk => by have := hrg479 k hk; omega)) (Nat.le_of_ble_eq_true rfl) ?_)))
       intro w482 hB483 hO484
       have hB483 : Box w482 b26 25 [.string (bs ((g_strings_Cut ((g_strings_Cut p_0 ([41] : Str)).1) ([40] : Str)).1)), .slice A20 ((g_strings_Split ((g_strings_Cut ((g_strings_Cut p_0 ([41] : Str)).1) ([40] : Str)).2.1) ([44] : Str)).length) c20, .slice A473 ((x111 ++ ([(⟨((g_strings_Split ((g_strings_Split ((g_strings_Cut p_0 ([41] : Str)).2.1) ([32] : Str)).getD k42 d_Str) ([47] : Str)).getD 0 d_Str), (g_slices_Index_string (g_strings_Split ((g_strings_Cut ((g_strings_Cut p_0 ([41] : Str)).1) ([40] : Str)).2.1) ([44] : Str)) ((g_strings_Split ((g_strings_Split ((g_strings_Cut p_0 ([41] : Str)).2.1) ([32] : Str)).getD k42 d_Str) ([47] : Str)).getD 1 d_Str)), (i_readInt ((g_strings_Split ((g_strings_Split ((g_strings_Cut p_0 ([41] : Str)).2.1) ([32] : Str)).getD k42 d_Str) ([47] : Str)).getD 2 d_Str) 0 3).1⟩ : DIdx)] : List DIdx)).length) c474] := hB483
       have hO484z := hO484.size
       refine SeqR.done (bn (tn (CW.sub (Sub.cons (d := 0) (hp447.old 0 _ rfl rfl) (Sub.cons (d := 2) (hp447.old 2 _ rfl rfl) (Sub.cons (d := 6) (hp447.old 6 _ rfl rfl) (Sub.cons (d := 9) (hp447.old 9 _ rfl rfl) (Sub.cons (d := 10) hx455 (Sub.cons (d := 33) (hp447.old 33 _ rfl rfl) (Sub.cons (d := 34) (hp447.old 34 _ rfl rfl) (Sub.cons (d := 35) (hp447.old 35 _ rfl rfl) (Sub.cons (d := 57) (hp447.old 57 _ rfl rfl) (Sub.nil _)))))))))) (CW.region (sd rfl (yl_inc rfl rfl rfl (by omega) (sd rfl (yl_move rfl rfl (dn ?_)))))))))
       have hB485 : B_i_ReadTable_0 p_0 k42 (x110, x111) = .cont (false, (x111 ++ ([(⟨((g_strings_Split ((g_strings_Split ((g_strings_Cut p_0 ([41] : Str)).2.1) ([32] : Str)).getD k42 d_Str) ([47] : Str)).getD 0 d_Str), (g_slices_Index_string (g_strings_Split ((g_strings_Cut ((g_strings_Cut p_0 ([41] : Str)).1) ([40] : Str)).2.1) ([44] : Str)) ((g_strings_Split ((g_strings_Split ((g_strings_Cut p_0 ([41] : Str)).2.1) ([32] : Str)).getD k42 d_Str) ([47] : Str)).getD 1 d_Str)), (i_readInt ((g_strings_Split ((g_strings_Split ((g_strings_Cut p_0 ([41] : Str)).2.1) ([32] : Str)).getD k42 d_Str) ([47] : Str)).getD 2 d_Str) 0 3).1⟩ : DIdx)] : List DIdx))) := by simp only [B_i_ReadTable_0, hb163, hb172, hb179, cL]
       exact ⟨(g_strings_Split ((g_strings_Cut p_0 ([41] : Str)).2.1) ([32] : Str)).length - (k42 + 1), by omega, k42 + 1, false, (x111 ++ ([(⟨((g_strings_Split ((g_strings_Split ((g_strings_Cut p_0 ([41] : Str)).2.1) ([32] : Str)).getD k42 d_Str) ([47] : Str)).getD 0 d_Str), (g_slices_Index_string (g_strings_Split ((g_strings_Cut ((g_strings_Cut p_0 ([41] : Str)).1) ([40] : Str)).2.1) ([44] : Str)) ((g_strings_Split ((g_strings_Split ((g_strings_Cut p_0 ([41] : Str)).2.1) ([32] : Str)).getD k42 d_Str) ([47] : Str)).getD 1 d_Str)), (i_readInt ((g_strings_Split ((g_strings_Split ((g_strings_Cut p_0 ([41] : Str)).2.1) ([32] : Str)).getD k42 d_Str) ([47] : Str)).getD 2 d_Str) 0 3).1⟩ : DIdx)] : List DIdx)), A473, c474, w475.heap.size, rfl, hlt160, (by omega), rfl, rfl, rfl, rfl, rfl, rfl, rfl, rfl, (Box.only (Box.grown (Box.ex (Box.ex (Box.ex hf149 hE169) hE178) hE450) hG478 (fun k hk => by have := hrg479 k hk; omega)) hO484 (by omega)), hB483, (OwnL.only good_Str (OwnL.grown good_Str (OwnL.ex good_Str q351 hE450) hG478 (fun k hk => by have := hrg479 k hk; omega)) hO484 (by omega)), (OwnL.only good_Idx hO477 hO484 (by omega)), (OwnL.only good_Str (OwnL.grown good_Str (OwnL.ex good_Str (OwnL.ex good_Str (OwnL.ex good_Str hf153 hE169) hE178) hE450) hG478 (fun k hk => by have := hrg479 k hk; omega)) hO484 (by omega)), (Below.only (Below.grown (Ex.trans (Ex.trans q175 hE178) hE450) hG478 (by omega) (fun k hk => by have := hrg479 k hk; omega)) hO484 (by omega)), (by omega), (by first | omega | (simp only [List.length_append, List.length_cons, List.length_nil, List.length_set, toS_length]; omega)), (okE.append hok157 ((okL.mk (Nat.le_of_ble_eq_true rfl) (okE.cons (show ok_Idx (⟨((g_strings_Split ((g_strings_Split ((g_strings_Cut p_0 ([41] : Str)).2.1) ([32] : Str)).getD k42 d_Str) ([47] : Str)).getD 0 d_Str), (g_slices_Index_string (g_strings_Split ((g_strings_Cut ((g_strings_Cut p_0 ([41] : Str)).1) ([40] : Str)).2.1) ([44] : Str)) ((g_strings_Split ((g_strings_Split ((g_strings_Cut p_0 ([41] : Str)).2.1) ([32] : Str)).getD k42 d_Str) ([47] : Str)).getD 1 d_Str)), (i_readInt ((g_strings_Split ((g_strings_Split ((g_strings_Cut p_0 ([41] : Str)).2.1) ([32] : Str)).getD k42 d_Str) ([47] : Str)).getD 2 d_Str) 0 3).1⟩ : DIdx) from (okL.getD ho167 ok_d_Str _)) okE.nil))).2), (loopM.cont hlt160 hB485).symm.trans hI139⟩
    ·have hb172p := dec_f hb172
     refine CW.cond_t rfl (not_f hb172) (CW.seq (CW.region (sd rfl (yl_build (cs := [.string (bs (([] : Str))), .slice none 0 0, .slice none 0 0]) rfl opvs_nil (by kernel_rfl) (SeqR.u rfl rfl (yl_store (vs := [.string (bs (([] : Str))), .slice none 0 0, .slice none 0 0]) ty25 rfl rfl rfl rfl rfl rfl (Box.ex hf149 hE169) (Nat.le_of_ble_eq_true rfl) ?_))))))
     intro w505 hB506 hO507
     have hB506 : Box w505 b3 25 [.string (bs (([] : Str))), .slice none 0 0, .slice none 0 0] := hB506
     have hO507z := hO507.size
     refine sd rfl (yl_assign rfl rfl (dn (CW.ret (tr (br (tr (tr ?_)))))))
     have hB509 : B_i_ReadTable_0 p_0 k42 (x110, x111) = .ret ((⟨([] : Str), [], []⟩ : DTable), false) := by simp only [B_i_ReadTable_0, hb163, hb172, cL]
     have hL508 : loopM (B_i_ReadTable_0 p_0) ((g_strings_Split ((g_strings_Cut p_0 ([41] : Str)).2.1) ([32] : Str)).length - 0) 0 ((g_strings_Cut p_0 ([41] : Str)).2.2, ([] : List DIdx)) = .ret ((⟨([] : Str), [], []⟩ : DTable), false) := hI139.symm.trans (loopM.ret hlt160 hB509)
     refine br (tr (rr rfl (.cons ⟨_, rfl, run_loadN ty25 (cs := [.string (bs (([] : Str))), .slice none 0 0, .slice none 0 0]) rfl (hB506.cells (n := 3) rfl)⟩ (.cons rfl .nil)) ?_))
     have hM510 : (i_ReadTable p_0) = (((⟨([] : Str), [], []⟩ : DTable), false)) := by simp only [i_ReadTable, hb163, hb172, hL508, cL]
     rw [hM510]
     exact ⟨none, 0, w505.heap.size, w505.heap.size, none, 0, w505.heap.size, w505.heap.size, rfl, (OwnL.nil _ _ _ _ _ _), (OwnL.nil _ _ _ _ _ _), ⟨(okS.lit rfl), (okL.nil _), (okL.nil _)⟩, (by omega), (by omega), (by omega), (Below.only (Ex.trans hf154 hE169) hO507 (by omega))⟩
  ·refine CW.seq (CW.region (sd rfl (yl_lss rfl rfl rfl (dn (CW.seq (CW.cond_f rfl (lt_f hlt160) (CW.exit (tx ?_))))))))
   refine tx ?_
   have hL513 : loopM (B_i_ReadTable_0 p_0) ((g_strings_Split ((g_strings_Cut p_0 ([41] : Str)).2.1) ([32] : Str)).length - 0) 0 ((g_strings_Cut p_0 ([41] : Str)).2.2, ([] : List DIdx)) = .done (x110, x111) := hI139.symm.trans (loopM.stop hlt160)
   refine bx (tn (CW.seq (CW.seq (CW.region (sd rfl (yl_move rfl rfl (sd rfl (yl_not rfl rfl (sd rfl (yl_move rfl rfl (bcase (x110) (fun hb514 => ?_) (fun hb514 => ?_))))))))))))
   ·refine sy rfl rfl (not_t hb514) (yl_move rfl rfl (sy rfl rfl (not_t hb514) (yl_not rfl rfl (sd rfl (yl_pick_f rfl rfl (not_t hb514) rfl (sd rfl (yl_move rfl rfl (bcase ((g_strings_Cut ((g_strings_Cut p_0 ([41] : Str)).1) ([40] : Str)).2.2) (fun hb515 => ?_) (fun hb515 => ?_)))))))))
    ·refine sy rfl rfl (not_t hb515) (yl_loadN ty25 rfl rfl (hf150.cells (n := 3) rfl) rfl (sy rfl rfl (not_t hb515) (yl_call en17 rfl (oc rfl oz) (Cal.mono (c_i_GoodTable (⟨(g_strings_Cut ((g_strings_Cut p_0 ([41] : Str)).1) ([40] : Str)).1, (g_strings_Split ((g_strings_Cut ((g_strings_Cut p_0 ([41] : Str)).1) ([40] : Str)).2.1) ([44] : Str)), x111⟩ : DTable) (RdS.up (OwnL.rd good_Str hf151) good_Str) (RdS.up (OwnL.rd good_Idx hf152) good_Idx) (⟨ho15, ho21, (okL.mk (xs := x111) (by first | omega | (simp only [List.length_append, List.length_cons, List.length_nil, List.length_take, List.length_drop, List.length_replicate, List.length_set, toS_length]; omega)) hok157)⟩)) ?_))))
     rintro v519 w518 ⟨rfl, hE520⟩
     have hE520z := Ex.size hE520
     refine sy rfl rfl (not_t hb515) (yl_not rfl rfl (sd rfl (yl_pick_f rfl rfl (not_t hb515) rfl (sd rfl (yl_move rfl rfl (bcase (i_GoodTable (⟨(g_strings_Cut ((g_strings_Cut p_0 ([41] : Str)).1) ([40] : Str)).1, (g_strings_Split ((g_strings_Cut ((g_strings_Cut p_0 ([41] : Str)).1) ([40] : Str)).2.1) ([44] : Str)), x111⟩ : DTable)) (fun hb521 => ?_) (fun hb521 => ?_)))))))
     ·have hb521p := f_i_GoodTable hb521
      have q522 := Box.ex hf150 hE520
      refine sy rfl rfl (not_t hb521) (yl_loadN ty25 rfl rfl (q522.cells (n := 3) rfl) rfl ?_)
      have q524 := OwnL.ex good_Str hf151 hE520
      have q526 := OwnL.ex good_Idx hf152 hE520
      refine sy rfl rfl (not_t hb521) (yl_call en18 rfl (oc rfl oz) (Cal.mono (c_i_tableText (⟨(g_strings_Cut ((g_strings_Cut p_0 ([41] : Str)).1) ([40] : Str)).1, (g_strings_Split ((g_strings_Cut ((g_strings_Cut p_0 ([41] : Str)).1) ([40] : Str)).2.1) ([44] : Str)), x111⟩ : DTable) (RdS.up (OwnL.rd good_Str q524) good_Str) (RdS.up (OwnL.rd good_Idx q526) good_Idx) (⟨ho15, ho21, (okL.mk (xs := x111) (by first | omega | (simp only [List.length_append, List.length_cons, List.length_nil, List.length_take, List.length_drop, List.length_replicate, List.length_set, toS_length]; omega)) hok157)⟩) (GoodTable_eq _ ▸ hb521)) ?_))
      rintro v528 w527 ⟨rfl, hE529⟩
      have hE529z := Ex.size hE529
      refine sy rfl rfl (not_t hb521) (yl_move rfl rfl (sy rfl rfl (not_t hb521) (yl_sneq (a := (i_tableText (⟨(g_strings_Cut ((g_strings_Cut p_0 ([41] : Str)).1) ([40] : Str)).1, (g_strings_Split ((g_strings_Cut ((g_strings_Cut p_0 ([41] : Str)).1) ([40] : Str)).2.1) ([44] : Str)), x111⟩ : DTable))) (b := p_0) rfl rfl rfl (sd rfl (yl_pick_f rfl rfl (not_t hb521) rfl (dn (bcase ((i_tableText (⟨(g_strings_Cut ((g_strings_Cut p_0 ([41] : Str)).1) ([40] : Str)).1, (g_strings_Split ((g_strings_Cut ((g_strings_Cut p_0 ([41] : Str)).1) ([40] : Str)).2.1) ([44] : Str)), x111⟩ : DTable)) == p_0) (fun hb530 => ?_) (fun hb530 => ?_))))))))
      ·refine CW.cond_f rfl (not_t hb530) (CW.skip (tn (CW.seq (CW.region (sd rfl (yl_loadN ty25 rfl rfl ((Box.ex q522 hE529).cells (n := 3) rfl) rfl (SeqR.u rfl rfl (yl_store (vs := [.string (bs ((g_strings_Cut ((g_strings_Cut p_0 ([41] : Str)).1) ([40] : Str)).1)), .slice A20 ((g_strings_Split ((g_strings_Cut ((g_strings_Cut p_0 ([41] : Str)).1) ([40] : Str)).2.1) ([44] : Str)).length) c20, .slice A112 x111.length c113]) ty25 rfl rfl rfl rfl rfl rfl (Box.ex (Box.ex hf149 hE520) hE529) (Nat.le_of_ble_eq_true rfl) ?_))))))))
       intro w534 hB535 hO536
       have hB535 : Box w534 b3 25 [.string (bs ((g_strings_Cut ((g_strings_Cut p_0 ([41] : Str)).1) ([40] : Str)).1)), .slice A20 ((g_strings_Split ((g_strings_Cut ((g_strings_Cut p_0 ([41] : Str)).1) ([40] : Str)).2.1) ([44] : Str)).length) c20, .slice A112 x111.length c113] := hB535
       have hO536z := hO536.size
       refine sd rfl (yl_assign rfl rfl (dn (CW.ret (rr rfl (.cons ⟨_, rfl, run_loadN ty25 (cs := [.string (bs ((g_strings_Cut ((g_strings_Cut p_0 ([41] : Str)).1) ([40] : Str)).1)), .slice A20 ((g_strings_Split ((g_strings_Cut ((g_strings_Cut p_0 ([41] : Str)).1) ([40] : Str)).2.1) ([44] : Str)).length) c20, .slice A112 x111.length c113]) rfl (hB535.cells (n := 3) rfl)⟩ (.cons rfl .nil)) ?_))))
       have hM537 : (i_ReadTable p_0) = (((⟨(g_strings_Cut ((g_strings_Cut p_0 ([41] : Str)).1) ([40] : Str)).1, (g_strings_Split ((g_strings_Cut ((g_strings_Cut p_0 ([41] : Str)).1) ([40] : Str)).2.1) ([44] : Str)), x111⟩ : DTable), true)) := by simp only [i_ReadTable, hb514, hb515, hb521, hb530, hL513, cL]
       rw [hM537]
       exact ⟨A20, c20, lo20, hi20, A112, c113, w35.heap.size, u114, rfl, (OwnL.only good_Str (OwnL.ex good_Str q524 hE529) hO536 (by omega)), (OwnL.only good_Idx (OwnL.ex good_Idx q526 hE529) hO536 (by omega)), ⟨ho15, ho21, (okL.mk (xs := x111) (by first | omega | (simp only [List.length_append, List.length_cons, List.length_nil, List.length_take, List.length_drop, List.length_replicate, List.length_set, toS_length]; omega)) hok157)⟩, (by omega), (by omega), (by omega), (Below.only (Ex.trans (Ex.trans hf154 hE520) hE529) hO536 (by omega))⟩
      ·refine CW.cond_t rfl (not_f hb530) (CW.seq (CW.region (sd rfl (yl_build (cs := [.string (bs (([] : Str))), .slice none 0 0, .slice none 0 0]) rfl opvs_nil (by kernel_rfl) (SeqR.u rfl rfl (yl_store (vs := [.string (bs (([] : Str))), .slice none 0 0, .slice none 0 0]) ty25 rfl rfl rfl rfl rfl rfl (Box.ex (Box.ex hf149 hE520) hE529) (Nat.le_of_ble_eq_true rfl) ?_))))))
       intro w547 hB548 hO549
       have hB548 : Box w547 b3 25 [.string (bs (([] : Str))), .slice none 0 0, .slice none 0 0] := hB548
       have hO549z := hO549.size
       refine sd rfl (yl_assign rfl rfl (dn (CW.ret (tr (rr rfl (.cons ⟨_, rfl, run_loadN ty25 (cs := [.string (bs (([] : Str))), .slice none 0 0, .slice none 0 0]) rfl (hB548.cells (n := 3) rfl)⟩ (.cons rfl .nil)) ?_)))))
       have hM550 : (i_ReadTable p_0) = (((⟨([] : Str), [], []⟩ : DTable), false)) := by simp only [i_ReadTable, hb514, hb515, hb521, hb530, hL513, cL]
       rw [hM550]
       exact ⟨none, 0, w547.heap.size, w547.heap.size, none, 0, w547.heap.size, w547.heap.size, rfl, (OwnL.nil _ _ _ _ _ _), (OwnL.nil _ _ _ _ _ _), ⟨(okS.lit rfl), (okL.nil _), (okL.nil _)⟩, (by omega), (by omega), (by omega), (Below.only (Ex.trans (Ex.trans hf154 hE520) hE529) hO549 (by omega))⟩
     ·refine sz rfl rfl (not_f hb521) (sz rfl rfl (not_f hb521) (sz rfl rfl (not_f hb521) (sz rfl rfl (not_f hb521) (sd rfl (yl_pick_t rfl rfl (not_f hb521) rfl (dn (CW.cond_t rfl rfl (CW.seq ?_))))))))
      refine CW.region (sd rfl (yl_build (cs := [.string (bs (([] : Str))), .slice none 0 0, .slice none 0 0]) rfl opvs_nil (by kernel_rfl) (SeqR.u rfl rfl (yl_store (vs := [.string (bs (([] : Str))), .slice none 0 0, .slice none 0 0]) ty25 rfl rfl rfl rfl rfl rfl (Box.ex hf149 hE520) (Nat.le_of_ble_eq_true rfl) ?_))))
      intro w555 hB556 hO557
      have hB556 : Box w555 b3 25 [.string (bs (([] : Str))), .slice none 0 0, .slice none 0 0] := hB556
      have hO557z := hO557.size
      refine sd rfl (yl_assign rfl rfl (dn (CW.ret (tr (rr rfl (.cons ⟨_, rfl, run_loadN ty25 (cs := [.string (bs (([] : Str))), .slice none 0 0, .slice none 0 0]) rfl (hB556.cells (n := 3) rfl)⟩ (.cons rfl .nil)) ?_)))))
      have hM558 : (i_ReadTable p_0) = (((⟨([] : Str), [], []⟩ : DTable), false)) := by simp only [i_ReadTable, hb514, hb515, hb521, hL513, cL]
      rw [hM558]
      exact ⟨none, 0, w555.heap.size, w555.heap.size, none, 0, w555.heap.size, w555.heap.size, rfl, (OwnL.nil _ _ _ _ _ _), (OwnL.nil _ _ _ _ _ _), ⟨(okS.lit rfl), (okL.nil _), (okL.nil _)⟩, (by omega), (by omega), (by omega), (Below.only (Ex.trans hf154 hE520) hO557 (by omega))⟩
    ·refine sz rfl rfl (not_f hb515) (sz rfl rfl (not_f hb515) (sz rfl rfl (not_f hb515) (sd rfl (yl_pick_t rfl rfl (not_f hb515) rfl (sd rfl (yl_move rfl rfl (sz rfl rfl rfl (sz rfl rfl rfl (sz rfl rfl rfl (sz rfl rfl rfl ?_))))))))))
     refine sd rfl (yl_pick_t rfl rfl rfl rfl (dn (CW.cond_t rfl rfl (CW.seq (CW.region (sd rfl (yl_build (cs := [.string (bs (([] : Str))), .slice none 0 0, .slice none 0 0]) rfl opvs_nil (by kernel_rfl) (SeqR.u rfl rfl (yl_store (vs := [.string (bs (([] : Str))), .slice none 0 0, .slice none 0 0]) ty25 rfl rfl rfl rfl rfl rfl hf149 (Nat.le_of_ble_eq_true rfl) ?_)))))))))
     intro w561 hB562 hO563
     have hB562 : Box w561 b3 25 [.string (bs (([] : Str))), .slice none 0 0, .slice none 0 0] := hB562
     have hO563z := hO563.size
     refine sd rfl (yl_assign rfl rfl (dn (CW.ret (tr (rr rfl (.cons ⟨_, rfl, run_loadN ty25 (cs := [.string (bs (([] : Str))), .slice none 0 0, .slice none 0 0]) rfl (hB562.cells (n := 3) rfl)⟩ (.cons rfl .nil)) ?_)))))
     have hM564 : (i_ReadTable p_0) = (((⟨([] : Str), [], []⟩ : DTable), false)) := by simp only [i_ReadTable, hb514, hb515, hL513, cL]
     rw [hM564]
     exact ⟨none, 0, w561.heap.size, w561.heap.size, none, 0, w561.heap.size, w561.heap.size, rfl, (OwnL.nil _ _ _ _ _ _), (OwnL.nil _ _ _ _ _ _), ⟨(okS.lit rfl), (okL.nil _), (okL.nil _)⟩, (by omega), (by omega), (by omega), (Below.only hf154 hO563 (by omega))⟩
   ·refine sz rfl rfl (not_f hb514) (sz rfl rfl (not_f hb514) (sd rfl (yl_pick_t rfl rfl (not_f hb514) rfl (sd rfl (yl_move rfl rfl (sz rfl rfl rfl (sz rfl rfl rfl (sz rfl rfl rfl (sd rfl (yl_pick_t rfl rfl rfl rfl (sd rfl (yl_move rfl rfl ?_))))))))))))
    refine sz rfl rfl rfl (sz rfl rfl rfl (sz rfl rfl rfl (sz rfl rfl rfl (sd rfl (yl_pick_t rfl rfl rfl rfl (dn (CW.cond_t rfl rfl (CW.seq ?_))))))))
    refine CW.region (sd rfl (yl_build (cs := [.string (bs (([] : Str))), .slice none 0 0, .slice none 0 0]) rfl opvs_nil (by kernel_rfl) (SeqR.u rfl rfl (yl_store (vs := [.string (bs (([] : Str))), .slice none 0 0, .slice none 0 0]) ty25 rfl rfl rfl rfl rfl rfl hf149 (Nat.le_of_ble_eq_true rfl) ?_))))
    intro w566 hB567 hO568
    have hB567 : Box w566 b3 25 [.string (bs (([] : Str))), .slice none 0 0, .slice none 0 0] := hB567
    have hO568z := hO568.size
    refine sd rfl (yl_assign rfl rfl (dn (CW.ret (tr (rr rfl (.cons ⟨_, rfl, run_loadN ty25 (cs := [.string (bs (([] : Str))), .slice none 0 0, .slice none 0 0]) rfl (hB567.cells (n := 3) rfl)⟩ (.cons rfl .nil)) ?_)))))
    have hM569 : (i_ReadTable p_0) = (((⟨([] : Str), [], []⟩ : DTable), false)) := by simp only [i_ReadTable, hb514, hL513, cL]
    rw [hM569]
    exact ⟨none, 0, w566.heap.size, w566.heap.size, none, 0, w566.heap.size, w566.heap.size, rfl, (OwnL.nil _ _ _ _ _ _), (OwnL.nil _ _ _ _ _ _), ⟨(okS.lit rfl), (okL.nil _), (okL.nil _)⟩, (by omega), (by omega), (by omega), (Below.only hf154 hO568 (by omega))⟩
theorem c_l_eqStringS {A1 : Option Addr} {c1 : Nat} {A2 : Option Addr} {c2 : Nat} {w : World} (p_a : List Str) (p_b : List Str) (h1 : RdS w (Iv 0 w.heap.size) (RF e_Str) 1 A1 p_a.length c1 p_a) (h2 : RdS w (Iv 0 w.heap.size) (RF e_Str) 1 A2 p_b.length c2 p_b) : Cal Tryd.prog 19 #[.slice A1 p_a.length c1, .slice A2 p_b.length c2] w fun v w' => v = .bool ((l_eqStringS p_a p_b)) ∧ Ex w w' := by
 refine Cal.of func19 rfl ntmps19 rfl (CW.seq (CW.region (sd rfl (yl_assign rfl rfl (dn (CW.seq (CW.seq (CW.region ?_))))))))
 refine sd rfl (yl_move rfl rfl (sd rfl (yl_len un22 rfl rfl (sd rfl (yl_move rfl rfl (sd rfl (yl_len un22 rfl rfl (sd rfl (yl_neq rfl rfl rfl (dn (bcase (decide ((p_a.length : Int) = (p_b.length : Int))) (fun hb3 => ?_) (fun hb3 => ?_))))))))))))
 ·have hb3p := dec_t hb3
  refine CW.cond_f rfl (not_t hb3) (CW.skip (tn (CW.seq (CW.seq (CW.region (sd rfl (yl_assign rfl rfl (dn ?_))))))))
  refine CW.block (CW.loop (fun m5 L6 w7 => ∃ (k4 : Nat), m5 = p_a.length - k4 ∧ k4 ≤ p_a.length ∧ w.heap.size ≤ w7.heap.size ∧ lkp L6 0 = some (.slice A1 p_a.length c1) ∧ lkp L6 1 = some (.slice A2 p_b.length c2) ∧ lkp L6 5 = some (.int .i64 ((k4 : Int))) ∧ RdS w7 (Iv 0 w.heap.size) (RF e_Str) 1 A1 p_a.length c1 p_a ∧ RdS w7 (Iv 0 w.heap.size) (RF e_Str) 1 A2 p_b.length c2 p_b ∧ Ex w w7 ∧ loopM (B_l_eqStringS_0 p_a p_b) (p_a.length - k4) k4 () = loopM (B_l_eqStringS_0 p_a p_b) (p_a.length - 0) 0 ()) (p_a.length - 0) ?_ ?_)
  ·exact ⟨0, rfl, (by omega), Nat.le_refl _, rfl, rfl, rfl, h1, h2, (Ex.refl w), rfl⟩
  ·rintro m8 L9 w10 ⟨k4, rfl, hk11, hsz13, hl14, hl15, hl16, hf17, hf18, hf19, hI12⟩
   refine CW.sub (Sub.cons hl14 (Sub.cons hl15 (Sub.cons hl16 (Sub.nil _)))) ?_
   have hf19z := Ex.size hf19
   have hbg20 := RdS.big hf17
   rcases Nat.lt_or_ge k4 p_a.length with hlt21 | hlt21
   ·refine CW.seq (CW.seq (CW.region (sd rfl (yl_move rfl rfl (sd rfl (yl_move rfl rfl (sd rfl (yl_len un22 rfl rfl (sd rfl (yl_lss rfl rfl rfl (dn ?_)))))))))))
    refine CW.cond_t rfl (lt_t hlt21) (CW.skip (tn (CW.seq (CW.block (CW.seq ?_)))))
    obtain ⟨eb22, eo22, _, eA22, _, ebl22, _, eR22, eC22⟩ := RdS.aD hf17 d_Str (i := k4)
    obtain rfl := eR22
    have eC22 : Cells w10 eb22 (eo22 + k4 * 1) [.string (bs ((p_a.getD k4 d_Str)))] := eC22
    obtain ⟨eb23, eo23, _, eA23, _, ebl23, _, eR23, eC23⟩ := RdS.aD hf18 d_Str (i := k4)
    obtain rfl := eR23
    have eC23 : Cells w10 eb23 (eo23 + k4 * 1) [.string (bs ((p_b.getD k4 d_Str)))] := eC23
    refine CW.drawsI 9 (vgetI ([.slice A1 p_a.length c1, .int .i64 ((k4 : Int)), .pointer (some ⟨eb22, eo22 + k4 * 1, none⟩), .string (bs ((p_a.getD k4 d_Str))), .slice A2 p_b.length c2, .int .i64 ((k4 : Int)), .pointer (some ⟨eb23, eo23 + k4 * 1, none⟩), .string (bs ((p_b.getD k4 d_Str))), .bool (!((p_a.getD k4 d_Str) == (p_b.getD k4 d_Str)))].map DetI)) Tryd.follows rfl rfl rfl rfl rfl rfl (vgetI_stable (stD _)) ⟨?_, ?_, ?_, ?_, ?_, ?_, ?_, ?_, ?_, trivial⟩ ?_
    ·exact oI rfl fun h => yl_move rfl (h.old 0 _ rfl rfl) kI
    ·exact oI rfl fun h => yl_move rfl (h.old 5 _ rfl rfl) kI
    ·intro L34 w35 hi36
     have hE37 := hi36.ex
     have hE37z := Ex.size hE37
     exact os rfl ((yl_ixN un22 ty9 rfl (hi36.dt 0 17 rfl rfl rfl) (hi36.dt 1 18 rfl rfl rfl) eA22 kI))
    ·exact oI rfl fun h => yl_load1 ty9 rfl (h.dt 2 19 rfl rfl rfl) ((Cells.ex eC22 h.ex) 0 _ rfl) kI
    ·exact oI rfl fun h => yl_move rfl (h.old 1 _ rfl rfl) kI
    ·exact oI rfl fun h => yl_move rfl (h.old 5 _ rfl rfl) kI
    ·intro L56 w57 hi58
     have hE59 := hi58.ex
     have hE59z := Ex.size hE59
     exact os rfl ((yl_ixN un22 ty9 rfl (hi58.dt 4 21 rfl rfl rfl) (hi58.dt 5 22 rfl rfl rfl) eA23 kI))
    ·exact oI rfl fun h => yl_load1 ty9 rfl (h.dt 6 23 rfl rfl rfl) ((Cells.ex eC23 h.ex) 0 _ rfl) kI
    ·exact oI rfl fun h => yl_sneq (a := (p_a.getD k4 d_Str)) (b := (p_b.getD k4 d_Str)) rfl (h.dt 3 20 rfl rfl rfl) (h.dt 7 24 rfl rfl rfl) kI
    ·intro fl77 fh78 L74 w75 hp76
     have hE79 := hp76.ex
     have hE79z := Ex.size hE79
     refine dn (CW.sub (Sub.cons (d := 0) (hp76.old 0 _ rfl rfl) (Sub.cons (d := 1) (hp76.old 1 _ rfl rfl) (Sub.cons (d := 5) (hp76.old 5 _ rfl rfl) (Sub.cons (d := 25) (hp76.nt 8 25 rfl rfl rfl) (Sub.nil _))))) (bcase ((p_a.getD k4 d_Str) == (p_b.getD k4 d_Str)) (fun hb84 => ?_) (fun hb84 => ?_)))
     ·refine CW.cond_f rfl (not_t hb84) (CW.skip (bn (tn (CW.region (sd rfl (yl_move rfl rfl (sd rfl (yl_inc rfl rfl rfl (by omega) (sd rfl (yl_assign rfl rfl (SeqR.done ?_)))))))))))
      refine tn ?_
      have hB85 : B_l_eqStringS_0 p_a p_b k4 () = .cont () := by simp only [B_l_eqStringS_0, hb3, hb84, cL]
      exact ⟨p_a.length - (k4 + 1), by omega, k4 + 1, rfl, hlt21, (by omega), rfl, rfl, rfl, (RdS.ex good_Str hf17 hE79), (RdS.ex good_Str hf18 hE79), (Ex.trans hf19 hE79), (loopM.cont hlt21 hB85).symm.trans hI12⟩
     ·refine CW.cond_t rfl (not_f hb84) (CW.seq (CW.region (sd rfl (yl_assign rfl rfl (dn (CW.ret (br (tr ?_))))))))
      refine tr ?_
      have hB90 : B_l_eqStringS_0 p_a p_b k4 () = .ret false := by simp only [B_l_eqStringS_0, hb3, hb84, cL]
      have hL89 : loopM (B_l_eqStringS_0 p_a p_b) (p_a.length - 0) 0 () = .ret false := hI12.symm.trans (loopM.ret hlt21 hB90)
      refine br (tr (rr rfl (.cons rfl .nil) ?_))
      have hM91 : (l_eqStringS p_a p_b) = (false) := by simp only [l_eqStringS, hb3, hb84, hL89, cL]
      rw [hM91]
      exact ⟨rfl, (Ex.trans hf19 hE79)⟩
   ·refine CW.seq (CW.seq (CW.region (sd rfl (yl_move rfl rfl (sd rfl (yl_move rfl rfl (sd rfl (yl_len un22 rfl rfl (sd rfl (yl_lss rfl rfl rfl (dn ?_)))))))))))
    refine CW.cond_f rfl (lt_f hlt21) (CW.exit (tx (tx ?_)))
    have hL93 : loopM (B_l_eqStringS_0 p_a p_b) (p_a.length - 0) 0 () = .done () := hI12.symm.trans (loopM.stop hlt21)
    refine bx (tn (CW.seq (CW.region (sd rfl (yl_assign rfl rfl (dn (CW.ret (rr rfl (.cons rfl .nil) ?_))))))))
    have hM94 : (l_eqStringS p_a p_b) = (true) := by simp only [l_eqStringS, hb3, hL93, cL]
    rw [hM94]
    exact ⟨rfl, hf19⟩
 ·have hb3p := dec_f hb3
  refine CW.cond_t rfl (not_f hb3) (CW.seq (CW.region (sd rfl (yl_assign rfl rfl (dn (CW.ret (tr (rr rfl (.cons rfl .nil) ?_))))))))
  have hM95 : (l_eqStringS p_a p_b) = (false) := by simp only [l_eqStringS, hb3, cL]
  rw [hM95]
  exact ⟨rfl, (Ex.refl w)⟩
theorem c_l_eqIdx {w : World} (p_a : DIdx) (p_b : DIdx) : Cal Tryd.prog 40 #[.agg #[.string (bs (p_a.Name)), .int .i64 (p_a.Col), .int .i64 (p_a.Stage)], .agg #[.string (bs (p_b.Name)), .int .i64 (p_b.Col), .int .i64 (p_b.Stage)]] w fun v w' => v = .bool ((l_eqIdx p_a p_b)) ∧ Ex w w' := by
 refine Cal.of func40 rfl ntmps40 rfl (CW.seq (CW.region (sd rfl (yl_box rfl rfl rfl ?_))))
 intro b1 w2 hs3 hz4 hB5 hE6
 refine sd rfl (yl_box rfl rfl rfl ?_)
 intro b7 w8 hs9 hz10 hB11 hE12
 refine sd rfl (yl_assign rfl rfl (dn (CW.seq (CW.seq (CW.region (sd rfl (yl_fieldAddr fd33_0 rfl rfl ?_)))))))
 have q13 := Box.ex hB5 hE12
 refine sd rfl (yl_load1 ty9 rfl rfl ((q13.cell 0).trans rfl) (sd rfl (yl_fieldAddr fd33_0 rfl rfl (sd rfl (yl_load1 ty9 rfl rfl ((hB11.cell 0).trans rfl) (sd rfl (yl_sneq (a := p_a.Name) (b := p_b.Name) rfl rfl rfl (dn (bcase (p_a.Name == p_b.Name) (fun hb14 => ?_) (fun hb14 => ?_))))))))))
 ·refine CW.cond_f rfl (not_t hb14) (CW.skip (tn (CW.seq (CW.seq (CW.region (sd rfl (yl_fieldAddr fd33_1 rfl rfl (sd rfl (yl_load1 ty3 rfl rfl ((q13.cell 1).trans rfl) (sd rfl (yl_fieldAddr fd33_1 rfl rfl ?_)))))))))))
  refine sd rfl (yl_load1 ty3 rfl rfl ((hB11.cell 1).trans rfl) (sd rfl (yl_neq rfl rfl rfl (dn (bcase (decide (p_a.Col = p_b.Col)) (fun hb15 => ?_) (fun hb15 => ?_))))))
  ·have hb15p := dec_t hb15
   refine CW.cond_f rfl (not_t hb15) (CW.skip (tn (CW.seq (CW.seq (CW.region (sd rfl (yl_fieldAddr fd33_2 rfl rfl (sd rfl (yl_load1 ty3 rfl rfl ((q13.cell 2).trans rfl) (sd rfl (yl_fieldAddr fd33_2 rfl rfl ?_)))))))))))
   refine sd rfl (yl_load1 ty3 rfl rfl ((hB11.cell 2).trans rfl) (sd rfl (yl_neq rfl rfl rfl (dn (bcase (decide (p_a.Stage = p_b.Stage)) (fun hb16 => ?_) (fun hb16 => ?_))))))
   ·have hb16p := dec_t hb16
    refine CW.cond_f rfl (not_t hb16) (CW.skip (tn (CW.seq (CW.region (sd rfl (yl_assign rfl rfl (dn (CW.ret ?_))))))))
    refine rr rfl (.cons rfl .nil) ?_
    have hM17 : (l_eqIdx p_a p_b) = (true) := by simp only [l_eqIdx, hb14, hb15, hb16, cL]
    rw [hM17]
    exact ⟨rfl, (Ex.trans (Ex.trans (Ex.refl w) hE6) hE12)⟩
   ·have hb16p := dec_f hb16
    refine CW.cond_t rfl (not_f hb16) (CW.seq (CW.region (sd rfl (yl_assign rfl rfl (dn (CW.ret (tr (rr rfl (.cons rfl .nil) ?_))))))))
    have hM20 : (l_eqIdx p_a p_b) = (false) := by simp only [l_eqIdx, hb14, hb15, hb16, cL]
    rw [hM20]
    exact ⟨rfl, (Ex.trans (Ex.trans (Ex.refl w) hE6) hE12)⟩
  ·have hb15p := dec_f hb15
   refine CW.cond_t rfl (not_f hb15) (CW.seq (CW.region (sd rfl (yl_assign rfl rfl (dn (CW.ret (tr (rr rfl (.cons rfl .nil) ?_))))))))
   have hM23 : (l_eqIdx p_a p_b) = (false) := by simp only [l_eqIdx, hb14, hb15, cL]
   rw [hM23]
   exact ⟨rfl, (Ex.trans (Ex.trans (Ex.refl w) hE6) hE12)⟩
 ·refine CW.cond_t rfl (not_f hb14) (CW.seq (CW.region (sd rfl (yl_assign rfl rfl (dn (CW.ret (tr (rr rfl (.cons rfl .nil) ?_))))))))
  have hM26 : (l_eqIdx p_a p_b) = (false) := by simp only [l_eqIdx, hb14, cL]
  rw [hM26]
  exact ⟨rfl, (Ex.trans (Ex.trans (Ex.refl w) hE6) hE12)⟩
theorem c_l_eqIdxS {A1 : Option Addr} {c1 : Nat} {A2 : Option Addr} {c2 : Nat} {w : World} (p_a : List DIdx) (p_b : List DIdx) (h1 : RdS w (Iv 0 w.heap.size) (RF e_Idx) 3 A1 p_a.length c1 p_a) (h2 : RdS w (Iv 0 w.heap.size) (RF e_Idx) 3 A2 p_b.length c2 p_b) : Cal Tryd.prog 20 #[.slice A1 p_a.length c1, .slice A2 p_b.length c2] w fun v w' => v = .bool ((l_eqIdxS p_a p_b)) ∧ Ex w w' := by
 refine Cal.of func20 rfl ntmps20 rfl (CW.seq (CW.region (sd rfl (yl_assign rfl rfl (dn (CW.seq (CW.seq (CW.region ?_))))))))
 refine sd rfl (yl_move rfl rfl (sd rfl (yl_len un23 rfl rfl (sd rfl (yl_move rfl rfl (sd rfl (yl_len un23 rfl rfl (sd rfl (yl_neq rfl rfl rfl (dn (bcase (decide ((p_a.length : Int) = (p_b.length : Int))) (fun hb3 => ?_) (fun hb3 => ?_))))))))))))
 ·have hb3p := dec_t hb3
  refine CW.cond_f rfl (not_t hb3) (CW.skip (tn (CW.seq (CW.seq (CW.region (sd rfl (yl_assign rfl rfl (dn ?_))))))))
  refine CW.block (CW.loop (fun m5 L6 w7 => ∃ (k4 : Nat), m5 = p_a.length - k4 ∧ k4 ≤ p_a.length ∧ w.heap.size ≤ w7.heap.size ∧ lkp L6 0 = some (.slice A1 p_a.length c1) ∧ lkp L6 1 = some (.slice A2 p_b.length c2) ∧ lkp L6 5 = some (.int .i64 ((k4 : Int))) ∧ RdS w7 (Iv 0 w.heap.size) (RF e_Idx) 3 A1 p_a.length c1 p_a ∧ RdS w7 (Iv 0 w.heap.size) (RF e_Idx) 3 A2 p_b.length c2 p_b ∧ Ex w w7 ∧ loopM (B_l_eqIdxS_0 p_a p_b) (p_a.length - k4) k4 () = loopM (B_l_eqIdxS_0 p_a p_b) (p_a.length - 0) 0 ()) (p_a.length - 0) ?_ ?_)
  ·exact ⟨0, rfl, (by omega), Nat.le_refl _, rfl, rfl, rfl, h1, h2, (Ex.refl w), rfl⟩
  ·rintro m8 L9 w10 ⟨k4, rfl, hk11, hsz13, hl14, hl15, hl16, hf17, hf18, hf19, hI12⟩
   refine CW.sub (Sub.cons hl14 (Sub.cons hl15 (Sub.cons hl16 (Sub.nil _)))) ?_
   have hf19z := Ex.size hf19
   have hbg20 := RdS.big hf17
   rcases Nat.lt_or_ge k4 p_a.length with hlt21 | hlt21
   ·refine CW.seq (CW.seq (CW.region (sd rfl (yl_move rfl rfl (sd rfl (yl_move rfl rfl (sd rfl (yl_len un23 rfl rfl (sd rfl (yl_lss rfl rfl rfl (dn ?_)))))))))))
    refine CW.cond_t rfl (lt_t hlt21) (CW.skip (tn (CW.seq (CW.block (CW.seq ?_)))))
    obtain ⟨eb22, eo22, _, eA22, _, ebl22, _, eR22, eC22⟩ := RdS.aD hf17 d_Idx (i := k4)
    obtain rfl := eR22
    have eC22 : Cells w10 eb22 (eo22 + k4 * 3) [.string (bs ((p_a.getD k4 d_Idx).Name)), .int .i64 ((p_a.getD k4 d_Idx).Col), .int .i64 ((p_a.getD k4 d_Idx).Stage)] := eC22
    obtain ⟨eb23, eo23, _, eA23, _, ebl23, _, eR23, eC23⟩ := RdS.aD hf18 d_Idx (i := k4)
    obtain rfl := eR23
    have eC23 : Cells w10 eb23 (eo23 + k4 * 3) [.string (bs ((p_b.getD k4 d_Idx).Name)), .int .i64 ((p_b.getD k4 d_Idx).Col), .int .i64 ((p_b.getD k4 d_Idx).Stage)] := eC23
    refine CW.drawsI 10 (vgetI ([.slice A1 p_a.length c1, .int .i64 ((k4 : Int)), .pointer (some ⟨eb22, eo22 + k4 * 3, none⟩), .agg #[.string (bs ((p_a.getD k4 d_Idx).Name)), .int .i64 ((p_a.getD k4 d_Idx).Col), .int .i64 ((p_a.getD k4 d_Idx).Stage)], .slice A2 p_b.length c2, .int .i64 ((k4 : Int)), .pointer (some ⟨eb23, eo23 + k4 * 3, none⟩), .agg #[.string (bs ((p_b.getD k4 d_Idx).Name)), .int .i64 ((p_b.getD k4 d_Idx).Col), .int .i64 ((p_b.getD k4 d_Idx).Stage)], .bool ((l_eqIdx (p_a.getD k4 d_Idx) (p_b.getD k4 d_Idx))), .bool (!(l_eqIdx (p_a.getD k4 d_Idx) (p_b.getD k4 d_Idx)))].map DetI)) Tryd.follows rfl rfl rfl rfl rfl rfl (vgetI_stable (stD _)) ⟨?_, ?_, ?_, ?_, ?_, ?_, ?_, ?_, ?_, ?_, trivial⟩ ?_
    ·exact oI rfl fun h => yl_move rfl (h.old 0 _ rfl rfl) kI
    ·exact oI rfl fun h => yl_move rfl (h.old 5 _ rfl rfl) kI
    ·intro L35 w36 hi37
     have hE38 := hi37.ex
     have hE38z := Ex.size hE38
     exact os rfl ((yl_ixN un23 ty33 rfl (hi37.dt 0 17 rfl rfl rfl) (hi37.dt 1 18 rfl rfl rfl) eA22 kI))
    ·exact oI rfl fun h => yl_loadN ty33 rfl (h.dt 2 19 rfl rfl rfl) (Cells.ex eC22 h.ex) rfl kI
    ·exact oI rfl fun h => yl_move rfl (h.old 1 _ rfl rfl) kI
    ·exact oI rfl fun h => yl_move rfl (h.old 5 _ rfl rfl) kI
    ·intro L57 w58 hi59
     have hE60 := hi59.ex
     have hE60z := Ex.size hE60
     exact os rfl ((yl_ixN un23 ty33 rfl (hi59.dt 4 21 rfl rfl rfl) (hi59.dt 5 22 rfl rfl rfl) eA23 kI))
    ·exact oI rfl fun h => yl_loadN ty33 rfl (h.dt 6 23 rfl rfl rfl) (Cells.ex eC23 h.ex) rfl kI
    ·intro L69 w70 hi71
     exact OpR.op' rfl (yl_call en40 rfl (oc (hi71.dt 3 20 rfl rfl rfl) (oc (hi71.dt 7 24 rfl rfl rfl) oz)) (Cal.mono (c_l_eqIdx (p_a.getD k4 d_Idx) (p_b.getD k4 d_Idx)) fun _ _ h => h))
    ·exact oI rfl fun h => yl_not rfl (h.dt 8 25 rfl rfl rfl) kI
    ·intro fl86 fh87 L83 w84 hp85
     have hE88 := hp85.ex
     have hE88z := Ex.size hE88
     refine dn (CW.sub (Sub.cons (d := 0) (hp85.old 0 _ rfl rfl) (Sub.cons (d := 1) (hp85.old 1 _ rfl rfl) (Sub.cons (d := 5) (hp85.old 5 _ rfl rfl) (Sub.cons (d := 26) (hp85.nt 9 26 rfl rfl rfl) (Sub.nil _))))) (bcase (l_eqIdx (p_a.getD k4 d_Idx) (p_b.getD k4 d_Idx)) (fun hb93 => ?_) (fun hb93 => ?_)))
     ·refine CW.cond_f rfl (not_t hb93) (CW.skip (bn (tn (CW.region (sd rfl (yl_move rfl rfl (sd rfl (yl_inc rfl rfl rfl (by omega) (sd rfl (yl_assign rfl rfl (SeqR.done ?_)))))))))))
      refine tn ?_
      have hB94 : B_l_eqIdxS_0 p_a p_b k4 () = .cont () := by simp only [B_l_eqIdxS_0, hb3, hb93, cL]
      exact ⟨p_a.length - (k4 + 1), by omega, k4 + 1, rfl, hlt21, (by omega), rfl, rfl, rfl, (RdS.ex good_Idx hf17 hE88), (RdS.ex good_Idx hf18 hE88), (Ex.trans hf19 hE88), (loopM.cont hlt21 hB94).symm.trans hI12⟩
     ·refine CW.cond_t rfl (not_f hb93) (CW.seq (CW.region (sd rfl (yl_assign rfl rfl (dn (CW.ret (br (tr ?_))))))))
      refine tr ?_
      have hB99 : B_l_eqIdxS_0 p_a p_b k4 () = .ret false := by simp only [B_l_eqIdxS_0, hb3, hb93, cL]
      have hL98 : loopM (B_l_eqIdxS_0 p_a p_b) (p_a.length - 0) 0 () = .ret false := hI12.symm.trans (loopM.ret hlt21 hB99)
      refine br (tr (rr rfl (.cons rfl .nil) ?_))
      have hM100 : (l_eqIdxS p_a p_b) = (false) := by simp only [l_eqIdxS, hb3, hb93, hL98, cL]
      rw [hM100]
      exact ⟨rfl, (Ex.trans hf19 hE88)⟩
   ·refine CW.seq (CW.seq (CW.region (sd rfl (yl_move rfl rfl (sd rfl (yl_move rfl rfl (sd rfl (yl_len un23 rfl rfl (sd rfl (yl_lss rfl rfl rfl (dn ?_)))))))))))
    refine CW.cond_f rfl (lt_f hlt21) (CW.exit (tx (tx ?_)))
    have hL102 : loopM (B_l_eqIdxS_0 p_a p_b) (p_a.length - 0) 0 () = .done () := hI12.symm.trans (loopM.stop hlt21)
    refine bx (tn (CW.seq (CW.region (sd rfl (yl_assign rfl rfl (dn (CW.ret (rr rfl (.cons rfl .nil) ?_))))))))
    have hM103 : (l_eqIdxS p_a p_b) = (true) := by simp only [l_eqIdxS, hb3, hL102, cL]
    rw [hM103]
    exact ⟨rfl, hf19⟩
 ·have hb3p := dec_f hb3
  refine CW.cond_t rfl (not_f hb3) (CW.seq (CW.region (sd rfl (yl_assign rfl rfl (dn (CW.ret (tr (rr rfl (.cons rfl .nil) ?_))))))))
  have hM104 : (l_eqIdxS p_a p_b) = (false) := by simp only [l_eqIdxS, hb3, cL]
  rw [hM104]
  exact ⟨rfl, (Ex.refl w)⟩
theorem c_l_eqTable {A1 : Option Addr} {c1 : Nat} {A2 : Option Addr} {c2 : Nat} {A3 : Option Addr} {c3 : Nat} {A4 : Option Addr} {c4 : Nat} {w : World} (p_a : DTable) (p_b : DTable) (h1 : RdS w (Iv 0 w.heap.size) (RF e_Str) 1 A1 p_a.Cols.length c1 p_a.Cols) (h2 : RdS w (Iv 0 w.heap.size) (RF e_Idx) 3 A2 p_a.Idxs.length c2 p_a.Idxs) (h3 : RdS w (Iv 0 w.heap.size) (RF e_Str) 1 A3 p_b.Cols.length c3 p_b.Cols) (h4 : RdS w (Iv 0 w.heap.size) (RF e_Idx) 3 A4 p_b.Idxs.length c4 p_b.Idxs) : Cal Tryd.prog 6 #[.agg #[.string (bs (p_a.Name)), .slice A1 p_a.Cols.length c1, .slice A2 p_a.Idxs.length c2], .agg #[.string (bs (p_b.Name)), .slice A3 p_b.Cols.length c3, .slice A4 p_b.Idxs.length c4]] w fun v w' => v = .bool ((l_eqTable p_a p_b)) ∧ Ex w w' := by
 refine Cal.of func6 rfl ntmps6 rfl (CW.seq (CW.region (sd rfl (yl_box rfl rfl rfl ?_))))
 intro b5 w6 hs7 hz8 hB9 hE10
 refine sd rfl (yl_box rfl rfl rfl ?_)
 intro b11 w12 hs13 hz14 hB15 hE16
 refine sd rfl (yl_assign rfl rfl (dn (CW.seq (CW.seq (CW.region (sd rfl (yl_fieldAddr fd25_0 rfl rfl ?_)))))))
 have q17 := Box.ex hB9 hE16
 refine sd rfl (yl_load1 ty9 rfl rfl ((q17.cell 0).trans rfl) (sd rfl (yl_fieldAddr fd25_0 rfl rfl (sd rfl (yl_load1 ty9 rfl rfl ((hB15.cell 0).trans rfl) (sd rfl (yl_sneq (a := p_a.Name) (b := p_b.Name) rfl rfl rfl (dn (bcase (p_a.Name == p_b.Name) (fun hb18 => ?_) (fun hb18 => ?_))))))))))
 ·refine CW.cond_f rfl (not_t hb18) (CW.skip (tn (CW.seq (CW.seq (CW.region (sd rfl (yl_fieldAddr fd25_1 rfl rfl (sd rfl (yl_load1 ty22 rfl rfl ((q17.cell 1).trans rfl) (sd rfl (yl_fieldAddr fd25_1 rfl rfl ?_)))))))))))
  refine sd rfl (yl_load1 ty22 rfl rfl ((hB15.cell 1).trans rfl) (sd rfl (yl_call en19 rfl (oc rfl (oc rfl oz)) (Cal.mono (c_l_eqStringS p_a.Cols p_b.Cols (RdS.up (RdS.ex good_Str (RdS.ex good_Str h1 hE10) hE16) good_Str) (RdS.up (RdS.ex good_Str (RdS.ex good_Str h3 hE10) hE16) good_Str)) ?_))))
  rintro v24 w23 ⟨rfl, hE25⟩
  refine sd rfl (yl_not rfl rfl (dn (bcase (l_eqStringS p_a.Cols p_b.Cols) (fun hb26 => ?_) (fun hb26 => ?_))))
  ·refine CW.cond_f rfl (not_t hb26) (CW.skip (tn (CW.seq (CW.seq (CW.region (sd rfl (yl_fieldAddr fd25_2 rfl rfl (sd rfl (yl_load1 ty23 rfl rfl (((Box.ex q17 hE25).cell 2).trans rfl) (sd rfl (yl_fieldAddr fd25_2 rfl rfl ?_)))))))))))
   refine sd rfl (yl_load1 ty23 rfl rfl (((Box.ex hB15 hE25).cell 2).trans rfl) (sd rfl (yl_call en20 rfl (oc rfl (oc rfl oz)) (Cal.mono (c_l_eqIdxS p_a.Idxs p_b.Idxs (RdS.up (RdS.ex good_Idx (RdS.ex good_Idx (RdS.ex good_Idx h2 hE10) hE16) hE25) good_Idx) (RdS.up (RdS.ex good_Idx (RdS.ex good_Idx (RdS.ex good_Idx h4 hE10) hE16) hE25) good_Idx)) ?_))))
   rintro v36 w35 ⟨rfl, hE37⟩
   refine sd rfl (yl_not rfl rfl (dn (bcase (l_eqIdxS p_a.Idxs p_b.Idxs) (fun hb38 => ?_) (fun hb38 => ?_))))
   ·refine CW.cond_f rfl (not_t hb38) (CW.skip (tn (CW.seq (CW.region (sd rfl (yl_assign rfl rfl (dn (CW.ret ?_))))))))
    refine rr rfl (.cons rfl .nil) ?_
    have hM39 : (l_eqTable p_a p_b) = (true) := by simp only [l_eqTable, hb18, hb26, hb38, cL]
    rw [hM39]
    exact ⟨rfl, (Ex.trans (Ex.trans (Ex.trans (Ex.trans (Ex.refl w) hE10) hE16) hE25) hE37)⟩
   ·refine CW.cond_t rfl (not_f hb38) (CW.seq (CW.region (sd rfl (yl_assign rfl rfl (dn (CW.ret (tr (rr rfl (.cons rfl .nil) ?_))))))))
    have hM44 : (l_eqTable p_a p_b) = (false) := by simp only [l_eqTable, hb18, hb26, hb38, cL]
    rw [hM44]
    exact ⟨rfl, (Ex.trans (Ex.trans (Ex.trans (Ex.trans (Ex.refl w) hE10) hE16) hE25) hE37)⟩
  ·refine CW.cond_t rfl (not_f hb26) (CW.seq (CW.region (sd rfl (yl_assign rfl rfl (dn (CW.ret (tr (rr rfl (.cons rfl .nil) ?_))))))))
   have hM49 : (l_eqTable p_a p_b) = (false) := by simp only [l_eqTable, hb18, hb26, cL]
   rw [hM49]
   exact ⟨rfl, (Ex.trans (Ex.trans (Ex.trans (Ex.refl w) hE10) hE16) hE25)⟩
 ·refine CW.cond_t rfl (not_f hb18) (CW.seq (CW.region (sd rfl (yl_assign rfl rfl (dn (CW.ret (tr (rr rfl (.cons rfl .nil) ?_))))))))
  have hM53 : (l_eqTable p_a p_b) = (false) := by simp only [l_eqTable, hb18, cL]
  rw [hM53]
  exact ⟨rfl, (Ex.trans (Ex.trans (Ex.refl w) hE10) hE16)⟩
theorem c_l_markText {w : World} (p_k : Int) (pre0 : p_k ≤ 9223372036854775807) : Cal Tryd.prog 41 #[.int .i64 (p_k)] w fun v w' => v = .string (bs ((l_markText p_k))) ∧ Ex w w' := by
 refine Cal.of func41 rfl ntmps41 rfl (CW.seq (CW.region (sd rfl (yl_assign rfl rfl (dn (CW.seq (CW.seq (CW.region ?_))))))))
 refine sd rfl (yl_move rfl rfl (sd rfl (yl_leq rfl rfl rfl (dn (bcase (decide (p_k ≤ 0)) (fun hb1 => ?_) (fun hb1 => ?_))))))
 ·have hb1p := dec_t hb1
  refine CW.cond_t rfl hb1 (CW.seq (CW.region (sd rfl (yl_assign rfl rfl (dn (CW.ret (tr (rr rfl (.cons rfl .nil) ?_))))))))
  have hM2 : (l_markText p_k) = (([109, 48] : Str)) := by simp only [l_markText, hb1, cL]
  rw [hM2]
  exact ⟨rfl, (Ex.refl w)⟩
 ·have hb1p := dec_f hb1
  refine CW.cond_f rfl hb1 (CW.skip (tn (CW.seq (CW.region (sd rfl (yl_assign rfl rfl (dn (CW.seq ?_))))))))
  refine CW.block (CW.loop (fun m18 L19 w20 => ∃ (x16 : Int) (x17 : Str), (((x16).toNat + 1) / 2) < m18 ∧ w.heap.size ≤ w20.heap.size ∧ lkp L19 0 = some (.int .i64 (x16)) ∧ lkp L19 3 = some (.string (bs (x17))) ∧ Ex w w20 ∧ x17.length + 1 * (((x16).toNat + 1) / 2) ≤ 0 + 1 * (((p_k).toNat + 1) / 2) ∧ x16 ≤ 9223372036854775807 ∧ loopW (B_l_markText_0 p_k) m18 (x16, x17) = loopW (B_l_markText_0 p_k) ((((p_k).toNat + 1) / 2) + 1) (p_k, ([] : Str))) ((((p_k).toNat + 1) / 2) + 1) ?_ ?_)
  ·exact ⟨p_k, ([] : Str), Nat.lt_succ_self _, Nat.le_refl _, rfl, rfl, (Ex.refl w), (by first | (simp; done) | (first | omega | (simp only [List.length_append, List.length_cons, List.length_nil, List.length_set, toS_length]; omega))), (by first | omega | assumption | (simp only [wI] at *; omega)), rfl⟩
  ·rintro m21 L22 w23 ⟨x16, x17, hk24, hsz26, hl27, hl28, hf29, hln30, hv31, hI25⟩
   refine CW.sub (Sub.cons hl27 (Sub.cons hl28 (Sub.nil _))) ?_
   have hf29z := Ex.size hf29
   refine CW.seq (CW.seq (CW.region (sd rfl (yl_move rfl rfl (sd rfl (yl_gtr rfl rfl rfl (dn (bcase (decide (0 < x16)) (fun hb32 => ?_) (fun hb32 => ?_)))))))))
   ·have hb32p := dec_t hb32
    refine CW.cond_t rfl hb32 (CW.skip (tn (CW.block (CW.seq (CW.region (sd rfl (yl_move rfl rfl (sd rfl (yl_rem rfl rfl rfl (by decide) (sd rfl (yl_add rfl rfl rfl ?_)))))))))))
    refine sd rfl (yl_conv un3 un5 rfl rfl (sd rfl (yl_buildSlice (cs := [.int .u8 (IntKind.wrap .u8 (IntKind.wrap .i64 (48 + (Int.tmod x16 10))))]) un61 ty5 (by decide) rfl (oc rfl oz) (by kernel_rfl) ?_)))
    intro b33 w34 hs35 hz36 hB37 hE38
    have hO39 : OwnL w34 b33 (b33 + 1) 5 1 (RF e_U8) (some ⟨b33, 0, none⟩) 1 1 ([IntKind.wrap .u8 (IntKind.wrap .i64 (48 + (Int.tmod x16 10)))] : List Int) := OwnL.of_box (S := fun _ => False) hB37 (Nat.le_refl _) (Nat.lt_succ_self _) (EncL.cons (c := [.int .u8 (IntKind.wrap .u8 (IntKind.wrap .i64 (48 + (Int.tmod x16 10))))]) rfl rfl EncL.nil) (Nat.le_of_ble_eq_true rfl) (fun h => h) (fun _ h => False.elim h)
    refine sd rfl (yl_toS un61 un5 un9 rfl rfl (OwnL.rd good_U8 hO39) (sd rfl (yl_move rfl rfl ?_)))
    have hol41 : (toS ([IntKind.wrap .u8 (IntKind.wrap .i64 (48 + (Int.tmod x16 10)))] : List Int)).length ≤ 1073741824 := (okS_toS (Nat.le_of_ble_eq_true rfl))
    refine sd rfl (yl_sadd (a := (toS ([IntKind.wrap .u8 (IntKind.wrap .i64 (48 + (Int.tmod x16 10)))] : List Int))) (b := x17) rfl rfl rfl (by first | omega | (simp only [List.length_append, List.length_cons, List.length_nil, List.length_take, List.length_drop, toS_length]; omega)) (sd rfl (yl_assign rfl rfl (dn (CW.region (sd rfl (yl_move rfl rfl (sd rfl (yl_quo rfl rfl rfl (by decide) (sd rfl (yl_assign rfl rfl (SeqR.done ?_))))))))))))
    refine bn (tn ?_)
    have hB42 : B_l_markText_0 p_k (x16, x17) = .cont (IntKind.wrap .i64 (Int.tdiv x16 10), (toS ([IntKind.wrap .u8 (IntKind.wrap .i64 (48 + (Int.tmod x16 10)))] : List Int)) ++ x17) := by simp only [B_l_markText_0, hb1, hb32, cL]
    have hmu44 : (((IntKind.wrap .i64 (Int.tdiv x16 10)).toNat + 1) / 2) < (((x16).toNat + 1) / 2) := by (have hq := wtd (n := x16) (c := 10) (by decide) (by omega) (by omega); omega)
    exact ⟨m21 - 1, by omega, IntKind.wrap .i64 (Int.tdiv x16 10), (toS ([IntKind.wrap .u8 (IntKind.wrap .i64 (48 + (Int.tmod x16 10)))] : List Int)) ++ x17, (by omega), (by omega), rfl, rfl, (Ex.trans hf29 hE38), (by first | omega | (simp only [List.length_append, List.length_cons, List.length_nil, List.length_set, toS_length]; omega)), (by (have hq := wtd (n := x16) (c := 10) (by decide) (by omega) (by omega); omega)), (loopW.cont hk24 hB42).symm.trans hI25⟩
   ·have hb32p := dec_f hb32
    refine CW.cond_f rfl hb32 (CW.exit (tx (tx ?_)))
    have hB46 : B_l_markText_0 p_k (x16, x17) = .brk (x16, x17) := by simp only [B_l_markText_0, hb1, hb32, cL]
    have hL45 : loopW (B_l_markText_0 p_k) ((((p_k).toNat + 1) / 2) + 1) (p_k, ([] : Str)) = .done (x16, x17) := hI25.symm.trans (loopW.brk hk24 hB46)
    refine bx (tn (CW.seq (CW.region (sd rfl (yl_move rfl rfl (sd rfl (yl_sadd (a := ([109] : Str)) (b := x17) rfl rfl rfl (by first | omega | (simp only [List.length_append, List.length_cons, List.length_nil, List.length_take, List.length_drop, toS_length]; omega)) (sd rfl (yl_assign rfl rfl (dn ?_))))))))))
    refine CW.ret (rr rfl (.cons rfl .nil) ?_)
    have hM47 : (l_markText p_k) = (([109] : Str) ++ x17) := by simp only [l_markText, hb1, hb32, hL45, cL]
    rw [hM47]
    exact ⟨rfl, hf29⟩
theorem c_l_markStringS {A1 : Option Addr} {c1 : Nat} {lo1 hi1 : Nat} {w : World} (p_a : List Str) (p_k : Int) (h1 : OwnL w lo1 hi1 9 1 (RF e_Str) A1 p_a.length c1 p_a) (hrn2 : (0 ≤ lo1 ∧ lo1 ≤ hi1 ∧ hi1 ≤ w.heap.size)) (pre0 : p_k ≤ 9223372036854775807) : Cal Tryd.prog 21 #[.slice A1 p_a.length c1, .int .i64 (p_k)] w fun v w' => v = .int .i64 ((l_markStringS p_a p_k).1) ∧ OwnL w' lo1 hi1 9 1 (RF e_Str) A1 p_a.length c1 ((l_markStringS p_a p_k).2) ∧ Mut [(lo1, hi1)] w w' := by
 refine Cal.of func21 rfl ntmps21 rfl (CW.seq (CW.region (sd rfl (yl_assign rfl rfl (dn (CW.seq (CW.seq (CW.region ?_))))))))
 refine sd rfl (yl_assign rfl rfl (dn (CW.block (CW.loop (fun m16 L17 w18 => ∃ (k3 : Nat) (x14 : Int) (x15 : List Str), m16 = p_a.length - k3 ∧ k3 ≤ p_a.length ∧ w.heap.size ≤ w18.heap.size ∧ lkp L17 0 = some (.slice A1 p_a.length c1) ∧ lkp L17 1 = some (.int .i64 (x14)) ∧ lkp L17 5 = some (.int .i64 ((k3 : Int))) ∧ OwnL w18 lo1 hi1 9 1 (RF e_Str) A1 p_a.length c1 x15 ∧ Mut [(lo1, hi1)] w w18 ∧ x14 ≤ 9223372036854775807 ∧ loopM (B_l_markStringS_0 p_a p_k) (p_a.length - k3) k3 (x14, x15) = loopM (B_l_markStringS_0 p_a p_k) (p_a.length - 0) 0 (p_k, p_a)) (p_a.length - 0) ?_ ?_))))
 ·exact ⟨0, p_k, p_a, rfl, (by omega), Nat.le_refl _, rfl, rfl, rfl, h1, (Mut.refl (l := [(lo1, hi1)]) w), (by first | omega | assumption | (simp only [wI] at *; omega)), rfl⟩
 ·rintro m19 L20 w21 ⟨k3, x14, x15, rfl, hk22, hsz24, hl25, hl26, hl27, hf28, hf29, hv30, hI23⟩
  refine CW.sub (Sub.cons hl25 (Sub.cons hl26 (Sub.cons hl27 (Sub.nil _)))) ?_
  have hf29z := Mut.size hf29
  have hbg31 := RdS.big (OwnL.rd good_Str hf28)
  rcases Nat.lt_or_ge k3 p_a.length with hlt33 | hlt33
  ·refine CW.seq (CW.seq (CW.region (sd rfl (yl_move rfl rfl (sd rfl (yl_move rfl rfl (sd rfl (yl_len un22 rfl rfl (sd rfl (yl_lss rfl rfl rfl (dn ?_)))))))))))
   refine CW.cond_t rfl (lt_t hlt33) (CW.skip (tn (CW.seq (CW.block (CW.seq (CW.region (sd rfl (yl_move rfl rfl (sd rfl (yl_move rfl rfl ?_))))))))))
   refine sd rfl (yl_move rfl rfl (sd rfl (yl_call en41 rfl (oc rfl oz) (Cal.mono (c_l_markText x14 (by first | omega | assumption | (simp only [wI] at *; omega))) ?_))))
   rintro v35 w34 ⟨rfl, hE36⟩
   have hE36z := Ex.size hE36
   have q38 := OwnL.ex good_Str hf28 hE36
   obtain ⟨eb39, eo39, _, eA39, _, ebl39, _, eR39, eC39⟩ := RdS.aD (OwnL.rd good_Str q38) d_Str (i := k3)
   obtain rfl := eR39
   have eC39 : Cells w34 eb39 (eo39 + k3 * 1) [.string (bs ((x15.getD k3 d_Str)))] := eC39
   refine sd rfl (yl_ixN un22 ty9 rfl rfl rfl eA39 ?_)
   have hrg40 := OwnL.rng q38 (i := k3) (by first | omega | assumption | (simp only [wI] at *; omega)) eb39 (by rw [eA39]; rfl)
   refine SeqR.u rfl rfl (yl_storeF (off := eo39) (i := k3) (d := 0) (dx := d_Str) (x' := (l_markText x14)) (vs := [.string (bs ((l_markText x14)))]) ty9 rfl q38 eA39 rfl rfl rfl rfl rfl (by first | omega | assumption | (simp only [wI] at *; omega)) (Nat.le_of_ble_eq_true rfl) rfl rfl ?_)
   intro w41 hB42 hO43
   have hO43z := hO43.size
   refine dn (CW.region (sd rfl (yl_move rfl rfl (sd rfl (yl_add rfl rfl rfl (sd rfl (yl_assign rfl rfl (SeqR.done (bn (tn ?_))))))))))
   refine CW.region (sd rfl (yl_move rfl rfl (sd rfl (yl_inc rfl rfl rfl (by omega) (sd rfl (yl_assign rfl rfl (dn ?_)))))))
   have hB44 : B_l_markStringS_0 p_a p_k k3 (x14, x15) = .cont (IntKind.wrap .i64 (x14 + 1), (x15.set k3 (l_markText x14))) := by simp only [B_l_markStringS_0, cL]
   exact ⟨p_a.length - (k3 + 1), by omega, k3 + 1, IntKind.wrap .i64 (x14 + 1), (x15.set k3 (l_markText x14)), rfl, hlt33, (by omega), rfl, rfl, rfl, hB42, (Mut.only (Mut.ex hf29 hE36) hO43 (by simp only [InR, or_false]; omega)), (by first | omega | assumption | (simp only [wI] at *; omega)), (loopM.cont hlt33 hB44).symm.trans hI23⟩
  ·refine CW.seq (CW.seq (CW.region (sd rfl (yl_move rfl rfl (sd rfl (yl_move rfl rfl (sd rfl (yl_len un22 rfl rfl (sd rfl (yl_lss rfl rfl rfl (dn ?_)))))))))))
   refine CW.cond_f rfl (lt_f hlt33) (CW.exit (tx (tx ?_)))
   have hL47 : loopM (B_l_markStringS_0 p_a p_k) (p_a.length - 0) 0 (p_k, p_a) = .done (x14, x15) := hI23.symm.trans (loopM.stop hlt33)
   refine bx (tn (CW.seq (CW.region (sd rfl (yl_move rfl rfl (sd rfl (yl_assign rfl rfl (dn (CW.ret ?_)))))))))
   refine rr rfl (.cons rfl .nil) ?_
   have hM48 : (l_markStringS p_a p_k) = ((x14, x15)) := by simp only [l_markStringS, hL47, cL]
   rw [hM48]
   exact ⟨rfl, hf28, hf29⟩
theorem c_l_markIdxS {A1 : Option Addr} {c1 : Nat} {lo1 hi1 : Nat} {w : World} (p_a : List DIdx) (p_k : Int) (h1 : OwnL w lo1 hi1 33 3 (RF e_Idx) A1 p_a.length c1 p_a) (hrn2 : (0 ≤ lo1 ∧ lo1 ≤ hi1 ∧ hi1 ≤ w.heap.size)) (pre0 : p_k ≤ 9223372036854775807) : Cal Tryd.prog 22 #[.slice A1 p_a.length c1, .int .i64 (p_k)] w fun v w' => v = .int .i64 ((l_markIdxS p_a p_k).1) ∧ OwnL w' lo1 hi1 33 3 (RF e_Idx) A1 p_a.length c1 ((l_markIdxS p_a p_k).2) ∧ Mut [(lo1, hi1)] w w' := by
 refine Cal.of func22 rfl ntmps22 rfl (CW.seq (CW.region (sd rfl (yl_assign rfl rfl (dn (CW.seq (CW.seq (CW.region ?_))))))))
 refine sd rfl (yl_assign rfl rfl (dn (CW.block (CW.loop (fun m28 L29 w30 => ∃ (k3 : Nat) (x26 : Int) (x27 : List DIdx), m28 = p_a.length - k3 ∧ k3 ≤ p_a.length ∧ w.heap.size ≤ w30.heap.size ∧ lkp L29 0 = some (.slice A1 p_a.length c1) ∧ lkp L29 1 = some (.int .i64 (x26)) ∧ lkp L29 5 = some (.int .i64 ((k3 : Int))) ∧ OwnL w30 lo1 hi1 33 3 (RF e_Idx) A1 p_a.length c1 x27 ∧ Mut [(lo1, hi1)] w w30 ∧ x26 ≤ 9223372036854775807 ∧ loopM (B_l_markIdxS_0 p_a p_k) (p_a.length - k3) k3 (x26, x27) = loopM (B_l_markIdxS_0 p_a p_k) (p_a.length - 0) 0 (p_k, p_a)) (p_a.length - 0) ?_ ?_))))
 ·exact ⟨0, p_k, p_a, rfl, (by omega), Nat.le_refl _, rfl, rfl, rfl, h1, (Mut.refl (l := [(lo1, hi1)]) w), (by first | omega | assumption | (simp only [wI] at *; omega)), rfl⟩
 ·rintro m31 L32 w33 ⟨k3, x26, x27, rfl, hk34, hsz36, hl37, hl38, hl39, hf40, hf41, hv42, hI35⟩
  refine CW.sub (Sub.cons hl37 (Sub.cons hl38 (Sub.cons hl39 (Sub.nil _)))) ?_
  have hf41z := Mut.size hf41
  have hbg43 := RdS.big (OwnL.rd good_Idx hf40)
  rcases Nat.lt_or_ge k3 p_a.length with hlt45 | hlt45
  ·refine CW.seq (CW.seq (CW.region (sd rfl (yl_move rfl rfl (sd rfl (yl_move rfl rfl (sd rfl (yl_len un23 rfl rfl (sd rfl (yl_lss rfl rfl rfl (dn ?_)))))))))))
   refine CW.cond_t rfl (lt_t hlt45) (CW.skip (tn (CW.seq (CW.block (CW.seq (CW.region (sd rfl (yl_move rfl rfl (sd rfl (yl_move rfl rfl ?_))))))))))
   refine sd rfl (yl_move rfl rfl (sd rfl (yl_call en41 rfl (oc rfl oz) (Cal.mono (c_l_markText x26 (by first | omega | assumption | (simp only [wI] at *; omega))) ?_))))
   rintro v47 w46 ⟨rfl, hE48⟩
   have hE48z := Ex.size hE48
   have q50 := OwnL.ex good_Idx hf40 hE48
   obtain ⟨eb51, eo51, _, eA51, _, ebl51, _, eR51, eC51⟩ := RdS.aD (OwnL.rd good_Idx q50) d_Idx (i := k3)
   obtain rfl := eR51
   have eC51 : Cells w46 eb51 (eo51 + k3 * 3) [.string (bs ((x27.getD k3 d_Idx).Name)), .int .i64 ((x27.getD k3 d_Idx).Col), .int .i64 ((x27.getD k3 d_Idx).Stage)] := eC51
   refine sd rfl (yl_ixN un23 ty33 rfl rfl rfl eA51 (sd rfl (yl_fieldAddr fd33_0 rfl rfl ?_)))
   have hrg52 := OwnL.rng q50 (i := k3) (by first | omega | assumption | (simp only [wI] at *; omega)) eb51 (by rw [eA51]; rfl)
   refine SeqR.u rfl rfl (yl_storeF (off := eo51) (i := k3) (d := 0) (dx := d_Idx) (x' := (⟨(l_markText x26), (x27.getD k3 d_Idx).Col, (x27.getD k3 d_Idx).Stage⟩ : DIdx)) (vs := [.string (bs ((l_markText x26)))]) ty9 rfl q50 eA51 rfl rfl rfl rfl rfl (by first | omega | assumption | (simp only [wI] at *; omega)) (Nat.le_of_ble_eq_true rfl) rfl rfl ?_)
   intro w53 hB54 hO55
   have hO55z := hO55.size
   refine dn (CW.seq (CW.region (sd rfl (yl_move rfl rfl (sd rfl (yl_add rfl rfl rfl (sd rfl (yl_assign rfl rfl (dn ?_)))))))))
   refine CW.seq (CW.region (sd rfl (yl_move rfl rfl (sd rfl (yl_move rfl rfl (sd rfl (yl_move rfl rfl ?_)))))))
   obtain ⟨eb57, eo57, _, eA57, _, ebl57, _, eR57, eC57⟩ := RdS.aD (OwnL.rd good_Idx hB54) d_Idx (i := k3)
   obtain rfl := eR57
   rw [getD_set_self (by have hq := OwnL.len hB54; simp only [List.length_set] at hq; omega)] at eC57
   have eC57 : Cells w53 eb57 (eo57 + k3 * 3) [.string (bs ((l_markText x26))), .int .i64 ((x27.getD k3 d_Idx).Col), .int .i64 ((x27.getD k3 d_Idx).Stage)] := eC57
   refine sd rfl (yl_ixN un23 ty33 rfl rfl rfl eA57 (sd rfl (yl_fieldAddr fd33_1 rfl rfl ?_)))
   have hrg58 := OwnL.rng hB54 (i := k3) (by first | omega | assumption | (simp only [wI] at *; omega)) eb57 (by rw [eA57]; rfl)
   refine SeqR.u rfl rfl (yl_storeF (off := eo57) (i := k3) (d := 1) (dx := d_Idx) (x' := (⟨(l_markText x26), IntKind.wrap .i64 (x26 + 1), (x27.getD k3 d_Idx).Stage⟩ : DIdx)) (vs := [.int .i64 (IntKind.wrap .i64 (x26 + 1))]) ty3 rfl hB54 eA57 rfl rfl rfl rfl rfl (by first | omega | assumption | (simp only [wI] at *; omega)) (Nat.le_of_ble_eq_true rfl) (by rw [getD_set_self (by have hq := OwnL.len hB54; simp only [List.length_set] at hq; omega)]; rfl) rfl ?_)
   intro w59 hB60 hO61
   have hO61z := hO61.size
   rw [List.set_set] at hB60
   refine dn (CW.seq (CW.region (sd rfl (yl_move rfl rfl (sd rfl (yl_add rfl rfl rfl (sd rfl (yl_assign rfl rfl (dn ?_)))))))))
   refine CW.seq (CW.region (sd rfl (yl_move rfl rfl (sd rfl (yl_move rfl rfl (sd rfl (yl_move rfl rfl ?_)))))))
   obtain ⟨eb63, eo63, _, eA63, _, ebl63, _, eR63, eC63⟩ := RdS.aD (OwnL.rd good_Idx hB60) d_Idx (i := k3)
   obtain rfl := eR63
   rw [getD_set_self (by have hq := OwnL.len hB60; simp only [List.length_set] at hq; omega)] at eC63
   have eC63 : Cells w59 eb63 (eo63 + k3 * 3) [.string (bs ((l_markText x26))), .int .i64 (IntKind.wrap .i64 (x26 + 1)), .int .i64 ((x27.getD k3 d_Idx).Stage)] := eC63
   refine sd rfl (yl_ixN un23 ty33 rfl rfl rfl eA63 (sd rfl (yl_fieldAddr fd33_2 rfl rfl ?_)))
   have hrg64 := OwnL.rng hB60 (i := k3) (by first | omega | assumption | (simp only [wI] at *; omega)) eb63 (by rw [eA63]; rfl)
   refine SeqR.u rfl rfl (yl_storeF (off := eo63) (i := k3) (d := 2) (dx := d_Idx) (x' := (⟨(l_markText x26), IntKind.wrap .i64 (x26 + 1), IntKind.wrap .i64 ((IntKind.wrap .i64 (x26 + 1)) + 1)⟩ : DIdx)) (vs := [.int .i64 (IntKind.wrap .i64 ((IntKind.wrap .i64 (x26 + 1)) + 1))]) ty3 rfl hB60 eA63 rfl rfl rfl rfl rfl (by first | omega | assumption | (simp only [wI] at *; omega)) (Nat.le_of_ble_eq_true rfl) (by rw [getD_set_self (by have hq := OwnL.len hB60; simp only [List.length_set] at hq; omega)]; rfl) rfl ?_)
   intro w65 hB66 hO67
   have hO67z := hO67.size
   rw [List.set_set] at hB66
   refine dn (CW.region (sd rfl (yl_move rfl rfl (sd rfl (yl_add rfl rfl rfl (sd rfl (yl_assign rfl rfl (SeqR.done (bn (tn ?_))))))))))
   refine CW.region (sd rfl (yl_move rfl rfl (sd rfl (yl_inc rfl rfl rfl (by omega) (sd rfl (yl_assign rfl rfl (dn ?_)))))))
   have hB68 : B_l_markIdxS_0 p_a p_k k3 (x26, x27) = .cont (IntKind.wrap .i64 ((IntKind.wrap .i64 ((IntKind.wrap .i64 (x26 + 1)) + 1)) + 1), (x27.set k3 (⟨(l_markText x26), IntKind.wrap .i64 (x26 + 1), IntKind.wrap .i64 ((IntKind.wrap .i64 (x26 + 1)) + 1)⟩ : DIdx))) := by simp only [B_l_markIdxS_0, cL]
   exact ⟨p_a.length - (k3 + 1), by omega, k3 + 1, IntKind.wrap .i64 ((IntKind.wrap .i64 ((IntKind.wrap .i64 (x26 + 1)) + 1)) + 1), (x27.set k3 (⟨(l_markText x26), IntKind.wrap .i64 (x26 + 1), IntKind.wrap .i64 ((IntKind.wrap .i64 (x26 + 1)) + 1)⟩ : DIdx)), rfl, hlt45, (by omega), rfl, rfl, rfl, hB66, (Mut.only (Mut.only (Mut.only (Mut.ex hf41 hE48) hO55 (by simp only [InR, or_false]; omega)) hO61 (by simp only [InR, or_false]; omega)) hO67 (by simp only [InR, or_false]; omega)), (by first | omega | assumption | (simp only [wI] at *; omega)), (loopM.cont hlt45 hB68).symm.trans hI35⟩
  ·refine CW.seq (CW.seq (CW.region (sd rfl (yl_move rfl rfl (sd rfl (yl_move rfl rfl (sd rfl (yl_len un23 rfl rfl (sd rfl (yl_lss rfl rfl rfl (dn ?_)))))))))))
   refine CW.cond_f rfl (lt_f hlt45) (CW.exit (tx (tx ?_)))
   have hL73 : loopM (B_l_markIdxS_0 p_a p_k) (p_a.length - 0) 0 (p_k, p_a) = .done (x26, x27) := hI35.symm.trans (loopM.stop hlt45)
   refine bx (tn (CW.seq (CW.region (sd rfl (yl_move rfl rfl (sd rfl (yl_assign rfl rfl (dn (CW.ret ?_)))))))))
   refine rr rfl (.cons rfl .nil) ?_
   have hM74 : (l_markIdxS p_a p_k) = ((x26, x27)) := by simp only [l_markIdxS, hL73, cL]
   rw [hM74]
   exact ⟨rfl, hf40, hf41⟩
theorem c_l_markTable {A1 : Option Addr} {c1 : Nat} {lo1 hi1 : Nat} {A2 : Option Addr} {c2 : Nat} {lo2 hi2 : Nat} {w : World} (p_a : DTable) (p_k : Int) (h1 : OwnL w lo1 hi1 9 1 (RF e_Str) A1 p_a.Cols.length c1 p_a.Cols) (h2 : OwnL w lo2 hi2 33 3 (RF e_Idx) A2 p_a.Idxs.length c2 p_a.Idxs) (hrn3 : (0 ≤ lo1 ∧ lo1 ≤ hi1 ∧ hi1 ≤ w.heap.size)) (hrn4 : (0 ≤ lo2 ∧ lo2 ≤ hi2 ∧ hi2 ≤ w.heap.size)) (hrn5 : (hi1 ≤ lo2 ∨ hi2 ≤ lo1)) (pre0 : p_k ≤ 9223372036854775807) : Cal Tryd.prog 7 #[.agg #[.string (bs (p_a.Name)), .slice A1 p_a.Cols.length c1, .slice A2 p_a.Idxs.length c2], .int .i64 (p_k)] w fun v w' => v = .int .i64 ((l_markTable p_a p_k).1) ∧ OwnL w' lo1 hi1 9 1 (RF e_Str) A1 p_a.Cols.length c1 ((l_markTable p_a p_k).2.Cols) ∧ OwnL w' lo2 hi2 33 3 (RF e_Idx) A2 p_a.Idxs.length c2 ((l_markTable p_a p_k).2.Idxs) ∧ Mut [(lo1, hi1), (lo2, hi2)] w w' := by
 refine Cal.of func7 rfl ntmps7 rfl (CW.seq (CW.region (sd rfl (yl_box rfl rfl rfl ?_))))
 intro b6 w7 hs8 hz9 hB10 hE11
 refine sd rfl (yl_assign rfl rfl (dn (CW.seq (CW.region (sd rfl (yl_fieldAddr fd25_1 rfl rfl (sd rfl (yl_load1 ty22 rfl rfl ((hB10.cell 1).trans rfl) (sd rfl (yl_move rfl rfl (sd rfl (yl_call en21 rfl (oc rfl (oc rfl oz)) (Cal.mono (c_l_markStringS p_a.Cols p_k (OwnL.ex good_Str h1 hE11) (by omega) (by first | omega | assumption | (simp only [wI] at *; omega))) ?_)))))))))))))
 rintro v14 w13 ⟨rfl, h16, hm15⟩
 have hm15z := Mut.size hm15
 have hrf17 := rf_markStringS p_a.Cols p_k (by first | omega | assumption | (simp only [wI] at *; omega))
 refine sd rfl (yl_assign rfl rfl (dn (CW.seq (CW.region (sd rfl (yl_fieldAddr fd25_2 rfl rfl (sd rfl (yl_load1 ty23 rfl rfl (((Box.mut hB10 hm15 (fun k hk => by simp only [InR, or_false] at hk; omega)).cell 2).trans rfl) (sd rfl (yl_move rfl rfl (sd rfl (yl_call en22 rfl (oc rfl (oc rfl oz)) (Cal.mono (c_l_markIdxS p_a.Idxs ((l_markStringS p_a.Cols p_k).1) (OwnL.mut good_Idx (OwnL.ex good_Idx h2 hE11) hm15 (fun k hk => by simp only [InR, or_false] at hk; omega)) (by omega) (by first | omega | assumption | (simp only [wI] at *; omega))) ?_)))))))))))))
 rintro v22 w21 ⟨rfl, h24, hm23⟩
 have hm23z := Mut.size hm23
 have hrf25 := rf_markIdxS p_a.Idxs ((l_markStringS p_a.Cols p_k).1) (by first | omega | assumption | (simp only [wI] at *; omega))
 refine sd rfl (yl_assign rfl rfl (dn (CW.seq (CW.region (sd rfl (yl_move rfl rfl (sd rfl (yl_assign rfl rfl (dn ?_)))))))))
 refine CW.ret (rr rfl (.cons rfl .nil) ?_)
 have hM26 : (l_markTable p_a p_k) = (((l_markIdxS p_a.Idxs ((l_markStringS p_a.Cols p_k).1)).1, (⟨p_a.Name, (l_markStringS p_a.Cols p_k).2, (l_markIdxS p_a.Idxs ((l_markStringS p_a.Cols p_k).1)).2⟩ : DTable))) := by simp only [l_markTable, cL]
 rw [hM26]
 exact ⟨rfl, (OwnL.mut good_Str h16 hm23 (fun k hk => by simp only [InR, or_false] at hk; omega)), h24, (Mut.mut (Mut.mut (Mut.ex (Mut.refl (l := [(lo1, hi1), (lo2, hi2)]) w) hE11) hm15 (fun k hk => by simp only [InR, or_false] at hk ⊢; omega)) hm23 (fun k hk => by simp only [InR, or_false] at hk ⊢; omega))⟩
theorem c_l_heldStringS {A1 : Option Addr} {c1 : Nat} {w : World} (p_a : List Str) (p_k : Int) (h1 : RdS w (Iv 0 w.heap.size) (RF e_Str) 1 A1 p_a.length c1 p_a) (pre0 : p_k ≤ 9223372036854775807) : Cal Tryd.prog 23 #[.slice A1 p_a.length c1, .int .i64 (p_k)] w fun v w' => v = .int .i64 ((l_heldStringS p_a p_k)) ∧ Ex w w' := by
 refine Cal.of func23 rfl ntmps23 rfl (CW.seq (CW.region (sd rfl (yl_assign rfl rfl (dn (CW.seq (CW.seq (CW.region ?_))))))))
 refine sd rfl (yl_assign rfl rfl (dn (CW.block (CW.loop (fun m4 L5 w6 => ∃ (k2 : Nat) (x3 : Int), m4 = p_a.length - k2 ∧ k2 ≤ p_a.length ∧ w.heap.size ≤ w6.heap.size ∧ lkp L5 0 = some (.slice A1 p_a.length c1) ∧ lkp L5 1 = some (.int .i64 (x3)) ∧ lkp L5 5 = some (.int .i64 ((k2 : Int))) ∧ RdS w6 (Iv 0 w.heap.size) (RF e_Str) 1 A1 p_a.length c1 p_a ∧ Ex w w6 ∧ x3 ≤ 9223372036854775807 ∧ loopM (B_l_heldStringS_0 p_a p_k) (p_a.length - k2) k2 (x3) = loopM (B_l_heldStringS_0 p_a p_k) (p_a.length - 0) 0 (p_k)) (p_a.length - 0) ?_ ?_))))
 ·exact ⟨0, p_k, rfl, (by omega), Nat.le_refl _, rfl, rfl, rfl, h1, (Ex.refl w), (by first | omega | assumption | (simp only [wI] at *; omega)), rfl⟩
 ·rintro m7 L8 w9 ⟨k2, x3, rfl, hk10, hsz12, hl13, hl14, hl15, hf16, hf17, hv18, hI11⟩
  refine CW.sub (Sub.cons hl13 (Sub.cons hl14 (Sub.cons hl15 (Sub.nil _)))) ?_
  have hf17z := Ex.size hf17
  have hbg19 := RdS.big hf16
  rcases Nat.lt_or_ge k2 p_a.length with hlt20 | hlt20
  ·refine CW.seq (CW.seq (CW.region (sd rfl (yl_move rfl rfl (sd rfl (yl_move rfl rfl (sd rfl (yl_len un22 rfl rfl (sd rfl (yl_lss rfl rfl rfl (dn ?_)))))))))))
   refine CW.cond_t rfl (lt_t hlt20) (CW.skip (tn (CW.seq (CW.block (CW.seq (CW.seq ?_))))))
   obtain ⟨eb21, eo21, _, eA21, _, ebl21, _, eR21, eC21⟩ := RdS.aD hf16 d_Str (i := k2)
   obtain rfl := eR21
   have eC21 : Cells w9 eb21 (eo21 + k2 * 1) [.string (bs ((p_a.getD k2 d_Str)))] := eC21
   refine CW.drawsI 7 (vgetI ([.slice A1 p_a.length c1, .int .i64 ((k2 : Int)), .pointer (some ⟨eb21, eo21 + k2 * 1, none⟩), .string (bs ((p_a.getD k2 d_Str))), .int .i64 (x3), .string (bs ((l_markText x3))), .bool (!((p_a.getD k2 d_Str) == (l_markText x3)))].map DetI)) Tryd.follows rfl rfl rfl rfl rfl rfl (vgetI_stable (stD _)) ⟨?_, ?_, ?_, ?_, ?_, ?_, ?_, trivial⟩ ?_
   ·exact oI rfl fun h => yl_move rfl (h.old 0 _ rfl rfl) kI
   ·exact oI rfl fun h => yl_move rfl (h.old 5 _ rfl rfl) kI
   ·intro L33 w34 hi35
    have hE36 := hi35.ex
    have hE36z := Ex.size hE36
    exact os rfl ((yl_ixN un22 ty9 rfl (hi35.dt 0 12 rfl rfl rfl) (hi35.dt 1 13 rfl rfl rfl) eA21 kI))
   ·exact oI rfl fun h => yl_load1 ty9 rfl (h.dt 2 14 rfl rfl rfl) ((Cells.ex eC21 h.ex) 0 _ rfl) kI
   ·exact oI rfl fun h => yl_move rfl (h.old 1 _ rfl rfl) kI
   ·intro L50 w51 hi52
    have hE53 := hi52.ex
    have hE53z := Ex.size hE53
    exact OpR.op' rfl (yl_call en41 rfl (oc (hi52.dt 4 16 rfl rfl rfl) oz) (Cal.mono (c_l_markText x3 (by first | omega | assumption | (simp only [wI] at *; omega))) fun _ _ h => h))
   ·exact oI rfl fun h => yl_sneq (a := (p_a.getD k2 d_Str)) (b := (l_markText x3)) rfl (h.dt 3 15 rfl rfl rfl) (h.dt 5 17 rfl rfl rfl) kI
   ·intro fl67 fh68 L64 w65 hp66
    have hE69 := hp66.ex
    have hE69z := Ex.size hE69
    refine dn (CW.sub (Sub.cons (d := 0) (hp66.old 0 _ rfl rfl) (Sub.cons (d := 1) (hp66.old 1 _ rfl rfl) (Sub.cons (d := 5) (hp66.old 5 _ rfl rfl) (Sub.cons (d := 18) (hp66.nt 6 18 rfl rfl rfl) (Sub.nil _))))) (bcase ((p_a.getD k2 d_Str) == (l_markText x3)) (fun hb74 => ?_) (fun hb74 => ?_)))
    ·refine CW.cond_f rfl (not_t hb74) (CW.skip (tn (CW.region (sd rfl (yl_move rfl rfl (sd rfl (yl_add rfl rfl rfl (sd rfl (yl_assign rfl rfl (SeqR.done (bn ?_)))))))))))
     refine tn (CW.region (sd rfl (yl_move rfl rfl (sd rfl (yl_inc rfl rfl rfl (by omega) (sd rfl (yl_assign rfl rfl (dn ?_))))))))
     have hB75 : B_l_heldStringS_0 p_a p_k k2 (x3) = .cont (IntKind.wrap .i64 (x3 + 1)) := by simp only [B_l_heldStringS_0, hb74, cL]
     exact ⟨p_a.length - (k2 + 1), by omega, k2 + 1, IntKind.wrap .i64 (x3 + 1), rfl, hlt20, (by omega), rfl, rfl, rfl, (RdS.ex good_Str hf16 hE69), (Ex.trans hf17 hE69), (by first | omega | assumption | (simp only [wI] at *; omega)), (loopM.cont hlt20 hB75).symm.trans hI11⟩
    ·refine CW.cond_t rfl (not_f hb74) (CW.seq (CW.region (sd rfl (yl_assign rfl rfl (dn (CW.ret (tr (br ?_))))))))
     refine tr (tr ?_)
     have hB79 : B_l_heldStringS_0 p_a p_k k2 (x3) = .ret (-1) := by simp only [B_l_heldStringS_0, hb74, cL]
     have hL78 : loopM (B_l_heldStringS_0 p_a p_k) (p_a.length - 0) 0 (p_k) = .ret (-1) := hI11.symm.trans (loopM.ret hlt20 hB79)
     refine br (tr (rr rfl (.cons rfl .nil) ?_))
     have hM80 : (l_heldStringS p_a p_k) = (-1) := by simp only [l_heldStringS, hb74, hL78, cL]
     rw [hM80]
     exact ⟨rfl, (Ex.trans hf17 hE69)⟩
  ·refine CW.seq (CW.seq (CW.region (sd rfl (yl_move rfl rfl (sd rfl (yl_move rfl rfl (sd rfl (yl_len un22 rfl rfl (sd rfl (yl_lss rfl rfl rfl (dn ?_)))))))))))
   refine CW.cond_f rfl (lt_f hlt20) (CW.exit (tx (tx ?_)))
   have hL82 : loopM (B_l_heldStringS_0 p_a p_k) (p_a.length - 0) 0 (p_k) = .done (x3) := hI11.symm.trans (loopM.stop hlt20)
   refine bx (tn (CW.seq (CW.region (sd rfl (yl_move rfl rfl (sd rfl (yl_assign rfl rfl (dn (CW.ret ?_)))))))))
   refine rr rfl (.cons rfl .nil) ?_
   have hM83 : (l_heldStringS p_a p_k) = (x3) := by simp only [l_heldStringS, hL82, cL]
   rw [hM83]
   exact ⟨rfl, hf17⟩
theorem c_l_heldIdxS {A1 : Option Addr} {c1 : Nat} {w : World} (p_a : List DIdx) (p_k : Int) (h1 : RdS w (Iv 0 w.heap.size) (RF e_Idx) 3 A1 p_a.length c1 p_a) (pre0 : p_k ≤ 9223372036854775807) : Cal Tryd.prog 24 #[.slice A1 p_a.length c1, .int .i64 (p_k)] w fun v w' => v = .int .i64 ((l_heldIdxS p_a p_k)) ∧ Ex w w' := by
 refine Cal.of func24 rfl ntmps24 rfl (CW.seq (CW.region (sd rfl (yl_assign rfl rfl (dn (CW.seq (CW.seq (CW.region ?_))))))))
 refine sd rfl (yl_assign rfl rfl (dn (CW.block (CW.loop (fun m4 L5 w6 => ∃ (k2 : Nat) (x3 : Int), m4 = p_a.length - k2 ∧ k2 ≤ p_a.length ∧ w.heap.size ≤ w6.heap.size ∧ lkp L5 0 = some (.slice A1 p_a.length c1) ∧ lkp L5 1 = some (.int .i64 (x3)) ∧ lkp L5 5 = some (.int .i64 ((k2 : Int))) ∧ RdS w6 (Iv 0 w.heap.size) (RF e_Idx) 3 A1 p_a.length c1 p_a ∧ Ex w w6 ∧ x3 ≤ 9223372036854775807 ∧ loopM (B_l_heldIdxS_0 p_a p_k) (p_a.length - k2) k2 (x3) = loopM (B_l_heldIdxS_0 p_a p_k) (p_a.length - 0) 0 (p_k)) (p_a.length - 0) ?_ ?_))))
 ·exact ⟨0, p_k, rfl, (by omega), Nat.le_refl _, rfl, rfl, rfl, h1, (Ex.refl w), (by first | omega | assumption | (simp only [wI] at *; omega)), rfl⟩
 ·rintro m7 L8 w9 ⟨k2, x3, rfl, hk10, hsz12, hl13, hl14, hl15, hf16, hf17, hv18, hI11⟩
  refine CW.sub (Sub.cons hl13 (Sub.cons hl14 (Sub.cons hl15 (Sub.nil _)))) ?_
  have hf17z := Ex.size hf17
  have hbg19 := RdS.big hf16
  rcases Nat.lt_or_ge k2 p_a.length with hlt20 | hlt20
  ·refine CW.seq (CW.seq (CW.region (sd rfl (yl_move rfl rfl (sd rfl (yl_move rfl rfl (sd rfl (yl_len un23 rfl rfl (sd rfl (yl_lss rfl rfl rfl (dn ?_)))))))))))
   refine CW.cond_t rfl (lt_t hlt20) (CW.skip (tn (CW.seq (CW.block (CW.seq (CW.seq ?_))))))
   obtain ⟨eb21, eo21, _, eA21, _, ebl21, _, eR21, eC21⟩ := RdS.aD hf16 d_Idx (i := k2)
   obtain rfl := eR21
   have eC21 : Cells w9 eb21 (eo21 + k2 * 3) [.string (bs ((p_a.getD k2 d_Idx).Name)), .int .i64 ((p_a.getD k2 d_Idx).Col), .int .i64 ((p_a.getD k2 d_Idx).Stage)] := eC21
   refine CW.drawsI 8 (vgetI ([.slice A1 p_a.length c1, .int .i64 ((k2 : Int)), .pointer (some ⟨eb21, eo21 + k2 * 3, none⟩), .pointer (some ⟨eb21, eo21 + k2 * 3 + 0, none⟩), .string (bs ((p_a.getD k2 d_Idx).Name)), .int .i64 (x3), .string (bs ((l_markText x3))), .bool (!(((p_a.getD k2 d_Idx).Name) == (l_markText x3)))].map DetI)) Tryd.follows rfl rfl rfl rfl rfl rfl (vgetI_stable (stD _)) ⟨?_, ?_, ?_, ?_, ?_, ?_, ?_, ?_, trivial⟩ ?_
   ·exact oI rfl fun h => yl_move rfl (h.old 0 _ rfl rfl) kI
   ·exact oI rfl fun h => yl_move rfl (h.old 5 _ rfl rfl) kI
   ·intro L33 w34 hi35
    have hE36 := hi35.ex
    have hE36z := Ex.size hE36
    exact os rfl ((yl_ixN un23 ty33 rfl (hi35.dt 0 12 rfl rfl rfl) (hi35.dt 1 13 rfl rfl rfl) eA21 kI))
   ·exact oI rfl fun h => yl_fieldAddr fd33_0 rfl (h.dt 2 14 rfl rfl rfl) kI
   ·exact oI rfl fun h => yl_load1 ty9 rfl (h.dt 3 15 rfl rfl rfl) ((Cells.ex eC21 h.ex) 0 _ rfl) kI
   ·exact oI rfl fun h => yl_move rfl (h.old 1 _ rfl rfl) kI
   ·intro L55 w56 hi57
    have hE58 := hi57.ex
    have hE58z := Ex.size hE58
    exact OpR.op' rfl (yl_call en41 rfl (oc (hi57.dt 5 17 rfl rfl rfl) oz) (Cal.mono (c_l_markText x3 (by first | omega | assumption | (simp only [wI] at *; omega))) fun _ _ h => h))
   ·exact oI rfl fun h => yl_sneq (a := ((p_a.getD k2 d_Idx).Name)) (b := (l_markText x3)) rfl (h.dt 4 16 rfl rfl rfl) (h.dt 6 18 rfl rfl rfl) kI
   ·intro fl72 fh73 L69 w70 hp71
    have hE74 := hp71.ex
    have hE74z := Ex.size hE74
    refine dn (CW.sub (Sub.cons (d := 0) (hp71.old 0 _ rfl rfl) (Sub.cons (d := 1) (hp71.old 1 _ rfl rfl) (Sub.cons (d := 5) (hp71.old 5 _ rfl rfl) (Sub.cons (d := 19) (hp71.nt 7 19 rfl rfl rfl) (Sub.nil _))))) (bcase (((p_a.getD k2 d_Idx).Name) == (l_markText x3)) (fun hb79 => ?_) (fun hb79 => ?_)))
    ·refine CW.cond_f rfl (not_t hb79) (CW.skip (tn (CW.seq (CW.region (sd rfl (yl_move rfl rfl (sd rfl (yl_add rfl rfl rfl (sd rfl (yl_assign rfl rfl (SeqR.done ?_)))))))))))
     refine tn (CW.seq (CW.seq (CW.region (sd rfl (yl_move rfl rfl (sd rfl (yl_move rfl rfl (sd rfl (yl_ixN un23 ty33 rfl rfl rfl eA21 (sd rfl (yl_fieldAddr fd33_1 rfl rfl ?_)))))))))))
     have q80 := Cells.ex eC21 hE74
     refine sd rfl (yl_load1 ty3 rfl rfl (q80 1 _ rfl) (sd rfl (yl_move rfl rfl (sd rfl (yl_neq rfl rfl rfl (dn (bcase (decide (((p_a.getD k2 d_Idx).Col) = (IntKind.wrap .i64 (x3 + 1)))) (fun hb81 => ?_) (fun hb81 => ?_))))))))
     ·have hb81p := dec_t hb81
      refine CW.cond_f rfl (not_t hb81) (CW.skip (tn (CW.seq (CW.region (sd rfl (yl_move rfl rfl (sd rfl (yl_add rfl rfl rfl (sd rfl (yl_assign rfl rfl (SeqR.done ?_)))))))))))
      refine tn (CW.seq (CW.seq (CW.region (sd rfl (yl_move rfl rfl (sd rfl (yl_move rfl rfl (sd rfl (yl_ixN un23 ty33 rfl rfl rfl eA21 (sd rfl (yl_fieldAddr fd33_2 rfl rfl (sd rfl (yl_load1 ty3 rfl rfl (q80 2 _ rfl) ?_)))))))))))))
      refine sd rfl (yl_move rfl rfl (sd rfl (yl_neq rfl rfl rfl (dn (bcase (decide (((p_a.getD k2 d_Idx).Stage) = (IntKind.wrap .i64 ((IntKind.wrap .i64 (x3 + 1)) + 1)))) (fun hb82 => ?_) (fun hb82 => ?_))))))
      ·have hb82p := dec_t hb82
       refine CW.cond_f rfl (not_t hb82) (CW.skip (tn (CW.region (sd rfl (yl_move rfl rfl (sd rfl (yl_add rfl rfl rfl (sd rfl (yl_assign rfl rfl (SeqR.done (bn ?_)))))))))))
       refine tn (CW.region (sd rfl (yl_move rfl rfl (sd rfl (yl_inc rfl rfl rfl (by omega) (sd rfl (yl_assign rfl rfl (dn ?_))))))))
       have hB83 : B_l_heldIdxS_0 p_a p_k k2 (x3) = .cont (IntKind.wrap .i64 ((IntKind.wrap .i64 ((IntKind.wrap .i64 (x3 + 1)) + 1)) + 1)) := by simp only [B_l_heldIdxS_0, hb79, hb81, hb82, cL]
       exact ⟨p_a.length - (k2 + 1), by omega, k2 + 1, IntKind.wrap .i64 ((IntKind.wrap .i64 ((IntKind.wrap .i64 (x3 + 1)) + 1)) + 1), rfl, hlt20, (by omega), rfl, rfl, rfl, (RdS.ex good_Idx hf16 hE74), (Ex.trans hf17 hE74), (by first | omega | assumption | (simp only [wI] at *; omega)), (loopM.cont hlt20 hB83).symm.trans hI11⟩
      ·have hb82p := dec_f hb82
       refine CW.cond_t rfl (not_f hb82) (CW.seq (CW.region (sd rfl (yl_assign rfl rfl (dn (CW.ret (tr (br ?_))))))))
       refine tr (tr ?_)
       have hB87 : B_l_heldIdxS_0 p_a p_k k2 (x3) = .ret (-1) := by simp only [B_l_heldIdxS_0, hb79, hb81, hb82, cL]
       have hL86 : loopM (B_l_heldIdxS_0 p_a p_k) (p_a.length - 0) 0 (p_k) = .ret (-1) := hI11.symm.trans (loopM.ret hlt20 hB87)
       refine br (tr (rr rfl (.cons rfl .nil) ?_))
       have hM88 : (l_heldIdxS p_a p_k) = (-1) := by simp only [l_heldIdxS, hb79, hb81, hb82, hL86, cL]
       rw [hM88]
       exact ⟨rfl, (Ex.trans hf17 hE74)⟩
     ·have hb81p := dec_f hb81
      refine CW.cond_t rfl (not_f hb81) (CW.seq (CW.region (sd rfl (yl_assign rfl rfl (dn (CW.ret (tr (br ?_))))))))
      refine tr (tr ?_)
      have hB91 : B_l_heldIdxS_0 p_a p_k k2 (x3) = .ret (-1) := by simp only [B_l_heldIdxS_0, hb79, hb81, cL]
      have hL90 : loopM (B_l_heldIdxS_0 p_a p_k) (p_a.length - 0) 0 (p_k) = .ret (-1) := hI11.symm.trans (loopM.ret hlt20 hB91)
      refine br (tr (rr rfl (.cons rfl .nil) ?_))
      have hM92 : (l_heldIdxS p_a p_k) = (-1) := by simp only [l_heldIdxS, hb79, hb81, hL90, cL]
      rw [hM92]
      exact ⟨rfl, (Ex.trans hf17 hE74)⟩
    ·refine CW.cond_t rfl (not_f hb79) (CW.seq (CW.region (sd rfl (yl_assign rfl rfl (dn (CW.ret (tr (br ?_))))))))
     refine tr (tr ?_)
     have hB95 : B_l_heldIdxS_0 p_a p_k k2 (x3) = .ret (-1) := by simp only [B_l_heldIdxS_0, hb79, cL]
     have hL94 : loopM (B_l_heldIdxS_0 p_a p_k) (p_a.length - 0) 0 (p_k) = .ret (-1) := hI11.symm.trans (loopM.ret hlt20 hB95)
     refine br (tr (rr rfl (.cons rfl .nil) ?_))
     have hM96 : (l_heldIdxS p_a p_k) = (-1) := by simp only [l_heldIdxS, hb79, hL94, cL]
     rw [hM96]
     exact ⟨rfl, (Ex.trans hf17 hE74)⟩
  ·refine CW.seq (CW.seq (CW.region (sd rfl (yl_move rfl rfl (sd rfl (yl_move rfl rfl (sd rfl (yl_len un23 rfl rfl (sd rfl (yl_lss rfl rfl rfl (dn ?_)))))))))))
   refine CW.cond_f rfl (lt_f hlt20) (CW.exit (tx (tx ?_)))
   have hL98 : loopM (B_l_heldIdxS_0 p_a p_k) (p_a.length - 0) 0 (p_k) = .done (x3) := hI11.symm.trans (loopM.stop hlt20)
   refine bx (tn (CW.seq (CW.region (sd rfl (yl_move rfl rfl (sd rfl (yl_assign rfl rfl (dn (CW.ret ?_)))))))))
   refine rr rfl (.cons rfl .nil) ?_
   have hM99 : (l_heldIdxS p_a p_k) = (x3) := by simp only [l_heldIdxS, hL98, cL]
   rw [hM99]
   exact ⟨rfl, hf17⟩
theorem c_l_heldTable {A1 : Option Addr} {c1 : Nat} {A2 : Option Addr} {c2 : Nat} {w : World} (p_a : DTable) (p_k : Int) (h1 : RdS w (Iv 0 w.heap.size) (RF e_Str) 1 A1 p_a.Cols.length c1 p_a.Cols) (h2 : RdS w (Iv 0 w.heap.size) (RF e_Idx) 3 A2 p_a.Idxs.length c2 p_a.Idxs) (pre0 : p_k ≤ 9223372036854775807) : Cal Tryd.prog 8 #[.agg #[.string (bs (p_a.Name)), .slice A1 p_a.Cols.length c1, .slice A2 p_a.Idxs.length c2], .int .i64 (p_k)] w fun v w' => v = .int .i64 ((l_heldTable p_a p_k)) ∧ Ex w w' := by
 refine Cal.of func8 rfl ntmps8 rfl (CW.seq (CW.region (sd rfl (yl_box rfl rfl rfl ?_))))
 intro b3 w4 hs5 hz6 hB7 hE8
 refine sd rfl (yl_assign rfl rfl (dn (CW.seq (CW.region (sd rfl (yl_fieldAddr fd25_1 rfl rfl (sd rfl (yl_load1 ty22 rfl rfl ((hB7.cell 1).trans rfl) (sd rfl (yl_move rfl rfl (sd rfl (yl_call en23 rfl (oc rfl (oc rfl oz)) (Cal.mono (c_l_heldStringS p_a.Cols p_k (RdS.up (RdS.ex good_Str h1 hE8) good_Str) (by first | omega | assumption | (simp only [wI] at *; omega))) ?_)))))))))))))
 rintro v11 w10 ⟨rfl, hE12⟩
 have hE12z := Ex.size hE12
 have hrf13 := rf_heldStringS p_a.Cols p_k (by first | omega | assumption | (simp only [wI] at *; omega))
 refine sd rfl (yl_assign rfl rfl (dn (CW.seq (CW.seq (CW.region (sd rfl (yl_move rfl rfl (sd rfl (yl_lss rfl rfl rfl (SeqR.done ?_))))))))))
 refine tn (bcase (decide ((l_heldStringS p_a.Cols p_k) < 0)) (fun hb14 => ?_) (fun hb14 => ?_))
 ·have hb14p := dec_t hb14
  refine CW.cond_t rfl hb14 (CW.seq (CW.region (sd rfl (yl_assign rfl rfl (dn (CW.ret (tr (rr rfl (.cons rfl .nil) ?_))))))))
  have hM15 : (l_heldTable p_a p_k) = (-1) := by simp only [l_heldTable, hb14, cL]
  rw [hM15]
  exact ⟨rfl, (Ex.trans (Ex.trans (Ex.refl w) hE8) hE12)⟩
 ·have hb14p := dec_f hb14
  refine CW.cond_f rfl hb14 (CW.skip (tn (CW.seq (CW.region (sd rfl (yl_fieldAddr fd25_2 rfl rfl (sd rfl (yl_load1 ty23 rfl rfl (((Box.ex hB7 hE12).cell 2).trans rfl) (sd rfl (yl_move rfl rfl (sd rfl (yl_call en24 rfl (oc rfl (oc rfl oz)) (Cal.mono (c_l_heldIdxS p_a.Idxs (l_heldStringS p_a.Cols p_k) (RdS.up (RdS.ex good_Idx (RdS.ex good_Idx h2 hE8) hE12) good_Idx) (by first | omega | assumption | (simp only [wI] at *; omega))) ?_)))))))))))))
  rintro v22 w21 ⟨rfl, hE23⟩
  have hE23z := Ex.size hE23
  have hrf24 := rf_heldIdxS p_a.Idxs (l_heldStringS p_a.Cols p_k) (by first | omega | assumption | (simp only [wI] at *; omega))
  refine sd rfl (yl_assign rfl rfl (dn (CW.seq (CW.seq (CW.region (sd rfl (yl_move rfl rfl (sd rfl (yl_lss rfl rfl rfl (SeqR.done ?_))))))))))
  refine tn (bcase (decide ((l_heldIdxS p_a.Idxs (l_heldStringS p_a.Cols p_k)) < 0)) (fun hb25 => ?_) (fun hb25 => ?_))
  ·have hb25p := dec_t hb25
   refine CW.cond_t rfl hb25 (CW.seq (CW.region (sd rfl (yl_assign rfl rfl (dn (CW.ret (tr (rr rfl (.cons rfl .nil) ?_))))))))
   have hM26 : (l_heldTable p_a p_k) = (-1) := by simp only [l_heldTable, hb14, hb25, cL]
   rw [hM26]
   exact ⟨rfl, (Ex.trans (Ex.trans (Ex.trans (Ex.refl w) hE8) hE12) hE23)⟩
  ·have hb25p := dec_f hb25
   refine CW.cond_f rfl hb25 (CW.skip (tn (CW.seq (CW.region (sd rfl (yl_move rfl rfl (sd rfl (yl_assign rfl rfl (dn ?_)))))))))
   refine CW.ret (rr rfl (.cons rfl .nil) ?_)
   have hM30 : (l_heldTable p_a p_k) = ((l_heldIdxS p_a.Idxs (l_heldStringS p_a.Cols p_k))) := by simp only [l_heldTable, hb14, hb25, cL]
   rw [hM30]
   exact ⟨rfl, (Ex.trans (Ex.trans (Ex.trans (Ex.refl w) hE8) hE12) hE23)⟩
theorem c_l_FnExactReadTable {w : World} (p_0 : Str) (pre0 : wfS p_0) (hgb : GB 1 2 w) : Cal Tryd.prog 3 #[.string (bs (p_0))] w fun v w' => v = .bool ((l_FnExactReadTable p_0)) ∧ Ex w w' := by
 refine Cal.of func3 rfl ntmps3 rfl (CW.seq (CW.region (sd rfl (yl_assign rfl rfl (dn (CW.seq (CW.seq (CW.region ?_))))))))
 refine sd rfl (yl_move rfl rfl (sd rfl (yl_slen un9 (a := p_0) rfl rfl (sd rfl (yl_gtr rfl rfl rfl (dn (bcase (decide (1048576 < (p_0.length : Int))) (fun hb1 => ?_) (fun hb1 => ?_))))))))
 ·have hb1p := dec_t hb1
  refine CW.cond_t rfl hb1 (CW.seq (CW.region (sd rfl (yl_assign rfl rfl (dn (CW.ret (tr (rr rfl (.cons rfl .nil) ?_))))))))
  have hM2 : (l_FnExactReadTable p_0) = (true) := by simp only [l_FnExactReadTable, hb1, cL]
  rw [hM2]
  exact ⟨rfl, (Ex.refl w)⟩
 ·have hb1p := dec_f hb1
  refine CW.cond_f rfl hb1 (CW.skip (tn (CW.seq (CW.region (sd rfl (yl_move rfl rfl (sd rfl (yl_call en4 rfl (oc rfl oz) (Cal.mono (c_s_ReadTable p_0 (by unfold okS; (try dsimp only); omega)) ?_)))))))))
  rintro v7 w3 ⟨A4, c4, lo4, hi4, A5, c5, lo5, hi5, rfl, h4, h5, ho6, hrn9, hrn10, hrn11, hE8⟩
  have hE8z := Ex.size hE8
  refine sd rfl (yl_move rfl rfl (sd rfl (yl_extract rfl rfl rfl (sd rfl (yl_extract rfl rfl rfl (sd rfl (yl_alloc ty25 (cs := [.string (bs (([] : Str))), .slice none 0 0, .slice none 0 0]) rfl rfl ?_)))))))
  intro b12 w13 hs14 hz15 hB16 hE17
  refine SeqR.u rfl rfl (yl_store (vs := [.string (bs ((s_ReadTable p_0).1.Name)), .slice A4 (((s_ReadTable p_0).1.Cols).length) c4, .slice A5 (((s_ReadTable p_0).1.Idxs).length) c5]) ty25 rfl rfl rfl rfl rfl rfl hB16 (Nat.le_of_ble_eq_true rfl) ?_)
  intro w18 hB19 hO20
  have hB19 : Box w18 b12 25 [.string (bs ((s_ReadTable p_0).1.Name)), .slice A4 (((s_ReadTable p_0).1.Cols).length) c4, .slice A5 (((s_ReadTable p_0).1.Idxs).length) c5] := hB19
  have hO20z := hO20.size
  refine sd rfl (yl_assign rfl rfl (dn (CW.seq (CW.region (sd rfl (yl_move rfl rfl ?_))))))
  have q23 := Below.only (Ex.trans (Ex.trans (Ex.refl w) hE8) hE17) hO20 (by omega)
  refine sd rfl (yl_call en5 rfl (oc rfl oz) (Cal.mono (c_i_ReadTable p_0 (by unfold okS; (try dsimp only); omega) (GB.ex hgb q23)) ?_))
  rintro v28 w24 ⟨A25, c25, lo25, hi25, A26, c26, lo26, hi26, rfl, h25, h26, ho27, hrn30, hrn31, hrn32, hE29⟩
  have hE29z := Ex.size hE29
  refine sd rfl (yl_move rfl rfl (sd rfl (yl_extract rfl rfl rfl (sd rfl (yl_extract rfl rfl rfl (sd rfl (yl_alloc ty25 (cs := [.string (bs (([] : Str))), .slice none 0 0, .slice none 0 0]) rfl rfl ?_)))))))
  intro b33 w34 hs35 hz36 hB37 hE38
  refine SeqR.u rfl rfl (yl_store (vs := [.string (bs ((i_ReadTable p_0).1.Name)), .slice A25 (((i_ReadTable p_0).1.Cols).length) c25, .slice A26 (((i_ReadTable p_0).1.Idxs).length) c26]) ty25 rfl rfl rfl rfl rfl rfl hB37 (Nat.le_of_ble_eq_true rfl) ?_)
  intro w39 hB40 hO41
  have hB40 : Box w39 b33 25 [.string (bs ((i_ReadTable p_0).1.Name)), .slice A25 (((i_ReadTable p_0).1.Cols).length) c25, .slice A26 (((i_ReadTable p_0).1.Idxs).length) c26] := hB40
  have hO41z := hO41.size
  refine sd rfl (yl_assign rfl rfl (dn (CW.seq (CW.seq (CW.region (sd rfl (yl_loadN ty25 rfl rfl (hB40.cells (n := 3) rfl) rfl ?_)))))))
  have q44 := Box.only (Box.ex (Box.ex hB19 hE29) hE38) hO41 (by omega)
  refine sd rfl (yl_loadN ty25 rfl rfl (q44.cells (n := 3) rfl) rfl ?_)
  have q47 := OwnL.only good_Str (OwnL.ex good_Str h25 hE38) hO41 (by omega)
  have q50 := OwnL.only good_Idx (OwnL.ex good_Idx h26 hE38) hO41 (by omega)
  have q56 := OwnL.only good_Str (OwnL.ex good_Str (OwnL.ex good_Str (OwnL.only good_Str (OwnL.ex good_Str h4 hE17) hO20 (by omega)) hE29) hE38) hO41 (by omega)
  have q62 := OwnL.only good_Idx (OwnL.ex good_Idx (OwnL.ex good_Idx (OwnL.only good_Idx (OwnL.ex good_Idx h5 hE17) hO20 (by omega)) hE29) hE38) hO41 (by omega)
  refine sd rfl (yl_call en6 rfl (oc rfl (oc rfl oz)) (Cal.mono (c_l_eqTable ((i_ReadTable p_0).1) ((s_ReadTable p_0).1) (RdS.up (OwnL.rd good_Str q47) good_Str) (RdS.up (OwnL.rd good_Idx q50) good_Idx) (RdS.up (OwnL.rd good_Str q56) good_Str) (RdS.up (OwnL.rd good_Idx q62) good_Idx)) ?_))
  rintro v64 w63 ⟨rfl, hE65⟩
  have hE65z := Ex.size hE65
  refine sd rfl (yl_not rfl rfl (sd rfl (yl_move rfl rfl (bcase (l_eqTable ((i_ReadTable p_0).1) ((s_ReadTable p_0).1)) (fun hb66 => ?_) (fun hb66 => ?_)))))
  ·refine sy rfl rfl (not_t hb66) (yl_move rfl rfl (sy rfl rfl (not_t hb66) (yl_move rfl rfl (sy rfl rfl (not_t hb66) (yl_bneq un4 rfl rfl rfl (sd rfl (yl_pick_f rfl rfl (not_t hb66) rfl (dn (bcase (((i_ReadTable p_0).2) == ((s_ReadTable p_0).2)) (fun hb67 => ?_) (fun hb67 => ?_))))))))))
   ·refine CW.cond_f rfl (not_t hb67) (CW.skip (tn (CW.seq (CW.region (sd rfl (yl_assign rfl rfl (dn (CW.seq ?_))))))))
    refine CW.region ?_
    have q68 := Box.ex hB40 hE65
    refine sd rfl (yl_loadN ty25 rfl rfl (q68.cells (n := 3) rfl) rfl (sd rfl (yl_move rfl rfl (sd rfl (yl_call en7 rfl (oc rfl (oc rfl oz)) (Cal.mono (c_l_markTable ((i_ReadTable p_0).1) 1 (OwnL.ex good_Str q47 hE65) (OwnL.ex good_Idx q50 hE65) (by omega) (by omega) (by omega) (by first | omega | assumption | (simp only [wI] at *; omega))) ?_))))))
    rintro v72 w71 ⟨rfl, h74, h75, hm73⟩
    have hm73z := Mut.size hm73
    have hrf76 := rf_markTable ((i_ReadTable p_0).1) 1 (by first | omega | assumption | (simp only [wI] at *; omega))
    refine sd rfl (yl_assign rfl rfl (dn (CW.seq (CW.region (sd rfl (yl_assign rfl rfl (dn (CW.seq ?_))))))))
    refine CW.region ?_
    have q77 := Box.mut q68 hm73 (fun k hk => by simp only [InR, or_false] at hk; omega)
    refine sd rfl (yl_loadN ty25 rfl rfl (q77.cells (n := 3) rfl) rfl (sd rfl (yl_move rfl rfl ?_)))
    have hle78 := OwnL.len h74
    have hle80 := OwnL.len h75
    refine sd rfl (yl_call en8 rfl (oc rfl (oc rfl oz)) (Cal.mono (Cal.args (by rw [← hle78, ← hle80] <;> rfl) (c_l_heldTable (⟨(i_ReadTable p_0).1.Name, (l_markTable ((i_ReadTable p_0).1) 1).2.Cols, (l_markTable ((i_ReadTable p_0).1) 1).2.Idxs⟩ : DTable) 1 (RdS.fix (RdS.up (OwnL.rd good_Str h74) good_Str)) (RdS.fix (RdS.up (OwnL.rd good_Idx h75) good_Idx)) (by first | omega | assumption | (simp only [wI] at *; omega)))) ?_))
    rintro v83 w82 ⟨rfl, hE84⟩
    have hE84z := Ex.size hE84
    have hrf85 := rf_heldTable (⟨(i_ReadTable p_0).1.Name, (l_markTable ((i_ReadTable p_0).1) 1).2.Cols, (l_markTable ((i_ReadTable p_0).1) 1).2.Idxs⟩ : DTable) 1 (by first | omega | assumption | (simp only [wI] at *; omega))
    refine sd rfl (yl_assign rfl rfl (dn (CW.seq (CW.seq (CW.region (sd rfl (yl_move rfl rfl (sd rfl (yl_lss rfl rfl rfl (SeqR.done ?_))))))))))
    refine tn (bcase (decide ((l_heldTable (⟨(i_ReadTable p_0).1.Name, (l_markTable ((i_ReadTable p_0).1) 1).2.Cols, (l_markTable ((i_ReadTable p_0).1) 1).2.Idxs⟩ : DTable) 1) < 0)) (fun hb86 => ?_) (fun hb86 => ?_))
    ·have hb86p := dec_t hb86
     refine CW.cond_t rfl hb86 (CW.seq (CW.region (sd rfl (yl_assign rfl rfl (dn (CW.ret (tr (rr rfl (.cons rfl .nil) ?_))))))))
     have hM87 : (l_FnExactReadTable p_0) = (false) := by simp only [l_FnExactReadTable, hb1, hb66, hb67, hb86, cL]
     rw [hM87]
     exact ⟨rfl, (Ex.trans (Ex.mut (Ex.trans (Below.only (Ex.trans (Ex.trans q23 hE29) hE38) hO41 (by omega)) hE65) hm73 (fun k hk => by simp only [InR, or_false] at hk; omega)) hE84)⟩
    ·have hb86p := dec_f hb86
     refine CW.cond_f rfl hb86 (CW.skip (tn (CW.seq (CW.seq (CW.region (sd rfl (yl_move rfl rfl (sd rfl (yl_move rfl rfl (sd rfl (yl_neq rfl rfl rfl ?_)))))))))))
     refine dn (bcase (decide ((l_heldTable (⟨(i_ReadTable p_0).1.Name, (l_markTable ((i_ReadTable p_0).1) 1).2.Cols, (l_markTable ((i_ReadTable p_0).1) 1).2.Idxs⟩ : DTable) 1) = ((l_markTable ((i_ReadTable p_0).1) 1).1))) (fun hb94 => ?_) (fun hb94 => ?_))
     ·have hb94p := dec_t hb94
      refine CW.cond_f rfl (not_t hb94) (CW.skip (tn (CW.seq (CW.region (sd rfl (yl_move rfl rfl ?_))))))
      have q100 := Ex.trans (Ex.mut (Ex.trans (Below.only (Ex.trans (Ex.trans q23 hE29) hE38) hO41 (by omega)) hE65) hm73 (fun k hk => by simp only [InR, or_false] at hk; omega)) hE84
      refine sd rfl (yl_call en5 rfl (oc rfl oz) (Cal.mono (c_i_ReadTable p_0 (by unfold okS; (try dsimp only); omega) (GB.ex hgb q100)) ?_))
      rintro v105 w101 ⟨A102, c102, lo102, hi102, A103, c103, lo103, hi103, rfl, h102, h103, ho104, hrn107, hrn108, hrn109, hE106⟩
      have hE106z := Ex.size hE106
      refine sd rfl (yl_move rfl rfl (sd rfl (yl_extract rfl rfl rfl (sd rfl (yl_extract rfl rfl rfl (sd rfl (yl_alloc ty25 (cs := [.string (bs (([] : Str))), .slice none 0 0, .slice none 0 0]) rfl rfl ?_)))))))
      intro b110 w111 hs112 hz113 hB114 hE115
      refine SeqR.u rfl rfl (yl_store (vs := [.string (bs ((i_ReadTable p_0).1.Name)), .slice A102 (((i_ReadTable p_0).1.Cols).length) c102, .slice A103 (((i_ReadTable p_0).1.Idxs).length) c103]) ty25 rfl rfl rfl rfl rfl rfl hB114 (Nat.le_of_ble_eq_true rfl) ?_)
      intro w116 hB117 hO118
      have hB117 : Box w116 b110 25 [.string (bs ((i_ReadTable p_0).1.Name)), .slice A102 (((i_ReadTable p_0).1.Cols).length) c102, .slice A103 (((i_ReadTable p_0).1.Idxs).length) c103] := hB117
      have hO118z := hO118.size
      refine sd rfl (yl_assign rfl rfl (dn (CW.seq (CW.seq (CW.region (sd rfl (yl_loadN ty25 rfl rfl (hB117.cells (n := 3) rfl) rfl (sd rfl (yl_loadN ty25 rfl rfl ((Box.only (Box.ex (Box.ex (Box.ex (Box.mut (Box.ex q44 hE65) hm73 (fun k hk => by simp only [InR, or_false] at hk; omega)) hE84) hE106) hE115) hO118 (by omega)).cells (n := 3) rfl) rfl (sd rfl (yl_call en6 rfl (oc rfl (oc rfl oz)) (Cal.mono (c_l_eqTable ((i_ReadTable p_0).1) ((s_ReadTable p_0).1) (RdS.up (OwnL.rd good_Str (OwnL.only good_Str (OwnL.ex good_Str h102 hE115) hO118 (by omega))) good_Str) (RdS.up (OwnL.rd good_Idx (OwnL.only good_Idx (OwnL.ex good_Idx h103 hE115) hO118 (by omega))) good_Idx) (RdS.up (OwnL.rd good_Str (OwnL.only good_Str (OwnL.ex good_Str (OwnL.ex good_Str (OwnL.ex good_Str (OwnL.mut good_Str (OwnL.ex good_Str q56 hE65) hm73 (fun k hk => by simp only [InR, or_false] at hk; omega)) hE84) hE106) hE115) hO118 (by omega))) good_Str) (RdS.up (OwnL.rd good_Idx (OwnL.only good_Idx (OwnL.ex good_Idx (OwnL.ex good_Idx (OwnL.ex good_Idx (OwnL.mut good_Idx (OwnL.ex good_Idx q62 hE65) hm73 (fun k hk => by simp only [InR, or_false] at hk; omega)) hE84) hE106) hE115) hO118 (by omega))) good_Idx)) ?_))))))))))))
      rintro v146 w145 ⟨rfl, hE147⟩
      have hE147z := Ex.size hE147
      refine sd rfl (yl_not rfl rfl (sd rfl (yl_move rfl rfl (sy rfl rfl (not_t hb66) (yl_move rfl rfl (sy rfl rfl (not_t hb66) (yl_move rfl rfl (sy rfl rfl (not_t hb66) (yl_bneq un4 rfl rfl rfl (sd rfl (yl_pick_f rfl rfl (not_t hb66) rfl (dn (CW.cond_f rfl (not_t hb67) ?_)))))))))))))
      refine CW.skip (tn (CW.seq (CW.region (sd rfl (yl_assign rfl rfl (dn (CW.seq (CW.region ?_))))))))
      refine sd rfl (yl_loadN ty25 rfl rfl ((Box.ex (Box.only (Box.ex (Box.ex (Box.ex q77 hE84) hE106) hE115) hO118 (by omega)) hE147).cells (n := 3) rfl) rfl (sd rfl (yl_move rfl rfl ?_)))
      have q158 := OwnL.ex good_Str (OwnL.only good_Str (OwnL.ex good_Str (OwnL.ex good_Str (OwnL.ex good_Str h74 hE84) hE106) hE115) hO118 (by omega)) hE147
      have hle153 := OwnL.len q158
      have q165 := OwnL.ex good_Idx (OwnL.only good_Idx (OwnL.ex good_Idx (OwnL.ex good_Idx (OwnL.ex good_Idx h75 hE84) hE106) hE115) hO118 (by omega)) hE147
      have hle160 := OwnL.len q165
      refine sd rfl (yl_call en8 rfl (oc rfl (oc rfl oz)) (Cal.mono (Cal.args (by rw [← hle153, ← hle160] <;> rfl) (c_l_heldTable (⟨(i_ReadTable p_0).1.Name, (l_markTable ((i_ReadTable p_0).1) 1).2.Cols, (l_markTable ((i_ReadTable p_0).1) 1).2.Idxs⟩ : DTable) 1 (RdS.fix (RdS.up (OwnL.rd good_Str q158) good_Str)) (RdS.fix (RdS.up (OwnL.rd good_Idx q165) good_Idx)) (by first | omega | assumption | (simp only [wI] at *; omega)))) ?_))
      rintro v168 w167 ⟨rfl, hE169⟩
      have hE169z := Ex.size hE169
      have hrf170 := rf_heldTable (⟨(i_ReadTable p_0).1.Name, (l_markTable ((i_ReadTable p_0).1) 1).2.Cols, (l_markTable ((i_ReadTable p_0).1) 1).2.Idxs⟩ : DTable) 1 (by first | omega | assumption | (simp only [wI] at *; omega))
      refine sd rfl (yl_assign rfl rfl (dn (CW.seq (CW.seq (CW.region (sd rfl (yl_move rfl rfl (sd rfl (yl_lss rfl rfl rfl (SeqR.done ?_))))))))))
      refine tn (CW.cond_f rfl hb86 (CW.skip (tn (CW.seq (CW.seq (CW.region (sd rfl (yl_move rfl rfl (sd rfl (yl_move rfl rfl ?_))))))))))
      refine sd rfl (yl_neq rfl rfl rfl (dn (CW.cond_f rfl (not_t hb94) (CW.skip (tn (CW.seq (CW.region (sd rfl (yl_assign rfl rfl ?_)))))))))
      refine dn (CW.ret (rr rfl (.cons rfl .nil) ?_))
      have hM171 : (l_FnExactReadTable p_0) = (true) := by simp only [l_FnExactReadTable, hb1, hb66, hb67, hb86, hb94, cL]
      rw [hM171]
      exact ⟨rfl, (Ex.trans (Ex.trans (Below.only (Ex.trans (Ex.trans q100 hE106) hE115) hO118 (by omega)) hE147) hE169)⟩
     ·have hb94p := dec_f hb94
      refine CW.cond_t rfl (not_f hb94) (CW.seq (CW.region (sd rfl (yl_assign rfl rfl (dn (CW.ret (tr (rr rfl (.cons rfl .nil) ?_))))))))
      have hM177 : (l_FnExactReadTable p_0) = (false) := by simp only [l_FnExactReadTable, hb1, hb66, hb67, hb86, hb94, cL]
      rw [hM177]
      exact ⟨rfl, (Ex.trans (Ex.mut (Ex.trans (Below.only (Ex.trans (Ex.trans q23 hE29) hE38) hO41 (by omega)) hE65) hm73 (fun k hk => by simp only [InR, or_false] at hk; omega)) hE84)⟩
   ·refine CW.cond_t rfl (not_f hb67) (CW.seq (CW.region (sd rfl (yl_assign rfl rfl (dn (CW.ret (tr (rr rfl (.cons rfl .nil) ?_))))))))
    have hM184 : (l_FnExactReadTable p_0) = (false) := by simp only [l_FnExactReadTable, hb1, hb66, hb67, cL]
    rw [hM184]
    exact ⟨rfl, (Ex.trans (Below.only (Ex.trans (Ex.trans q23 hE29) hE38) hO41 (by omega)) hE65)⟩
  ·refine sz rfl rfl (not_f hb66) (sz rfl rfl (not_f hb66) (sz rfl rfl (not_f hb66) (sd rfl (yl_pick_t rfl rfl (not_f hb66) rfl (dn (CW.cond_t rfl rfl (CW.seq (CW.region ?_))))))))
   refine sd rfl (yl_assign rfl rfl (dn (CW.ret (tr (rr rfl (.cons rfl .nil) ?_)))))
   have hM189 : (l_FnExactReadTable p_0) = (false) := by simp only [l_FnExactReadTable, hb1, hb66, cL]
   rw [hM189]
   exact ⟨rfl, (Ex.trans (Below.only (Ex.trans (Ex.trans q23 hE29) hE38) hO41 (by omega)) hE65)⟩
end Go.Proofs.YtdknedcbonflgaaDoor
