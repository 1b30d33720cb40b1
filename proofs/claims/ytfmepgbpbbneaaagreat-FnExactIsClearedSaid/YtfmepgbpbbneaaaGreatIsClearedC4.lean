/- Is Cleared: what each call returns, part 4. -/
import Derived.Test.YtfmepgbpbbneaaaGreatIsClearedC3
set_option linter.unusedVariables false
set_option linter.unusedSimpArgs false
namespace Go.Proofs.YtfmepgbpbbneaaaGreat
open Go.RowKit Go.X
set_option maxRecDepth 100000 in
set_option maxHeartbeats 2000000 in
theorem c_g_slices_Clone_string {A1 : Option Addr} {c1 : Nat} {w : World} (p_s : List Str) (h1 : RdS w (Iv 0 w.heap.size) (RF e_Str) 1 A1 p_s.length c1 p_s) (o2 : (okL okS) p_s) : Cal Tryz.prog 138 #[.slice A1 p_s.length c1] w fun v w' => ∃ A_1 c_1 lo_1 hi_1, v = .slice A_1 ((g_slices_Clone_string p_s).length) c_1 ∧ OwnL w' lo_1 hi_1 9 1 (RF e_Str) A_1 ((g_slices_Clone_string p_s).length) c_1 (g_slices_Clone_string p_s) ∧ (okL okS) (g_slices_Clone_string p_s) ∧ (w.heap.size ≤ lo_1 ∧ lo_1 ≤ hi_1 ∧ hi_1 ≤ w'.heap.size) ∧ Ex w w' := by
 have hol3 := o2.1
 refine Cal.of (vs := [.slice A1 p_s.length c1]) Tryz.func138 rfl Tryz.ntmps138 rfl (CW.seq (CW.region (sd rfl (yl_assign rfl rfl (SeqR.done (tn (CW.seq (CW.seq (CW.region ?_)))))))))
 refine sd rfl (yl_move rfl rfl (sd rfl (yl_snil Tryz.un27 rfl rfl rfl (SeqR.done (tn (bcase (A1.isNone) (fun hb4 => ?_) (fun hb4 => ?_)))))))
 ·have hnil5 : p_s = [] := RdS.nilA h1 hb4
  refine CW.cond_t rfl hb4 (CW.seq (CW.region (sd rfl (yl_assign rfl rfl (SeqR.done (tn (CW.ret (tr (rr rfl (.cons rfl .nil) ?_)))))))))
  have hM6 : (g_slices_Clone_string p_s) = (([] : List Str)) := by simp only [g_slices_Clone_string, hnil5, cond_true, cond_false, loopE_done, loopE_ret, List.append_nil]
  rw [hM6]
  exact ⟨none, 0, w.heap.size, w.heap.size, rfl, (OwnL.nil _ _ _ _ _ _), (okL.nil _), (by omega), (Ex.refl w)⟩
 ·refine CW.cond_f rfl hb4 (CW.skip (tn (CW.seq (CW.region (sd rfl (yl_buildSlice (cs := []) Tryz.un27 Tryz.ty9 (by decide) rfl opvs_nil (by kernel_rfl) ?_))))))
  intro b7 w8 hs9 hz10 hB11 hE12
  have hO13 : OwnL w8 b7 (b7 + 1) 9 1 (RF e_Str) (some ⟨b7, 0, none⟩) 0 0 ([] : List Str) := OwnL.of_box (S := fun _ => False) hB11 (Nat.le_refl _) (Nat.lt_succ_self _) EncL.nil (Nat.le_of_ble_eq_true rfl) (fun h => h) (fun _ h => False.elim h)
  refine sd rfl (yl_move rfl rfl ?_)
  obtain ⟨nw15, he16, hs17⟩ := RdS.src (RdS.ex good_Str h1 hE12)
  have hol18 : p_s.length ≤ 1073741824 := o2.1
  refine sd rfl (yl_appendL (S := (fun _ => False)) (lo := b7) (hi := (b7 + 1)) (xs := ([] : List Str)) (ys := p_s) good_Str Tryz.un27 Tryz.ty9 rfl (Nat.le_of_ble_eq_true rfl) rfl rfl rfl hO13 he16 hs17 rfl (by first | omega | (simp only [List.length_append, List.length_cons, List.length_nil, List.length_take, List.length_drop, List.length_replicate, List.length_set, toS_length]; omega)) (by first | omega | (simp only [List.length_append, List.length_cons, List.length_nil, List.length_take, List.length_drop, List.length_replicate, List.length_set, toS_length]; omega)) (by omega) (by omega) (fun _ h _ => False.elim h) (by omega) ?_)
  intro A19 c20 w21 row22 hO23 hG24 hrg25
  have hG24z := hG24.size
  refine sd rfl (yl_assign rfl rfl (SeqR.done (tn (CW.ret (rr rfl (.cons rfl .nil) ?_)))))
  have hM26 : (g_slices_Clone_string p_s) = ((([] : List Str) ++ p_s)) := by simp only [g_slices_Clone_string, cond_true, cond_false, loopE_done, loopE_ret]
  have hol27 : p_s.length ≤ 1073741824 := o2.1
  rw [hM26]
  exact ⟨A19, c20, b7, w21.heap.size, rfl, hO23, (okL.mk (xs := (([] : List Str) ++ p_s)) (by first | omega | (simp only [List.length_append, List.length_cons, List.length_nil, List.length_take, List.length_drop, List.length_replicate, List.length_set, toS_length]; omega)) (okE.append okE.nil (o2).2)), (by omega), (Below.grown (Ex.trans (Ex.refl w) hE12) hG24 (by omega) (fun k hk => by have := hrg25 k hk; omega))⟩
set_option maxRecDepth 100000 in
set_option maxHeartbeats 2000000 in
theorem c_g_slices_Clone_Idx {A1 : Option Addr} {c1 : Nat} {w : World} (p_s : List DIdx) (h1 : RdS w (Iv 0 w.heap.size) (RF e_Idx) 3 A1 p_s.length c1 p_s) (o2 : (okL ok_Idx) p_s) : Cal Tryz.prog 139 #[.slice A1 p_s.length c1] w fun v w' => ∃ A_1 c_1 lo_1 hi_1, v = .slice A_1 ((g_slices_Clone_Idx p_s).length) c_1 ∧ OwnL w' lo_1 hi_1 137 3 (RF e_Idx) A_1 ((g_slices_Clone_Idx p_s).length) c_1 (g_slices_Clone_Idx p_s) ∧ (okL ok_Idx) (g_slices_Clone_Idx p_s) ∧ (w.heap.size ≤ lo_1 ∧ lo_1 ≤ hi_1 ∧ hi_1 ≤ w'.heap.size) ∧ Ex w w' := by
 have hol3 := o2.1
 refine Cal.of (vs := [.slice A1 p_s.length c1]) Tryz.func139 rfl Tryz.ntmps139 rfl (CW.seq (CW.region (sd rfl (yl_assign rfl rfl (SeqR.done (tn (CW.seq (CW.seq (CW.region ?_)))))))))
 refine sd rfl (yl_move rfl rfl (sd rfl (yl_snil Tryz.un93 rfl rfl rfl (SeqR.done (tn (bcase (A1.isNone) (fun hb4 => ?_) (fun hb4 => ?_)))))))
 ·have hnil5 : p_s = [] := RdS.nilA h1 hb4
  refine CW.cond_t rfl hb4 (CW.seq (CW.region (sd rfl (yl_assign rfl rfl (SeqR.done (tn (CW.ret (tr (rr rfl (.cons rfl .nil) ?_)))))))))
  have hM6 : (g_slices_Clone_Idx p_s) = (([] : List DIdx)) := by simp only [g_slices_Clone_Idx, hnil5, cond_true, cond_false, loopE_done, loopE_ret, List.append_nil]
  rw [hM6]
  exact ⟨none, 0, w.heap.size, w.heap.size, rfl, (OwnL.nil _ _ _ _ _ _), (okL.nil _), (by omega), (Ex.refl w)⟩
 ·refine CW.cond_f rfl hb4 (CW.skip (tn (CW.seq (CW.region (sd rfl (yl_buildSlice (cs := []) Tryz.un93 Tryz.ty137 (by decide) rfl opvs_nil (by kernel_rfl) ?_))))))
  intro b7 w8 hs9 hz10 hB11 hE12
  have hO13 : OwnL w8 b7 (b7 + 1) 137 3 (RF e_Idx) (some ⟨b7, 0, none⟩) 0 0 ([] : List DIdx) := OwnL.of_box (S := fun _ => False) hB11 (Nat.le_refl _) (Nat.lt_succ_self _) EncL.nil (Nat.le_of_ble_eq_true rfl) (fun h => h) (fun _ h => False.elim h)
  refine sd rfl (yl_move rfl rfl ?_)
  obtain ⟨nw15, he16, hs17⟩ := RdS.src (RdS.ex good_Idx h1 hE12)
  have hol18 : p_s.length ≤ 1073741824 := o2.1
  refine sd rfl (yl_appendL (S := (fun _ => False)) (lo := b7) (hi := (b7 + 1)) (xs := ([] : List DIdx)) (ys := p_s) good_Idx Tryz.un93 Tryz.ty137 rfl (Nat.le_of_ble_eq_true rfl) rfl rfl rfl hO13 he16 hs17 rfl (by first | omega | (simp only [List.length_append, List.length_cons, List.length_nil, List.length_take, List.length_drop, List.length_replicate, List.length_set, toS_length]; omega)) (by first | omega | (simp only [List.length_append, List.length_cons, List.length_nil, List.length_take, List.length_drop, List.length_replicate, List.length_set, toS_length]; omega)) (by omega) (by omega) (fun _ h _ => False.elim h) (by omega) ?_)
  intro A19 c20 w21 row22 hO23 hG24 hrg25
  have hG24z := hG24.size
  refine sd rfl (yl_assign rfl rfl (SeqR.done (tn (CW.ret (rr rfl (.cons rfl .nil) ?_)))))
  have hM26 : (g_slices_Clone_Idx p_s) = ((([] : List DIdx) ++ p_s)) := by simp only [g_slices_Clone_Idx, cond_true, cond_false, loopE_done, loopE_ret]
  have hol27 : p_s.length ≤ 1073741824 := o2.1
  rw [hM26]
  exact ⟨A19, c20, b7, w21.heap.size, rfl, hO23, (okL.mk (xs := (([] : List DIdx) ++ p_s)) (by first | omega | (simp only [List.length_append, List.length_cons, List.length_nil, List.length_take, List.length_drop, List.length_replicate, List.length_set, toS_length]; omega)) (okE.append okE.nil (o2).2)), (by omega), (Below.grown (Ex.trans (Ex.refl w) hE12) hG24 (by omega) (fun k hk => by have := hrg25 k hk; omega))⟩
set_option maxRecDepth 100000 in
set_option maxHeartbeats 2000000 in
theorem c_i_copyTable {A1 : Option Addr} {c1 : Nat} {A2 : Option Addr} {c2 : Nat} {w : World} (p_t : DTable) (h1 : RdS w (Iv 0 w.heap.size) (RF e_Str) 1 A1 p_t.Cols.length c1 p_t.Cols) (h2 : RdS w (Iv 0 w.heap.size) (RF e_Idx) 3 A2 p_t.Idxs.length c2 p_t.Idxs) (o3 : ok_Table p_t) : Cal Tryz.prog 105 #[.agg #[.string (bs (p_t.Name)), .slice A1 p_t.Cols.length c1, .slice A2 p_t.Idxs.length c2]] w fun v w' => ∃ A_1 c_1 lo_1 hi_1 A_2 c_2 lo_2 hi_2, v = .agg #[.string (bs ((i_copyTable p_t).Name)), .slice A_1 (((i_copyTable p_t).Cols).length) c_1, .slice A_2 (((i_copyTable p_t).Idxs).length) c_2] ∧ OwnL w' lo_1 hi_1 9 1 (RF e_Str) A_1 (((i_copyTable p_t).Cols).length) c_1 ((i_copyTable p_t).Cols) ∧ OwnL w' lo_2 hi_2 137 3 (RF e_Idx) A_2 (((i_copyTable p_t).Idxs).length) c_2 ((i_copyTable p_t).Idxs) ∧ ok_Table (i_copyTable p_t) ∧ (w.heap.size ≤ lo_1 ∧ lo_1 ≤ hi_1 ∧ hi_1 ≤ w'.heap.size) ∧ (w.heap.size ≤ lo_2 ∧ lo_2 ≤ hi_2 ∧ hi_2 ≤ w'.heap.size) ∧ (hi_1 ≤ lo_2 ∨ hi_2 ≤ lo_1) ∧ Ex w w' := by
 have hol4 : p_t.Name.length ≤ 1073741824 := o3.1
 have hol5 := o3.2.1.1
 have hol6 := o3.2.2.1
 refine Cal.of (vs := [.agg #[.string (bs (p_t.Name)), .slice A1 p_t.Cols.length c1, .slice A2 p_t.Idxs.length c2]]) Tryz.func105 rfl Tryz.ntmps105 rfl (CW.seq (CW.region (sd rfl (yl_box (cs := [.string (bs (p_t.Name)), .slice A1 p_t.Cols.length c1, .slice A2 p_t.Idxs.length c2]) rfl rfl rfl ?_))))
 intro b7 w8 hs9 hz10 hB11 hE12
 refine sd rfl (yl_alloc Tryz.ty95 (cs := [.string (bs (([] : Str))), .slice none 0 0, .slice none 0 0]) rfl rfl ?_)
 intro b13 w14 hs15 hz16 hB17 hE18
 refine SeqR.done (tn (CW.seq ?_))
 have q19 := Box.ex hB11 hE18
 refine CW.drawsI 8 (vgetI [DetI (.pointer (some ⟨b7, 0 + 0, none⟩)), DetI (.string (bs (p_t.Name))), DetI (.pointer (some ⟨b7, 0 + 1, none⟩)), DetI (.slice A1 p_t.Cols.length c1), fun lo hi v wq => ∃ A23 c23 lo23 hi23, v = .slice A23 ((g_slices_Clone_string p_t.Cols).length) c23 ∧ OwnL wq lo23 hi23 9 1 (RF e_Str) A23 ((g_slices_Clone_string p_t.Cols).length) c23 (g_slices_Clone_string p_t.Cols) ∧ (okL okS) (g_slices_Clone_string p_t.Cols) ∧ (lo ≤ lo23 ∧ lo23 ≤ hi23 ∧ hi23 ≤ hi), DetI (.pointer (some ⟨b7, 0 + 2, none⟩)), DetI (.slice A2 p_t.Idxs.length c2), fun lo hi v wq => ∃ A28 c28 lo28 hi28, v = .slice A28 ((g_slices_Clone_Idx p_t.Idxs).length) c28 ∧ OwnL wq lo28 hi28 137 3 (RF e_Idx) A28 ((g_slices_Clone_Idx p_t.Idxs).length) c28 (g_slices_Clone_Idx p_t.Idxs) ∧ (okL ok_Idx) (g_slices_Clone_Idx p_t.Idxs) ∧ (lo ≤ lo28 ∧ lo28 ≤ hi28 ∧ hi28 ≤ hi)]) Tryz.follows rfl rfl rfl rfl rfl rfl (vgetI_stable ⟨StableI.det _, StableI.det _, StableI.det _, StableI.det _, (fun _ _ _ _ _ ⟨A23, c23, lo23, hi23, hv, h23, ho24, hr0⟩ e => ⟨A23, c23, lo23, hi23, hv, OwnL.ex good_Str h23 e, ho24, hr0⟩), StableI.det _, StableI.det _, (fun _ _ _ _ _ ⟨A28, c28, lo28, hi28, hv, h28, ho29, hr0⟩ e => ⟨A28, c28, lo28, hi28, hv, OwnL.ex good_Idx h28 e, ho29, hr0⟩), trivial⟩) ⟨?_, ?_, ?_, ?_, ?_, ?_, ?_, ?_, trivial⟩ ?_
 ·exact fun _ _ h => os rfl ((yl_fieldAddr Tryz.fd95_0 rfl (h.old 1 _ rfl rfl) kI))
 ·exact fun _ _ h => os rfl ((yl_load1 Tryz.ty9 rfl (h.dt 0 3 rfl rfl rfl) (((Box.ex q19 h.ex).cell 0).trans rfl) kI))
 ·exact fun _ _ h => os rfl ((yl_fieldAddr Tryz.fd95_1 rfl (h.old 1 _ rfl rfl) kI))
 ·exact fun _ _ h => os rfl ((yl_load1 Tryz.ty27 rfl (h.dt 2 5 rfl rfl rfl) (((Box.ex q19 h.ex).cell 1).trans rfl) kI))
 ·intro L52 w53 hi54
  have hE55 := hi54.ex
  refine OpR.op' rfl (yl_call Tryz.en138 rfl (opvs_cons (hi54.dt 3 6 rfl rfl rfl) opvs_nil) (Cal.mono (c_g_slices_Clone_string p_t.Cols (RdS.up (RdS.ex good_Str (RdS.ex good_Str (RdS.ex good_Str h1 hE12) hE18) hE55) good_Str) o3.2.1) ?_))
  rintro v61 w58 ⟨A59, c59, lo59, hi59, rfl, h59, ho60, hrn63, hE62⟩
  exact ⟨⟨A59, c59, lo59, hi59, rfl, h59, ho60, hrn63⟩, hE62⟩
 ·exact fun _ _ h => os rfl ((yl_fieldAddr Tryz.fd95_2 rfl (h.old 1 _ rfl rfl) kI))
 ·exact fun _ _ h => os rfl ((yl_load1 Tryz.ty93 rfl (h.dt 5 8 rfl rfl rfl) (((Box.ex q19 h.ex).cell 2).trans rfl) kI))
 ·intro L75 w76 hi77
  have hE78 := hi77.ex
  refine OpR.op' rfl (yl_call Tryz.en139 rfl (opvs_cons (hi77.dt 6 9 rfl rfl rfl) opvs_nil) (Cal.mono (c_g_slices_Clone_Idx p_t.Idxs (RdS.up (RdS.ex good_Idx (RdS.ex good_Idx (RdS.ex good_Idx h2 hE12) hE18) hE78) good_Idx) o3.2.2) ?_))
  rintro v84 w81 ⟨A82, c82, lo82, hi82, rfl, h82, ho83, hrn86, hE85⟩
  exact ⟨⟨A82, c82, lo82, hi82, rfl, h82, ho83, hrn86⟩, hE85⟩
 ·intro fl90 fh91 L87 w88 hp89
  have hE92 := hp89.ex
  have hE92z := Ex.size hE92
  have hx93 := hp89.old 2 _ rfl rfl
  have hr96 := hp89.rng 4 rfl
  obtain ⟨_, hx95, A23_97, c23_98, lo23_99, hi23_100, rfl, h101, h102, hrn103⟩ := hp89.new 4 7 rfl rfl
  have hr105 := hp89.rng 7 rfl
  have hsp106 := hp89.sep 4 7 rfl rfl rfl
  obtain ⟨_, hx104, A28_107, c28_108, lo28_109, hi28_110, rfl, h111, h112, hrn113⟩ := hp89.new 7 10 rfl rfl
  refine sd rfl (yl_build (cs := [.string (bs (p_t.Name)), .slice A23_97 ((g_slices_Clone_string p_t.Cols).length) c23_98, .slice A28_107 ((g_slices_Clone_Idx p_t.Idxs).length) c28_108]) rfl (opvs_cons (hp89.nt 1 4 rfl rfl rfl) (opvs_cons hx95 (opvs_cons hx104 opvs_nil))) (by kernel_rfl) (SeqR.u rfl rfl (yl_store (vs := [.string (bs (p_t.Name)), .slice A23_97 ((g_slices_Clone_string p_t.Cols).length) c23_98, .slice A28_107 ((g_slices_Clone_Idx p_t.Idxs).length) c28_108]) Tryz.ty95 rfl hx93 rfl rfl rfl rfl (Box.ex hB17 hE92) (Nat.le_of_ble_eq_true rfl) ?_)))
  intro w115 hB116 hO117
  have hB116 : Box w115 b13 95 [.string (bs (p_t.Name)), .slice A23_97 ((g_slices_Clone_string p_t.Cols).length) c23_98, .slice A28_107 ((g_slices_Clone_Idx p_t.Idxs).length) c28_108] := hB116
  have hO117z := hO117.size
  refine SeqR.done (tn (CW.sub (Sub.cons (d := 2) hx93 (Sub.nil _)) (CW.ret (rr rfl (.cons ⟨_, rfl, run_loadN Tryz.ty95 (cs := [.string (bs (p_t.Name)), .slice A23_97 ((g_slices_Clone_string p_t.Cols).length) c23_98, .slice A28_107 ((g_slices_Clone_Idx p_t.Idxs).length) c28_108]) rfl (hB116.cells (n := 3) rfl)⟩ .nil) ?_))))
  have hM118 : (i_copyTable p_t) = ((⟨p_t.Name, (g_slices_Clone_string p_t.Cols), (g_slices_Clone_Idx p_t.Idxs)⟩ : DTable)) := by simp only [i_copyTable, cond_true, cond_false, loopE_done, loopE_ret]
  rw [hM118]
  exact ⟨A23_97, c23_98, lo23_99, hi23_100, A28_107, c28_108, lo28_109, hi28_110, rfl, (OwnL.only good_Str h101 hO117 (by omega)), (OwnL.only good_Idx h111 hO117 (by omega)), ⟨o3.1, h102, h112⟩, (by omega), (by omega), (by omega), (Below.only (Ex.trans (Ex.trans (Ex.trans (Ex.refl w) hE12) hE18) hE92) hO117 (by omega))⟩
set_option maxRecDepth 100000 in
set_option maxHeartbeats 2000000 in
theorem c_i_Table_withStage {A1 : Option Addr} {c1 : Nat} {A2 : Option Addr} {c2 : Nat} {w : World} (p_t : DTable) (p_name : Str) (p_stage : Int) (h1 : RdS w (Iv 0 w.heap.size) (RF e_Str) 1 A1 p_t.Cols.length c1 p_t.Cols) (h2 : RdS w (Iv 0 w.heap.size) (RF e_Idx) 3 A2 p_t.Idxs.length c2 p_t.Idxs) (o3 : ok_Table p_t) (o4 : okS p_name) (pre0 : (0 ≤ i_Table_findIdx p_t p_name ∧ i_Table_findIdx p_t p_name < (p_t.Idxs.length : Int))) : Cal Tryz.prog 106 #[.agg #[.string (bs (p_t.Name)), .slice A1 p_t.Cols.length c1, .slice A2 p_t.Idxs.length c2], .string (bs (p_name)), .int .i64 (p_stage)] w fun v w' => ∃ A_1 c_1 lo_1 hi_1 A_2 c_2 lo_2 hi_2, v = .agg #[.string (bs ((i_Table_withStage p_t p_name p_stage).Name)), .slice A_1 (((i_Table_withStage p_t p_name p_stage).Cols).length) c_1, .slice A_2 (((i_Table_withStage p_t p_name p_stage).Idxs).length) c_2] ∧ OwnL w' lo_1 hi_1 9 1 (RF e_Str) A_1 (((i_Table_withStage p_t p_name p_stage).Cols).length) c_1 ((i_Table_withStage p_t p_name p_stage).Cols) ∧ OwnL w' lo_2 hi_2 137 3 (RF e_Idx) A_2 (((i_Table_withStage p_t p_name p_stage).Idxs).length) c_2 ((i_Table_withStage p_t p_name p_stage).Idxs) ∧ ok_Table (i_Table_withStage p_t p_name p_stage) ∧ (w.heap.size ≤ lo_1 ∧ lo_1 ≤ hi_1 ∧ hi_1 ≤ w'.heap.size) ∧ (w.heap.size ≤ lo_2 ∧ lo_2 ≤ hi_2 ∧ hi_2 ≤ w'.heap.size) ∧ (hi_1 ≤ lo_2 ∨ hi_2 ≤ lo_1) ∧ Ex w w' := by
 have hol5 : p_t.Name.length ≤ 1073741824 := o3.1
 have hol6 := o3.2.1.1
 have hol7 := o3.2.2.1
 have hol8 : p_name.length ≤ 1073741824 := o4
 refine Cal.of (vs := [.agg #[.string (bs (p_t.Name)), .slice A1 p_t.Cols.length c1, .slice A2 p_t.Idxs.length c2], .string (bs (p_name)), .int .i64 (p_stage)]) Tryz.func106 rfl Tryz.ntmps106 rfl (CW.seq (CW.region (sd rfl (yl_box (cs := [.string (bs (p_t.Name)), .slice A1 p_t.Cols.length c1, .slice A2 p_t.Idxs.length c2]) rfl rfl rfl ?_))))
 intro b9 w10 hs11 hz12 hB13 hE14
 refine sd rfl (yl_alloc Tryz.ty95 (cs := [.string (bs (([] : Str))), .slice none 0 0, .slice none 0 0]) rfl rfl ?_)
 intro b15 w16 hs17 hz18 hB19 hE20
 refine SeqR.done (tn (CW.seq (CW.region ?_)))
 have q21 := Box.ex hB13 hE20
 refine sd rfl (yl_loadN (cs := [.string (bs (p_t.Name)), .slice A1 p_t.Cols.length c1, .slice A2 p_t.Idxs.length c2]) Tryz.ty95 rfl rfl (q21.cells (n := 3) rfl) rfl ?_)
 have q23 := RdS.ex good_Str (RdS.ex good_Str h1 hE14) hE20
 have q25 := RdS.ex good_Idx (RdS.ex good_Idx h2 hE14) hE20
 refine sd rfl (yl_call Tryz.en105 rfl (opvs_cons rfl opvs_nil) (Cal.mono (c_i_copyTable p_t (RdS.up q23 good_Str) (RdS.up q25 good_Idx) o3) ?_))
 rintro v30 w26 ⟨A27, c27, lo27, hi27, A28, c28, lo28, hi28, rfl, h27, h28, ho29, hrn32, hrn33, hrn34, hE31⟩
 have hE31z := Ex.size hE31
 have hrf35 := rf_copyTable p_t
 refine sd rfl (yl_alloc Tryz.ty95 (cs := [.string (bs (([] : Str))), .slice none 0 0, .slice none 0 0]) rfl rfl ?_)
 intro b36 w37 hs38 hz39 hB40 hE41
 refine SeqR.u rfl rfl (yl_store (vs := [.string (bs ((i_copyTable p_t).Name)), .slice A27 (((i_copyTable p_t).Cols).length) c27, .slice A28 (((i_copyTable p_t).Idxs).length) c28]) Tryz.ty95 rfl rfl rfl rfl rfl rfl hB40 (Nat.le_of_ble_eq_true rfl) ?_)
 intro w42 hB43 hO44
 have hB43 : Box w42 b36 95 [.string (bs ((i_copyTable p_t).Name)), .slice A27 (((i_copyTable p_t).Cols).length) c27, .slice A28 (((i_copyTable p_t).Idxs).length) c28] := hB43
 have hO44z := hO44.size
 refine SeqR.done (tn (CW.seq ?_))
 have hrf55 := rf_i_findIdx p_t p_name
 refine CW.drawsI 6 (vgetI [DetI (.pointer (some ⟨b36, 0 + 2, none⟩)), DetI (.slice A28 (((i_copyTable p_t).Idxs).length) c28), DetI (.agg #[.string (bs (p_t.Name)), .slice A1 p_t.Cols.length c1, .slice A2 p_t.Idxs.length c2]), DetI (.string (bs (p_name))), DetI (.int .i64 ((i_Table_findIdx p_t p_name))), DetI (.int .i64 (p_stage))]) Tryz.follows rfl rfl rfl rfl rfl rfl (vgetI_stable ⟨StableI.det _, StableI.det _, StableI.det _, StableI.det _, StableI.det _, StableI.det _, trivial⟩) ⟨?_, ?_, ?_, ?_, ?_, ?_, trivial⟩ ?_
 ·exact fun _ _ h => os rfl ((yl_fieldAddr Tryz.fd95_2 rfl (h.old 7 _ rfl rfl) kI))
 ·exact fun _ _ h => os rfl ((yl_load1 Tryz.ty93 rfl (h.dt 0 10 rfl rfl rfl) (((Box.ex hB43 h.ex).cell 2).trans rfl) kI))
 ·intro L67 w68 hi69
  have hE70 := hi69.ex
  have hE70z := Ex.size hE70
  exact os rfl ((yl_loadN (cs := [.string (bs (p_t.Name)), .slice A1 p_t.Cols.length c1, .slice A2 p_t.Idxs.length c2]) Tryz.ty95 rfl (hi69.old 3 _ rfl rfl) ((Box.ex (Box.only (Box.ex (Box.ex q21 hE31) hE41) hO44 (by omega)) hE70).cells (n := 3) rfl) rfl kI))
 ·exact fun _ _ h => os rfl ((yl_move rfl (h.old 1 _ rfl rfl) kI))
 ·intro L78 w79 hi80
  have hE81 := hi80.ex
  have hE81z := Ex.size hE81
  refine OpR.op' rfl (yl_call Tryz.en102 rfl (opvs_cons (hi80.dt 2 12 rfl rfl rfl) (opvs_cons (hi80.dt 3 13 rfl rfl rfl) opvs_nil)) (Cal.mono (c_i_Table_findIdx p_t p_name (RdS.up (RdS.ex good_Str (RdS.only good_Str (RdS.ex good_Str (RdS.ex good_Str q23 hE31) hE41) hO44 (by simp only [Iv]; omega)) hE81) good_Str) (RdS.up (RdS.ex good_Idx (RdS.only good_Idx (RdS.ex good_Idx (RdS.ex good_Idx q25 hE31) hE41) hO44 (by simp only [Iv]; omega)) hE81) good_Idx) o3 o4) ?_))
  rintro v87 w86 ⟨rfl, hE88⟩
  exact ⟨rfl, hE88⟩
 ·exact fun _ _ h => os rfl ((yl_move rfl (h.old 2 _ rfl rfl) kI))
 ·intro fl97 fh98 L94 w95 hp96
  have hE99 := hp96.ex
  have hE99z := Ex.size hE99
  have q108 := OwnL.ex good_Idx (OwnL.only good_Idx (OwnL.ex good_Idx h28 hE41) hO44 (by omega)) hE99
  obtain ⟨eb109, eo109, ec109, eA109, eS109, ebl109, el109, eR109, eC109⟩ := RdS.atD (OwnL.rd good_Idx q108) d_Idx (i := ((i_Table_findIdx p_t p_name)).toNat) (by first | omega | assumption | (simp only [IntKind.wrap_i64] at *; omega))
  obtain rfl := eR109
  have eC109 : Cells w95 eb109 (eo109 + (((i_Table_findIdx p_t p_name)).toNat) * 3) [.string (bs ((((i_copyTable p_t).Idxs).getD (((i_Table_findIdx p_t p_name)).toNat) d_Idx).Name)), .int .i64 ((((i_copyTable p_t).Idxs).getD (((i_Table_findIdx p_t p_name)).toNat) d_Idx).Col), .int .i64 ((((i_copyTable p_t).Idxs).getD (((i_Table_findIdx p_t p_name)).toNat) d_Idx).Stage)] := eC109
  refine sd rfl (yl_indexAddr Tryz.un93 Tryz.ty137 rfl (hp96.nt 1 11 rfl rfl rfl) (hp96.nt 4 14 rfl rfl rfl) eA109 (by first | omega | assumption | (simp only [IntKind.wrap_i64] at *; omega)) (by first | omega | assumption | (simp only [IntKind.wrap_i64] at *; omega)) (sd rfl (yl_fieldAddr Tryz.fd137_2 rfl rfl ?_)))
  have hrg110 := OwnL.rng q108 (i := ((i_Table_findIdx p_t p_name)).toNat) (by first | omega | assumption | (simp only [IntKind.wrap_i64] at *; omega)) eb109 (by rw [eA109]; rfl)
  refine SeqR.u rfl rfl (yl_storeF (off := eo109) (i := ((i_Table_findIdx p_t p_name)).toNat) (d := 2) (dx := d_Idx) (x' := (⟨(((i_copyTable p_t).Idxs).getD (((i_Table_findIdx p_t p_name)).toNat) d_Idx).Name, (((i_copyTable p_t).Idxs).getD (((i_Table_findIdx p_t p_name)).toNat) d_Idx).Col, p_stage⟩ : DIdx)) (vs := [.int .i64 (p_stage)]) Tryz.ty3 rfl q108 eA109 rfl (hp96.nt 5 15 rfl rfl rfl) rfl rfl rfl (by first | omega | assumption | (simp only [IntKind.wrap_i64] at *; omega)) (Nat.le_of_ble_eq_true rfl) rfl rfl ?_)
  intro w111 hB112 hO113
  have hO113z := hO113.size
  refine SeqR.done (tn (CW.sub (Sub.cons (d := 6) (hp96.old 6 _ rfl rfl) (Sub.cons (d := 7) (hp96.old 7 _ rfl rfl) (Sub.nil _))) (CW.seq (CW.region (sd rfl (yl_loadN (cs := [.string (bs ((i_copyTable p_t).Name)), .slice A27 (((i_copyTable p_t).Cols).length) c27, .slice A28 (((i_copyTable p_t).Idxs).length) c28]) Tryz.ty95 rfl rfl ((Box.only (Box.ex hB43 hE99) hO113 (by omega)).cells (n := 3) rfl) rfl (SeqR.u rfl rfl (yl_store (vs := [.string (bs ((i_copyTable p_t).Name)), .slice A27 (((i_copyTable p_t).Cols).length) c27, .slice A28 (((i_copyTable p_t).Idxs).length) c28]) Tryz.ty95 rfl rfl rfl rfl rfl rfl (Box.only (Box.ex (Box.only (Box.ex (Box.ex hB19 hE31) hE41) hO44 (by omega)) hE99) hO113 (by omega)) (Nat.le_of_ble_eq_true rfl) ?_))))))))
  intro w121 hB122 hO123
  have hB122 : Box w121 b15 95 [.string (bs ((i_copyTable p_t).Name)), .slice A27 (((i_copyTable p_t).Cols).length) c27, .slice A28 (((i_copyTable p_t).Idxs).length) c28] := hB122
  have hO123z := hO123.size
  refine SeqR.done (tn (CW.ret (rr rfl (.cons ⟨_, rfl, run_loadN Tryz.ty95 (cs := [.string (bs ((i_copyTable p_t).Name)), .slice A27 (((i_copyTable p_t).Cols).length) c27, .slice A28 (((i_copyTable p_t).Idxs).length) c28]) rfl (hB122.cells (n := 3) rfl)⟩ .nil) ?_)))
  have hM124 : (i_Table_withStage p_t p_name p_stage) = ((⟨(i_copyTable p_t).Name, (i_copyTable p_t).Cols, (((i_copyTable p_t).Idxs).set (((i_Table_findIdx p_t p_name)).toNat) (⟨(((i_copyTable p_t).Idxs).getD (((i_Table_findIdx p_t p_name)).toNat) d_Idx).Name, (((i_copyTable p_t).Idxs).getD (((i_Table_findIdx p_t p_name)).toNat) d_Idx).Col, p_stage⟩ : DIdx))⟩ : DTable)) := by simp only [i_Table_withStage, cond_true, cond_false, loopE_done, loopE_ret]
  have q130 := OwnL.only good_Idx hB112 hO123 (by omega)
  have hfx131 := (q130).1
  have hol132 : ((i_copyTable p_t).Idxs).length ≤ 1073741824 := ho29.2.2.1
  rw [hM124]
  exact ⟨A27, c27, lo27, hi27, A28, c28, lo28, hi28, (by first | rfl | (simp only [List.length_replicate, List.length_set]; done) | (simp only [List.length_replicate, List.length_set]; rfl) | rw [hfx131]), (OwnL.only good_Str (OwnL.only good_Str (OwnL.ex good_Str (OwnL.only good_Str (OwnL.ex good_Str h27 hE41) hO44 (by omega)) hE99) hO113 (by omega)) hO123 (by omega)), (OwnL.fix q130), ⟨ho29.1, ho29.2.1, (okL.mk (xs := (((i_copyTable p_t).Idxs).set (((i_Table_findIdx p_t p_name)).toNat) (⟨(((i_copyTable p_t).Idxs).getD (((i_Table_findIdx p_t p_name)).toNat) d_Idx).Name, (((i_copyTable p_t).Idxs).getD (((i_Table_findIdx p_t p_name)).toNat) d_Idx).Col, p_stage⟩ : DIdx))) (by first | omega | (simp only [List.length_append, List.length_cons, List.length_nil, List.length_take, List.length_drop, List.length_replicate, List.length_set, toS_length]; omega)) (okE.set (ho29.2.2).2 (okL.getD ho29.2.2 ok_d_Idx _)))⟩, (by omega), (by omega), (by omega), (Below.only (Below.only (Ex.trans (Below.only (Ex.trans (Ex.trans (Ex.trans (Ex.trans (Ex.refl w) hE14) hE20) hE31) hE41) hO44 (by omega)) hE99) hO113 (by omega)) hO123 (by omega))⟩
set_option maxRecDepth 100000 in
set_option maxHeartbeats 2000000 in
theorem c_i_Table_wayTo {A1 : Option Addr} {c1 : Nat} {A2 : Option Addr} {c2 : Nat} {w : World} (p_t : DTable) (p_name : Str) (p_stage : Int) (h1 : RdS w (Iv 0 w.heap.size) (RF e_Str) 1 A1 p_t.Cols.length c1 p_t.Cols) (h2 : RdS w (Iv 0 w.heap.size) (RF e_Idx) 3 A2 p_t.Idxs.length c2 p_t.Idxs) (o3 : ok_Table p_t) (o4 : okS p_name) (pre0 : (0 ≤ i_Table_findIdx p_t p_name ∧ i_Table_findIdx p_t p_name < (p_t.Idxs.length : Int))) (pre1 : (0 ≤ (i_Table_idx p_t p_name).Stage ∧ (i_Table_idx p_t p_name).Stage ≤ 3)) (pre2 : (0 ≤ p_stage ∧ p_stage ≤ 3)) : Cal Tryz.prog 71 #[.agg #[.string (bs (p_t.Name)), .slice A1 p_t.Cols.length c1, .slice A2 p_t.Idxs.length c2], .string (bs (p_name)), .int .i64 (p_stage)] w fun v w' => ∃ A_1 c_1 lo_1 hi_1, v = .slice A_1 ((i_Table_wayTo p_t p_name p_stage).length) c_1 ∧ OwnL w' lo_1 hi_1 95 3 R_Table A_1 ((i_Table_wayTo p_t p_name p_stage).length) c_1 (i_Table_wayTo p_t p_name p_stage) ∧ (okL ok_Table) (i_Table_wayTo p_t p_name p_stage) ∧ (w.heap.size ≤ lo_1 ∧ lo_1 ≤ hi_1 ∧ hi_1 ≤ w'.heap.size) ∧ Ex w w' := by
 have hol5 : p_t.Name.length ≤ 1073741824 := o3.1
 have hol6 := o3.2.1.1
 have hol7 := o3.2.2.1
 have hol8 : p_name.length ≤ 1073741824 := o4
 refine Cal.of (vs := [.agg #[.string (bs (p_t.Name)), .slice A1 p_t.Cols.length c1, .slice A2 p_t.Idxs.length c2], .string (bs (p_name)), .int .i64 (p_stage)]) Tryz.func71 rfl Tryz.ntmps71 rfl (CW.seq (CW.region (sd rfl (yl_box (cs := [.string (bs (p_t.Name)), .slice A1 p_t.Cols.length c1, .slice A2 p_t.Idxs.length c2]) rfl rfl rfl ?_))))
 intro b9 w10 hs11 hz12 hB13 hE14
 refine sd rfl (yl_assign rfl rfl (SeqR.done (tn (CW.seq (CW.region (sd rfl (yl_loadN (cs := [.string (bs (p_t.Name)), .slice A1 p_t.Cols.length c1, .slice A2 p_t.Idxs.length c2]) Tryz.ty95 rfl rfl (hB13.cells (n := 3) rfl) rfl (sd rfl (yl_move rfl rfl ?_)))))))))
 have q15 := RdS.ex good_Str h1 hE14
 have q16 := RdS.ex good_Idx h2 hE14
 refine sd rfl (yl_call Tryz.en104 rfl (opvs_cons rfl (opvs_cons rfl opvs_nil)) (Cal.mono (c_i_Table_idx p_t p_name (RdS.up q15 good_Str) (RdS.up q16 good_Idx) o3 o4 (by first | omega | assumption | (simp only [IntKind.wrap_i64] at *; omega))) ?_))
 rintro v19 w17 ⟨rfl, ho18, hE20⟩
 have hE20z := Ex.size hE20
 refine sd rfl (yl_field1 Tryz.fd137_2 rfl rfl rfl (sd rfl (yl_assign rfl rfl (SeqR.done (tn (CW.seq (CW.region ?_)))))))
 have q21 := Box.ex hB13 hE20
 refine sd rfl (yl_loadN (cs := [.string (bs (p_t.Name)), .slice A1 p_t.Cols.length c1, .slice A2 p_t.Idxs.length c2]) Tryz.ty95 rfl rfl (q21.cells (n := 3) rfl) rfl ?_)
 have q22 := RdS.ex good_Str q15 hE20
 have q23 := RdS.ex good_Idx q16 hE20
 refine sd rfl (yl_call Tryz.en105 rfl (opvs_cons rfl opvs_nil) (Cal.mono (c_i_copyTable p_t (RdS.up q22 good_Str) (RdS.up q23 good_Idx) o3) ?_))
 rintro v28 w24 ⟨A25, c25, lo25, hi25, A26, c26, lo26, hi26, rfl, h25, h26, ho27, hrn30, hrn31, hrn32, hE29⟩
 have hE29z := Ex.size hE29
 have hrf33 := rf_copyTable p_t
 refine sd rfl (yl_buildSlice (cs := [.string (bs ((i_copyTable p_t).Name)), .slice A25 (((i_copyTable p_t).Cols).length) c25, .slice A26 (((i_copyTable p_t).Idxs).length) c26]) Tryz.un37 Tryz.ty95 (by decide) rfl (opvs_cons rfl opvs_nil) (by kernel_rfl) ?_)
 intro b34 w35 hs36 hz37 hB38 hE39
 have hO40 : OwnL w35 w17.heap.size (b34 + 1) 95 3 R_Table (some ⟨b34, 0, none⟩) 1 1 ([(i_copyTable p_t)] : List DTable) := OwnL.of_box (S := Iv w17.heap.size b34) hB38 (by omega) (Nat.lt_succ_self _) (EncL.cons (c := [.string (bs ((i_copyTable p_t).Name)), .slice A25 (((i_copyTable p_t).Cols).length) c25, .slice A26 (((i_copyTable p_t).Idxs).length) c26]) rfl ⟨A25, c25, A26, c26, rfl, (RdS.ex good_Str (RdS.wide good_Str (OwnL.rd good_Str h25) (fun b hh hl => ⟨by first | exact Nat.zero_le _ | (have := hh.1; omega), by omega⟩)) hE39), (RdS.ex good_Idx (RdS.wide good_Idx (OwnL.rd good_Idx h26) (fun b hh hl => ⟨by first | exact Nat.zero_le _ | (have := hh.1; omega), by omega⟩)) hE39)⟩ EncL.nil) (Nat.le_of_ble_eq_true rfl) (fun h => Nat.lt_irrefl _ h.2) (fun _ h => ⟨h.1, Nat.lt_succ_of_lt h.2⟩)
 refine sd rfl (yl_assign rfl rfl (SeqR.done (tn (CW.seq (CW.block (CW.loop (fun m107 L108 w109 => ∃ (x102 : Int) (x103 : List DTable) (A104 : Option Addr) (c105 : Nat) (u106 : Nat), ((p_stage - x102).toNat + (x102 - p_stage).toNat) < m107 ∧ w35.heap.size ≤ w109.heap.size ∧ lkp L108 1 = some (.string (bs (p_name))) ∧ lkp L108 2 = some (.int .i64 (p_stage)) ∧ lkp L108 3 = some (.pointer (some ⟨b9, 0, none⟩)) ∧ lkp L108 7 = some (.int .i64 (x102)) ∧ lkp L108 8 = some (.slice A104 x103.length c105) ∧ Box w109 b9 95 [.string (bs (p_t.Name)), .slice A1 p_t.Cols.length c1, .slice A2 p_t.Idxs.length c2] ∧ RdS w109 (Iv 0 w.heap.size) (RF e_Str) 1 A1 p_t.Cols.length c1 p_t.Cols ∧ RdS w109 (Iv 0 w.heap.size) (RF e_Idx) 3 A2 p_t.Idxs.length c2 p_t.Idxs ∧ OwnL w109 w17.heap.size u106 95 3 R_Table A104 x103.length c105 x103 ∧ Ex w w109 ∧ (w17.heap.size ≤ u106 ∧ u106 ≤ w109.heap.size) ∧ x103.length + 1 * ((p_stage - x102).toNat + (x102 - p_stage).toNat) ≤ 1 + 1 * ((p_stage - (i_Table_idx p_t p_name).Stage).toNat + ((i_Table_idx p_t p_name).Stage - p_stage).toNat) ∧ (∀ y ∈ x103, ok_Table y) ∧ 0 ≤ x102 ∧ x102 ≤ 3 ∧ loopW (B_i_Table_wayTo_0 p_t p_name p_stage) m107 (x102, x103) = loopW (B_i_Table_wayTo_0 p_t p_name p_stage) (((p_stage - (i_Table_idx p_t p_name).Stage).toNat + ((i_Table_idx p_t p_name).Stage - p_stage).toNat) + 1) ((i_Table_idx p_t p_name).Stage, ([(i_copyTable p_t)] : List DTable))) (((p_stage - (i_Table_idx p_t p_name).Stage).toNat + ((i_Table_idx p_t p_name).Stage - p_stage).toNat) + 1) ?_ ?_))))))
 ·exact ⟨(i_Table_idx p_t p_name).Stage, ([(i_copyTable p_t)] : List DTable), (some ⟨b34, 0, none⟩), 1, (b34 + 1), Nat.lt_succ_self _, Nat.le_refl _, rfl, rfl, rfl, rfl, rfl, (Box.ex (Box.ex q21 hE29) hE39), (RdS.ex good_Str (RdS.ex good_Str q22 hE29) hE39), (RdS.ex good_Idx (RdS.ex good_Idx q23 hE29) hE39), hO40, (Ex.trans (Ex.trans (Ex.trans (Ex.trans (Ex.refl w) hE14) hE20) hE29) hE39), (by omega), (by first | (simp; done) | (first | omega | (simp only [List.length_append, List.length_cons, List.length_nil, List.length_set, toS_length]; omega))), ((okL.mk (Nat.le_of_ble_eq_true rfl) (okE.cons ho27 okE.nil))).2, (by first | omega | assumption | (simp only [IntKind.wrap_i64] at *; omega)), (by first | omega | assumption | (simp only [IntKind.wrap_i64] at *; omega)), rfl⟩
 ·rintro m120 L121 w122 ⟨x102, x103, A104, c105, u106, hk123, hsz125, hl126, hl127, hl128, hl129, hl130, hf131, hf132, hf133, hf134, hf135, hu136, hln137, hok138, hv139, hv140, hI124⟩
  refine CW.sub (Sub.cons hl126 (Sub.cons hl127 (Sub.cons hl128 (Sub.cons hl129 (Sub.cons hl130 (Sub.nil _)))))) ?_
  have hf131z := Box.lt hf131
  have hf135z := Ex.size hf135
  refine CW.seq (CW.seq (CW.region (sd rfl (yl_move rfl rfl (sd rfl (yl_move rfl rfl (sd rfl (yl_neq rfl rfl rfl (SeqR.done (tn (bcase (decide (x102 = p_stage)) (fun hb141 => ?_) (fun hb141 => ?_))))))))))))
  ·have hb141p := dec_t hb141
   refine CW.cond_f rfl (not_t hb141) (CW.exit (tx (tx ?_)))
   have hB143 : B_i_Table_wayTo_0 p_t p_name p_stage (x102, x103) = .brk (x102, x103) := by simp only [B_i_Table_wayTo_0, hb141, cond_true, cond_false, loopE_done, loopE_ret]
   have hL142 : loopW (B_i_Table_wayTo_0 p_t p_name p_stage) (((p_stage - (i_Table_idx p_t p_name).Stage).toNat + ((i_Table_idx p_t p_name).Stage - p_stage).toNat) + 1) ((i_Table_idx p_t p_name).Stage, ([(i_copyTable p_t)] : List DTable)) = .done (x102, x103) := hI124.symm.trans (loopW.brk hk123 hB143)
   refine bx (tn (CW.seq (CW.region (sd rfl (yl_move rfl rfl (sd rfl (yl_assign rfl rfl (SeqR.done (tn (CW.ret ?_))))))))))
   refine rr rfl (.cons rfl .nil) ?_
   have hM144 : (i_Table_wayTo p_t p_name p_stage) = (x103) := by simp only [i_Table_wayTo, hb141, hL142, cond_true, cond_false, loopE_done, loopE_ret]
   rw [hM144]
   exact ⟨A104, c105, w17.heap.size, u106, rfl, hf134, (okL.mk (xs := x103) (by first | omega | (simp only [List.length_append, List.length_cons, List.length_nil, List.length_take, List.length_drop, List.length_replicate, List.length_set, toS_length]; omega)) hok138), (by omega), hf135⟩
  ·have hb141p := dec_f hb141
   refine CW.cond_t rfl (not_f hb141) (CW.skip (tn (CW.block (CW.seq (CW.seq (CW.region (sd rfl (yl_move rfl rfl (sd rfl (yl_move rfl rfl ?_))))))))))
   refine sd rfl (yl_lss rfl rfl rfl (SeqR.done (tn (bcase (decide (x102 < p_stage)) (fun hb145 => ?_) (fun hb145 => ?_)))))
   ·have hb145p := dec_t hb145
    refine CW.cond_t rfl hb145 (CW.region (sd rfl (yl_move rfl rfl (sd rfl (yl_add rfl rfl rfl (sd rfl (yl_assign rfl rfl (SeqR.done (tn (CW.region (sd rfl (yl_move rfl rfl ?_))))))))))))
    refine sd rfl (yl_loadN (cs := [.string (bs (p_t.Name)), .slice A1 p_t.Cols.length c1, .slice A2 p_t.Idxs.length c2]) Tryz.ty95 rfl rfl (hf131.cells (n := 3) rfl) rfl (sd rfl (yl_move rfl rfl (sd rfl (yl_move rfl rfl (sd rfl (yl_call Tryz.en106 rfl (opvs_cons rfl (opvs_cons rfl (opvs_cons rfl opvs_nil))) (Cal.mono (c_i_Table_withStage p_t p_name (IntKind.wrap .i64 (x102 + 1)) (RdS.up hf132 good_Str) (RdS.up hf133 good_Idx) o3 o4 (by first | omega | assumption | (simp only [IntKind.wrap_i64] at *; omega))) ?_))))))))
    rintro v150 w146 ⟨A147, c147, lo147, hi147, A148, c148, lo148, hi148, rfl, h147, h148, ho149, hrn152, hrn153, hrn154, hE151⟩
    have hE151z := Ex.size hE151
    refine sd rfl (yl_buildSlice (cs := [.string (bs ((i_Table_withStage p_t p_name (IntKind.wrap .i64 (x102 + 1))).Name)), .slice A147 (((i_Table_withStage p_t p_name (IntKind.wrap .i64 (x102 + 1))).Cols).length) c147, .slice A148 (((i_Table_withStage p_t p_name (IntKind.wrap .i64 (x102 + 1))).Idxs).length) c148]) Tryz.un37 Tryz.ty95 (by decide) rfl (opvs_cons rfl opvs_nil) (by kernel_rfl) ?_)
    intro b155 w156 hs157 hz158 hB159 hE160
    have hO161 : OwnL w156 w122.heap.size (b155 + 1) 95 3 R_Table (some ⟨b155, 0, none⟩) 1 1 ([(i_Table_withStage p_t p_name (IntKind.wrap .i64 (x102 + 1)))] : List DTable) := OwnL.of_box (S := Iv w122.heap.size b155) hB159 (by omega) (Nat.lt_succ_self _) (EncL.cons (c := [.string (bs ((i_Table_withStage p_t p_name (IntKind.wrap .i64 (x102 + 1))).Name)), .slice A147 (((i_Table_withStage p_t p_name (IntKind.wrap .i64 (x102 + 1))).Cols).length) c147, .slice A148 (((i_Table_withStage p_t p_name (IntKind.wrap .i64 (x102 + 1))).Idxs).length) c148]) rfl ⟨A147, c147, A148, c148, rfl, (RdS.ex good_Str (RdS.wide good_Str (OwnL.rd good_Str h147) (fun b hh hl => ⟨by first | exact Nat.zero_le _ | (have := hh.1; omega), by omega⟩)) hE160), (RdS.ex good_Idx (RdS.wide good_Idx (OwnL.rd good_Idx h148) (fun b hh hl => ⟨by first | exact Nat.zero_le _ | (have := hh.1; omega), by omega⟩)) hE160)⟩ EncL.nil) (Nat.le_of_ble_eq_true rfl) (fun h => Nat.lt_irrefl _ h.2) (fun _ h => ⟨h.1, Nat.lt_succ_of_lt h.2⟩)
    refine sd rfl (yl_appendL (S := (Iv u106 w156.heap.size)) (lo := w17.heap.size) (hi := u106) (xs := x103) (ys := ([(i_Table_withStage p_t p_name (IntKind.wrap .i64 (x102 + 1)))] : List DTable)) good_Table Tryz.un37 Tryz.ty95 rfl (Nat.le_of_ble_eq_true rfl) rfl rfl rfl (OwnL.ex good_Table (OwnL.ex good_Table hf134 hE151) hE160) (EncL.cons (c := [.string (bs ((i_Table_withStage p_t p_name (IntKind.wrap .i64 (x102 + 1))).Name)), .slice A147 (((i_Table_withStage p_t p_name (IntKind.wrap .i64 (x102 + 1))).Cols).length) c147, .slice A148 (((i_Table_withStage p_t p_name (IntKind.wrap .i64 (x102 + 1))).Idxs).length) c148]) rfl ⟨A147, c147, A148, c148, rfl, (RdS.wide good_Str (OwnL.rd good_Str (OwnL.ex good_Str h147 hE160)) (fun b hh hl => ⟨by have := hh.1; omega, hl⟩)), (RdS.wide good_Idx (OwnL.rd good_Idx (OwnL.ex good_Idx h148 hE160)) (fun b hh hl => ⟨by have := hh.1; omega, hl⟩))⟩ EncL.nil) (Or.inr ⟨_, _, rfl, rfl, hB159.cells (o := 0) (n := 3) rfl⟩) rfl (by first | omega | (simp only [List.length_append, List.length_cons, List.length_nil, List.length_take, List.length_drop, List.length_replicate, List.length_set, toS_length]; omega)) (by first | omega | (simp only [List.length_append, List.length_cons, List.length_nil, List.length_take, List.length_drop, List.length_replicate, List.length_set, toS_length]; omega)) (by omega) (by omega) (fun _ h _ => h.1) (by omega) ?_)
    intro A170 c171 w172 row173 hO174 hG175 hrg176
    have hG175z := hG175.size
    refine sd rfl (yl_assign rfl rfl (SeqR.done (bn (tn ?_))))
    have hB177 : B_i_Table_wayTo_0 p_t p_name p_stage (x102, x103) = .cont (IntKind.wrap .i64 (x102 + 1), (x103 ++ ([(i_Table_withStage p_t p_name (IntKind.wrap .i64 (x102 + 1)))] : List DTable))) := by simp only [B_i_Table_wayTo_0, hb141, hb145, cond_true, cond_false, loopE_done, loopE_ret]
    have hmu190 : ((p_stage - IntKind.wrap .i64 (x102 + 1)).toNat + (IntKind.wrap .i64 (x102 + 1) - p_stage).toNat) < ((p_stage - x102).toNat + (x102 - p_stage).toNat) := by first | omega | assumption | (simp only [IntKind.wrap_i64] at *; omega)
    exact ⟨m120 - 1, by omega, IntKind.wrap .i64 (x102 + 1), (x103 ++ ([(i_Table_withStage p_t p_name (IntKind.wrap .i64 (x102 + 1)))] : List DTable)), A170, c171, w172.heap.size, (by omega), (by omega), rfl, rfl, rfl, rfl, rfl, (Box.grown (Box.ex (Box.ex hf131 hE151) hE160) hG175 (fun k hk => by have := hrg176 k hk; omega)), (RdS.grown good_Str (RdS.ex good_Str (RdS.ex good_Str hf132 hE151) hE160) hG175 (fun k hk => by have := hrg176 k hk; simp only [Iv]; omega)), (RdS.grown good_Idx (RdS.ex good_Idx (RdS.ex good_Idx hf133 hE151) hE160) hG175 (fun k hk => by have := hrg176 k hk; simp only [Iv]; omega)), hO174, (Below.grown (Ex.trans (Ex.trans hf135 hE151) hE160) hG175 (by omega) (fun k hk => by have := hrg176 k hk; omega)), (by omega), (by first | omega | (simp only [List.length_append, List.length_cons, List.length_nil, List.length_set, toS_length]; omega)), (okE.append hok138 ((okL.mk (Nat.le_of_ble_eq_true rfl) (okE.cons ho149 okE.nil))).2), (by first | omega | assumption | (simp only [IntKind.wrap_i64] at *; omega)), (by first | omega | assumption | (simp only [IntKind.wrap_i64] at *; omega)), (loopW.cont hk123 hB177).symm.trans hI124⟩
   ·have hb145p := dec_f hb145
    refine CW.cond_f rfl hb145 (CW.region (sd rfl (yl_move rfl rfl (sd rfl (yl_sub rfl rfl rfl (sd rfl (yl_assign rfl rfl (SeqR.done (tn (CW.region (sd rfl (yl_move rfl rfl ?_))))))))))))
    refine sd rfl (yl_loadN (cs := [.string (bs (p_t.Name)), .slice A1 p_t.Cols.length c1, .slice A2 p_t.Idxs.length c2]) Tryz.ty95 rfl rfl (hf131.cells (n := 3) rfl) rfl (sd rfl (yl_move rfl rfl (sd rfl (yl_move rfl rfl (sd rfl (yl_call Tryz.en106 rfl (opvs_cons rfl (opvs_cons rfl (opvs_cons rfl opvs_nil))) (Cal.mono (c_i_Table_withStage p_t p_name (IntKind.wrap .i64 (x102 - 1)) (RdS.up hf132 good_Str) (RdS.up hf133 good_Idx) o3 o4 (by first | omega | assumption | (simp only [IntKind.wrap_i64] at *; omega))) ?_))))))))
    rintro v195 w191 ⟨A192, c192, lo192, hi192, A193, c193, lo193, hi193, rfl, h192, h193, ho194, hrn197, hrn198, hrn199, hE196⟩
    have hE196z := Ex.size hE196
    refine sd rfl (yl_buildSlice (cs := [.string (bs ((i_Table_withStage p_t p_name (IntKind.wrap .i64 (x102 - 1))).Name)), .slice A192 (((i_Table_withStage p_t p_name (IntKind.wrap .i64 (x102 - 1))).Cols).length) c192, .slice A193 (((i_Table_withStage p_t p_name (IntKind.wrap .i64 (x102 - 1))).Idxs).length) c193]) Tryz.un37 Tryz.ty95 (by decide) rfl (opvs_cons rfl opvs_nil) (by kernel_rfl) ?_)
    intro b200 w201 hs202 hz203 hB204 hE205
    have hO206 : OwnL w201 w122.heap.size (b200 + 1) 95 3 R_Table (some ⟨b200, 0, none⟩) 1 1 ([(i_Table_withStage p_t p_name (IntKind.wrap .i64 (x102 - 1)))] : List DTable) := OwnL.of_box (S := Iv w122.heap.size b200) hB204 (by omega) (Nat.lt_succ_self _) (EncL.cons (c := [.string (bs ((i_Table_withStage p_t p_name (IntKind.wrap .i64 (x102 - 1))).Name)), .slice A192 (((i_Table_withStage p_t p_name (IntKind.wrap .i64 (x102 - 1))).Cols).length) c192, .slice A193 (((i_Table_withStage p_t p_name (IntKind.wrap .i64 (x102 - 1))).Idxs).length) c193]) rfl ⟨A192, c192, A193, c193, rfl, (RdS.ex good_Str (RdS.wide good_Str (OwnL.rd good_Str h192) (fun b hh hl => ⟨by first | exact Nat.zero_le _ | (have := hh.1; omega), by omega⟩)) hE205), (RdS.ex good_Idx (RdS.wide good_Idx (OwnL.rd good_Idx h193) (fun b hh hl => ⟨by first | exact Nat.zero_le _ | (have := hh.1; omega), by omega⟩)) hE205)⟩ EncL.nil) (Nat.le_of_ble_eq_true rfl) (fun h => Nat.lt_irrefl _ h.2) (fun _ h => ⟨h.1, Nat.lt_succ_of_lt h.2⟩)
    refine sd rfl (yl_appendL (S := (Iv u106 w201.heap.size)) (lo := w17.heap.size) (hi := u106) (xs := x103) (ys := ([(i_Table_withStage p_t p_name (IntKind.wrap .i64 (x102 - 1)))] : List DTable)) good_Table Tryz.un37 Tryz.ty95 rfl (Nat.le_of_ble_eq_true rfl) rfl rfl rfl (OwnL.ex good_Table (OwnL.ex good_Table hf134 hE196) hE205) (EncL.cons (c := [.string (bs ((i_Table_withStage p_t p_name (IntKind.wrap .i64 (x102 - 1))).Name)), .slice A192 (((i_Table_withStage p_t p_name (IntKind.wrap .i64 (x102 - 1))).Cols).length) c192, .slice A193 (((i_Table_withStage p_t p_name (IntKind.wrap .i64 (x102 - 1))).Idxs).length) c193]) rfl ⟨A192, c192, A193, c193, rfl, (RdS.wide good_Str (OwnL.rd good_Str (OwnL.ex good_Str h192 hE205)) (fun b hh hl => ⟨by have := hh.1; omega, hl⟩)), (RdS.wide good_Idx (OwnL.rd good_Idx (OwnL.ex good_Idx h193 hE205)) (fun b hh hl => ⟨by have := hh.1; omega, hl⟩))⟩ EncL.nil) (Or.inr ⟨_, _, rfl, rfl, hB204.cells (o := 0) (n := 3) rfl⟩) rfl (by first | omega | (simp only [List.length_append, List.length_cons, List.length_nil, List.length_take, List.length_drop, List.length_replicate, List.length_set, toS_length]; omega)) (by first | omega | (simp only [List.length_append, List.length_cons, List.length_nil, List.length_take, List.length_drop, List.length_replicate, List.length_set, toS_length]; omega)) (by omega) (by omega) (fun _ h _ => h.1) (by omega) ?_)
    intro A215 c216 w217 row218 hO219 hG220 hrg221
    have hG220z := hG220.size
    refine sd rfl (yl_assign rfl rfl (SeqR.done (bn (tn ?_))))
    have hB222 : B_i_Table_wayTo_0 p_t p_name p_stage (x102, x103) = .cont (IntKind.wrap .i64 (x102 - 1), (x103 ++ ([(i_Table_withStage p_t p_name (IntKind.wrap .i64 (x102 - 1)))] : List DTable))) := by simp only [B_i_Table_wayTo_0, hb141, hb145, cond_true, cond_false, loopE_done, loopE_ret]
    have hmu235 : ((p_stage - IntKind.wrap .i64 (x102 - 1)).toNat + (IntKind.wrap .i64 (x102 - 1) - p_stage).toNat) < ((p_stage - x102).toNat + (x102 - p_stage).toNat) := by first | omega | assumption | (simp only [IntKind.wrap_i64] at *; omega)
    exact ⟨m120 - 1, by omega, IntKind.wrap .i64 (x102 - 1), (x103 ++ ([(i_Table_withStage p_t p_name (IntKind.wrap .i64 (x102 - 1)))] : List DTable)), A215, c216, w217.heap.size, (by omega), (by omega), rfl, rfl, rfl, rfl, rfl, (Box.grown (Box.ex (Box.ex hf131 hE196) hE205) hG220 (fun k hk => by have := hrg221 k hk; omega)), (RdS.grown good_Str (RdS.ex good_Str (RdS.ex good_Str hf132 hE196) hE205) hG220 (fun k hk => by have := hrg221 k hk; simp only [Iv]; omega)), (RdS.grown good_Idx (RdS.ex good_Idx (RdS.ex good_Idx hf133 hE196) hE205) hG220 (fun k hk => by have := hrg221 k hk; simp only [Iv]; omega)), hO219, (Below.grown (Ex.trans (Ex.trans hf135 hE196) hE205) hG220 (by omega) (fun k hk => by have := hrg221 k hk; omega)), (by omega), (by first | omega | (simp only [List.length_append, List.length_cons, List.length_nil, List.length_set, toS_length]; omega)), (okE.append hok138 ((okL.mk (Nat.le_of_ble_eq_true rfl) (okE.cons ho194 okE.nil))).2), (by first | omega | assumption | (simp only [IntKind.wrap_i64] at *; omega)), (by first | omega | assumption | (simp only [IntKind.wrap_i64] at *; omega)), (loopW.cont hk123 hB222).symm.trans hI124⟩
set_option maxRecDepth 100000 in
set_option maxHeartbeats 2000000 in
theorem c_i_Shift_stageOf {A1 : Option Addr} {c1 : Nat} {A2 : Option Addr} {c2 : Nat} {A3 : Option Addr} {c3 : Nat} {A5 : Option Addr} {c5 : Nat} {A6 : Option Addr} {c6 : Nat} {w : World} (p_c : DShift) (p_t : DTable) (h1 : RdS w (Iv 0 w.heap.size) R_Table 3 A1 p_c.Ways.length c1 p_c.Ways) (h2 : RdS w (Iv 0 w.heap.size) (RF e_Int) 1 A2 p_c.At.length c2 p_c.At) (h3 : RdS w (Iv 0 w.heap.size) (RF e_Write) 3 A3 p_c.Store.length c3 p_c.Store) (h5 : RdS w (Iv 0 w.heap.size) (RF e_Str) 1 A5 p_t.Cols.length c5 p_t.Cols) (h6 : RdS w (Iv 0 w.heap.size) (RF e_Idx) 3 A6 p_t.Idxs.length c6 p_t.Idxs) (o4 : ok_Shift p_c) (o7 : ok_Table p_t) (pre0 : (0 ≤ i_Table_findIdx p_t p_c.Name ∧ i_Table_findIdx p_t p_c.Name < (p_t.Idxs.length : Int))) : Cal Tryz.prog 72 #[.agg #[.string (bs (p_c.Name)), .slice A1 p_c.Ways.length c1, .slice A2 p_c.At.length c2, .slice A3 p_c.Store.length c3], .agg #[.string (bs (p_t.Name)), .slice A5 p_t.Cols.length c5, .slice A6 p_t.Idxs.length c6]] w fun v w' => v = .int .i64 ((i_Shift_stageOf p_c p_t)) ∧ Ex w w' := by
 have hol8 : p_c.Name.length ≤ 1073741824 := o4.1
 have hol9 := o4.2.1.1
 have hol10 := o4.2.2.1.1
 have hol11 := o4.2.2.2.1
 have hol12 : p_t.Name.length ≤ 1073741824 := o7.1
 have hol13 := o7.2.1.1
 have hol14 := o7.2.2.1
 refine Cal.of (vs := [.agg #[.string (bs (p_c.Name)), .slice A1 p_c.Ways.length c1, .slice A2 p_c.At.length c2, .slice A3 p_c.Store.length c3], .agg #[.string (bs (p_t.Name)), .slice A5 p_t.Cols.length c5, .slice A6 p_t.Idxs.length c6]]) Tryz.func72 rfl Tryz.ntmps72 rfl (CW.seq (CW.region (sd rfl (yl_box (cs := [.string (bs (p_c.Name)), .slice A1 p_c.Ways.length c1, .slice A2 p_c.At.length c2, .slice A3 p_c.Store.length c3]) rfl rfl rfl ?_))))
 intro b15 w16 hs17 hz18 hB19 hE20
 refine sd rfl (yl_box (cs := [.string (bs (p_t.Name)), .slice A5 p_t.Cols.length c5, .slice A6 p_t.Idxs.length c6]) rfl rfl rfl ?_)
 intro b21 w22 hs23 hz24 hB25 hE26
 refine sd rfl (yl_assign rfl rfl (SeqR.done (tn (CW.seq (CW.region (sd rfl (yl_loadN (cs := [.string (bs (p_t.Name)), .slice A5 p_t.Cols.length c5, .slice A6 p_t.Idxs.length c6]) Tryz.ty95 rfl rfl (hB25.cells (n := 3) rfl) rfl (sd rfl (yl_fieldAddr Tryz.fd40_0 rfl rfl (sd rfl (yl_load1 Tryz.ty9 rfl rfl (((Box.ex hB19 hE26).cell 0).trans rfl) (sd rfl (yl_call Tryz.en104 rfl (opvs_cons rfl (opvs_cons rfl opvs_nil)) (Cal.mono (c_i_Table_idx p_t p_c.Name (RdS.up (RdS.ex good_Str (RdS.ex good_Str h5 hE20) hE26) good_Str) (RdS.up (RdS.ex good_Idx (RdS.ex good_Idx h6 hE20) hE26) good_Idx) o7 o4.1 (by first | omega | assumption | (simp only [IntKind.wrap_i64] at *; omega))) ?_))))))))))))))
 rintro v34 w32 ⟨rfl, ho33, hE35⟩
 have hE35z := Ex.size hE35
 refine sd rfl (yl_field1 Tryz.fd137_2 rfl rfl rfl (sd rfl (yl_assign rfl rfl (SeqR.done (tn (CW.ret (rr rfl (.cons rfl .nil) ?_)))))))
 have hM36 : (i_Shift_stageOf p_c p_t) = ((i_Table_idx p_t p_c.Name).Stage) := by simp only [i_Shift_stageOf, cond_true, cond_false, loopE_done, loopE_ret]
 rw [hM36]
 exact ⟨rfl, (Ex.trans (Ex.trans (Ex.trans (Ex.refl w) hE20) hE26) hE35)⟩
set_option maxRecDepth 100000 in
set_option maxHeartbeats 2000000 in
theorem c_g_slices_Equal_string {A1 : Option Addr} {c1 : Nat} {A3 : Option Addr} {c3 : Nat} {w : World} (p_s1 : List Str) (p_s2 : List Str) (h1 : RdS w (Iv 0 w.heap.size) (RF e_Str) 1 A1 p_s1.length c1 p_s1) (h3 : RdS w (Iv 0 w.heap.size) (RF e_Str) 1 A3 p_s2.length c3 p_s2) (o2 : (okL okS) p_s1) (o4 : (okL okS) p_s2) : Cal Tryz.prog 107 #[.slice A1 p_s1.length c1, .slice A3 p_s2.length c3] w fun v w' => v = .bool ((g_slices_Equal_string p_s1 p_s2)) ∧ Ex w w' := by
 have hol5 := o2.1
 have hol6 := o4.1
 refine Cal.of (vs := [.slice A1 p_s1.length c1, .slice A3 p_s2.length c3]) Tryz.func107 rfl Tryz.ntmps107 rfl (CW.seq (CW.region (sd rfl (yl_assign rfl rfl (SeqR.done (tn (CW.seq (CW.seq (CW.region ?_)))))))))
 refine sd rfl (yl_move rfl rfl (sd rfl (yl_len Tryz.un27 rfl rfl (sd rfl (yl_move rfl rfl (sd rfl (yl_len Tryz.un27 rfl rfl (sd rfl (yl_neq rfl rfl rfl (SeqR.done (tn (bcase (decide ((p_s1.length : Int) = (p_s2.length : Int))) (fun hb7 => ?_) (fun hb7 => ?_)))))))))))))
 ·have hb7p := dec_t hb7
  refine CW.cond_f rfl (not_t hb7) (CW.skip (tn (CW.seq (CW.seq (CW.region (sd rfl (yl_move rfl rfl (sd rfl (yl_len Tryz.un27 rfl rfl (sd rfl (yl_move rfl rfl ?_)))))))))))
  refine SeqR.done (tn (CW.block (CW.loop (fun m9 L10 w11 => ∃ (k8 : Nat), m9 = p_s1.length - k8 ∧ k8 ≤ p_s1.length ∧ w.heap.size ≤ w11.heap.size ∧ lkp L10 0 = some (.slice A1 p_s1.length c1) ∧ lkp L10 1 = some (.slice A3 p_s2.length c3) ∧ lkp L10 12 = some (.int .i64 ((p_s1.length : Int))) ∧ lkp L10 13 = some (.int .i64 ((k8 : Int))) ∧ RdS w11 (Iv 0 w.heap.size) (RF e_Str) 1 A1 p_s1.length c1 p_s1 ∧ RdS w11 (Iv 0 w.heap.size) (RF e_Str) 1 A3 p_s2.length c3 p_s2 ∧ Ex w w11 ∧ loopM (B_g_slices_Equal_string_0 p_s1 p_s2) (p_s1.length - k8) k8 () = loopM (B_g_slices_Equal_string_0 p_s1 p_s2) (p_s1.length - 0) 0 ()) (p_s1.length - 0) ?_ ?_)))
  ·exact ⟨0, rfl, (by omega), Nat.le_refl _, rfl, rfl, rfl, rfl, h1, h3, (Ex.refl w), rfl⟩
  ·rintro m12 L13 w14 ⟨k8, rfl, hk15, hsz17, hl18, hl19, hl20, hl21, hf22, hf23, hf24, hI16⟩
   refine CW.sub (Sub.cons hl18 (Sub.cons hl19 (Sub.cons hl20 (Sub.cons hl21 (Sub.nil _))))) ?_
   have hf24z := Ex.size hf24
   have hbg25 := RdS.big hf22
   rcases Nat.lt_or_ge k8 p_s1.length with hlt26 | hlt26
   ·refine CW.seq (CW.region (sd rfl (yl_lss rfl rfl rfl (SeqR.done (tn (CW.seq (CW.cond_t rfl (lt_t hlt26) (CW.skip (tn ?_)))))))))
    refine CW.seq (CW.block (CW.seq (CW.region (sd rfl (yl_move rfl rfl (sd rfl (yl_assign rfl rfl (SeqR.done (tn (CW.seq ?_))))))))))
    obtain ⟨eb27, eo27, ec27, eA27, eS27, ebl27, el27, eR27, eC27⟩ := RdS.atD hf22 d_Str (i := k8) (by first | omega | assumption)
    obtain rfl := eR27
    have eC27 : Cells w14 eb27 (eo27 + k8 * 1) [.string (bs ((p_s1.getD k8 d_Str)))] := eC27
    obtain ⟨eb28, eo28, ec28, eA28, eS28, ebl28, el28, eR28, eC28⟩ := RdS.atD hf23 d_Str (i := k8) (by first | omega | assumption)
    obtain rfl := eR28
    have eC28 : Cells w14 eb28 (eo28 + k8 * 1) [.string (bs ((p_s2.getD k8 d_Str)))] := eC28
    refine CW.drawsI 9 (vgetI [DetI (.slice A1 p_s1.length c1), DetI (.int .i64 ((k8 : Int))), DetI (.pointer (some ⟨eb27, eo27 + k8 * 1, none⟩)), DetI (.string (bs ((p_s1.getD k8 d_Str)))), DetI (.slice A3 p_s2.length c3), DetI (.int .i64 ((k8 : Int))), DetI (.pointer (some ⟨eb28, eo28 + k8 * 1, none⟩)), DetI (.string (bs ((p_s2.getD k8 d_Str)))), DetI (.bool (!((p_s1.getD k8 d_Str) == (p_s2.getD k8 d_Str))))]) Tryz.follows rfl rfl rfl rfl rfl rfl (vgetI_stable ⟨StableI.det _, StableI.det _, StableI.det _, StableI.det _, StableI.det _, StableI.det _, StableI.det _, StableI.det _, StableI.det _, trivial⟩) ⟨?_, ?_, ?_, ?_, ?_, ?_, ?_, ?_, ?_, trivial⟩ ?_
    ·exact fun _ _ h => os rfl ((yl_move rfl (h.old 0 _ rfl rfl) kI))
    ·exact fun _ _ h => os rfl ((yl_move rfl (h.old 5 _ rfl rfl) kI))
    ·intro L39 w40 hi41
     have hE42 := hi41.ex
     have hE42z := Ex.size hE42
     exact os rfl ((yl_indexAddrN Tryz.un27 Tryz.ty9 rfl (hi41.dt 0 16 rfl rfl rfl) (hi41.dt 1 17 rfl rfl rfl) eA27 (by first | omega | assumption | (simp only [IntKind.wrap_i64] at *; omega)) kI))
    ·exact fun _ _ h => os rfl ((yl_load1 Tryz.ty9 rfl (h.dt 2 18 rfl rfl rfl) ((Cells.ex eC27 h.ex) 0 _ rfl) kI))
    ·exact fun _ _ h => os rfl ((yl_move rfl (h.old 1 _ rfl rfl) kI))
    ·exact fun _ _ h => os rfl ((yl_move rfl (h.old 5 _ rfl rfl) kI))
    ·intro L61 w62 hi63
     have hE64 := hi63.ex
     have hE64z := Ex.size hE64
     exact os rfl ((yl_indexAddrN Tryz.un27 Tryz.ty9 rfl (hi63.dt 4 20 rfl rfl rfl) (hi63.dt 5 21 rfl rfl rfl) eA28 (by first | omega | assumption | (simp only [IntKind.wrap_i64] at *; omega)) kI))
    ·exact fun _ _ h => os rfl ((yl_load1 Tryz.ty9 rfl (h.dt 6 22 rfl rfl rfl) ((Cells.ex eC28 h.ex) 0 _ rfl) kI))
    ·exact fun _ _ h => os rfl ((yl_sneq (a := (p_s1.getD k8 d_Str)) (b := (p_s2.getD k8 d_Str)) rfl (h.dt 3 19 rfl rfl rfl) (h.dt 7 23 rfl rfl rfl) kI))
    ·intro fl82 fh83 L79 w80 hp81
     have hE84 := hp81.ex
     have hE84z := Ex.size hE84
     refine SeqR.done (tn (CW.sub (Sub.cons (d := 0) (hp81.old 0 _ rfl rfl) (Sub.cons (d := 1) (hp81.old 1 _ rfl rfl) (Sub.cons (d := 12) (hp81.old 12 _ rfl rfl) (Sub.cons (d := 13) (hp81.old 13 _ rfl rfl) (Sub.cons (d := 24) (hp81.nt 8 24 rfl rfl rfl) (Sub.nil _)))))) (bcase ((p_s1.getD k8 d_Str) == (p_s2.getD k8 d_Str)) (fun hb90 => ?_) (fun hb90 => ?_))))
     ·refine CW.cond_f rfl (not_t hb90) (CW.skip (bn (tn (CW.region (sd rfl (yl_inc rfl rfl rfl (by omega) (sd rfl (yl_move rfl rfl (SeqR.done (tn ?_))))))))))
      have hB91 : B_g_slices_Equal_string_0 p_s1 p_s2 k8 () = .cont () := by simp only [B_g_slices_Equal_string_0, hb7, hb90, cond_true, cond_false, loopE_done, loopE_ret]
      exact ⟨p_s1.length - (k8 + 1), by omega, k8 + 1, rfl, hlt26, (by omega), rfl, rfl, rfl, rfl, (RdS.ex good_Str hf22 hE84), (RdS.ex good_Str hf23 hE84), (Ex.trans hf24 hE84), (loopM.cont hlt26 hB91).symm.trans hI16⟩
     ·refine CW.cond_t rfl (not_f hb90) (CW.seq (CW.region (sd rfl (yl_assign rfl rfl (SeqR.done (tn (CW.ret (br (tr ?_)))))))))
      refine tr ?_
      have hB96 : B_g_slices_Equal_string_0 p_s1 p_s2 k8 () = .ret false := by simp only [B_g_slices_Equal_string_0, hb7, hb90, cond_true, cond_false, loopE_done, loopE_ret]
      have hL95 : loopM (B_g_slices_Equal_string_0 p_s1 p_s2) (p_s1.length - 0) 0 () = .ret false := hI16.symm.trans (loopM.ret hlt26 hB96)
      refine br (tr (rr rfl (.cons rfl .nil) ?_))
      have hM97 : (g_slices_Equal_string p_s1 p_s2) = (false) := by simp only [g_slices_Equal_string, hb7, hb90, hL95, cond_true, cond_false, loopE_done, loopE_ret]
      rw [hM97]
      exact ⟨rfl, (Ex.trans hf24 hE84)⟩
   ·refine CW.seq (CW.region (sd rfl (yl_lss rfl rfl rfl (SeqR.done (tn (CW.seq (CW.cond_f rfl (lt_f hlt26) (CW.exit (tx ?_)))))))))
    refine tx ?_
    have hL99 : loopM (B_g_slices_Equal_string_0 p_s1 p_s2) (p_s1.length - 0) 0 () = .done () := hI16.symm.trans (loopM.stop hlt26)
    refine bx (tn (CW.seq (CW.region (sd rfl (yl_assign rfl rfl (SeqR.done (tn (CW.ret (rr rfl (.cons rfl .nil) ?_)))))))))
    have hM100 : (g_slices_Equal_string p_s1 p_s2) = (true) := by simp only [g_slices_Equal_string, hb7, hL99, cond_true, cond_false, loopE_done, loopE_ret]
    rw [hM100]
    exact ⟨rfl, hf24⟩
 ·have hb7p := dec_f hb7
  refine CW.cond_t rfl (not_f hb7) (CW.seq (CW.region (sd rfl (yl_assign rfl rfl (SeqR.done (tn (CW.ret (tr (rr rfl (.cons rfl .nil) ?_)))))))))
  have hM101 : (g_slices_Equal_string p_s1 p_s2) = (false) := by simp only [g_slices_Equal_string, hb7, cond_true, cond_false, loopE_done, loopE_ret]
  rw [hM101]
  exact ⟨rfl, (Ex.refl w)⟩
set_option maxRecDepth 100000 in
set_option maxHeartbeats 2000000 in
theorem c_g_slices_Equal_Idx {A1 : Option Addr} {c1 : Nat} {A3 : Option Addr} {c3 : Nat} {w : World} (p_s1 : List DIdx) (p_s2 : List DIdx) (h1 : RdS w (Iv 0 w.heap.size) (RF e_Idx) 3 A1 p_s1.length c1 p_s1) (h3 : RdS w (Iv 0 w.heap.size) (RF e_Idx) 3 A3 p_s2.length c3 p_s2) (o2 : (okL ok_Idx) p_s1) (o4 : (okL ok_Idx) p_s2) : Cal Tryz.prog 108 #[.slice A1 p_s1.length c1, .slice A3 p_s2.length c3] w fun v w' => v = .bool ((g_slices_Equal_Idx p_s1 p_s2)) ∧ Ex w w' := by
 have hol5 := o2.1
 have hol6 := o4.1
 refine Cal.of (vs := [.slice A1 p_s1.length c1, .slice A3 p_s2.length c3]) Tryz.func108 rfl Tryz.ntmps108 rfl (CW.seq (CW.region (sd rfl (yl_assign rfl rfl (SeqR.done (tn (CW.seq (CW.seq (CW.region ?_)))))))))
 refine sd rfl (yl_move rfl rfl (sd rfl (yl_len Tryz.un93 rfl rfl (sd rfl (yl_move rfl rfl (sd rfl (yl_len Tryz.un93 rfl rfl (sd rfl (yl_neq rfl rfl rfl (SeqR.done (tn (bcase (decide ((p_s1.length : Int) = (p_s2.length : Int))) (fun hb7 => ?_) (fun hb7 => ?_)))))))))))))
 ·have hb7p := dec_t hb7
  refine CW.cond_f rfl (not_t hb7) (CW.skip (tn (CW.seq (CW.seq (CW.region (sd rfl (yl_move rfl rfl (sd rfl (yl_len Tryz.un93 rfl rfl (sd rfl (yl_move rfl rfl ?_)))))))))))
  refine SeqR.done (tn (CW.block (CW.loop (fun m9 L10 w11 => ∃ (k8 : Nat), m9 = p_s1.length - k8 ∧ k8 ≤ p_s1.length ∧ w.heap.size ≤ w11.heap.size ∧ lkp L10 0 = some (.slice A1 p_s1.length c1) ∧ lkp L10 1 = some (.slice A3 p_s2.length c3) ∧ lkp L10 12 = some (.int .i64 ((p_s1.length : Int))) ∧ lkp L10 13 = some (.int .i64 ((k8 : Int))) ∧ RdS w11 (Iv 0 w.heap.size) (RF e_Idx) 3 A1 p_s1.length c1 p_s1 ∧ RdS w11 (Iv 0 w.heap.size) (RF e_Idx) 3 A3 p_s2.length c3 p_s2 ∧ Ex w w11 ∧ loopM (B_g_slices_Equal_Idx_0 p_s1 p_s2) (p_s1.length - k8) k8 () = loopM (B_g_slices_Equal_Idx_0 p_s1 p_s2) (p_s1.length - 0) 0 ()) (p_s1.length - 0) ?_ ?_)))
  ·exact ⟨0, rfl, (by omega), Nat.le_refl _, rfl, rfl, rfl, rfl, h1, h3, (Ex.refl w), rfl⟩
  ·rintro m12 L13 w14 ⟨k8, rfl, hk15, hsz17, hl18, hl19, hl20, hl21, hf22, hf23, hf24, hI16⟩
   refine CW.sub (Sub.cons hl18 (Sub.cons hl19 (Sub.cons hl20 (Sub.cons hl21 (Sub.nil _))))) ?_
   have hf24z := Ex.size hf24
   have hbg25 := RdS.big hf22
   rcases Nat.lt_or_ge k8 p_s1.length with hlt26 | hlt26
   ·refine CW.seq (CW.region (sd rfl (yl_lss rfl rfl rfl (SeqR.done (tn (CW.seq (CW.cond_t rfl (lt_t hlt26) (CW.skip (tn ?_)))))))))
    refine CW.seq (CW.block (CW.seq (CW.region (sd rfl (yl_move rfl rfl (sd rfl (yl_assign rfl rfl (SeqR.done (tn (CW.seq ?_))))))))))
    obtain ⟨eb27, eo27, ec27, eA27, eS27, ebl27, el27, eR27, eC27⟩ := RdS.atD hf22 d_Idx (i := k8) (by first | omega | assumption)
    obtain rfl := eR27
    have eC27 : Cells w14 eb27 (eo27 + k8 * 3) [.string (bs ((p_s1.getD k8 d_Idx).Name)), .int .i64 ((p_s1.getD k8 d_Idx).Col), .int .i64 ((p_s1.getD k8 d_Idx).Stage)] := eC27
    obtain ⟨eb28, eo28, ec28, eA28, eS28, ebl28, el28, eR28, eC28⟩ := RdS.atD hf23 d_Idx (i := k8) (by first | omega | assumption)
    obtain rfl := eR28
    have eC28 : Cells w14 eb28 (eo28 + k8 * 3) [.string (bs ((p_s2.getD k8 d_Idx).Name)), .int .i64 ((p_s2.getD k8 d_Idx).Col), .int .i64 ((p_s2.getD k8 d_Idx).Stage)] := eC28
    refine CW.drawsI 9 (vgetI [DetI (.slice A1 p_s1.length c1), DetI (.int .i64 ((k8 : Int))), DetI (.pointer (some ⟨eb27, eo27 + k8 * 3, none⟩)), DetI (.agg #[.string (bs ((p_s1.getD k8 d_Idx).Name)), .int .i64 ((p_s1.getD k8 d_Idx).Col), .int .i64 ((p_s1.getD k8 d_Idx).Stage)]), DetI (.slice A3 p_s2.length c3), DetI (.int .i64 ((k8 : Int))), DetI (.pointer (some ⟨eb28, eo28 + k8 * 3, none⟩)), DetI (.agg #[.string (bs ((p_s2.getD k8 d_Idx).Name)), .int .i64 ((p_s2.getD k8 d_Idx).Col), .int .i64 ((p_s2.getD k8 d_Idx).Stage)]), DetI (.bool (!((((p_s1.getD k8 d_Idx).Name) == ((p_s2.getD k8 d_Idx).Name)) && ((decide (((p_s1.getD k8 d_Idx).Col) = ((p_s2.getD k8 d_Idx).Col))) && (decide (((p_s1.getD k8 d_Idx).Stage) = ((p_s2.getD k8 d_Idx).Stage)))))))]) Tryz.follows rfl rfl rfl rfl rfl rfl (vgetI_stable ⟨StableI.det _, StableI.det _, StableI.det _, StableI.det _, StableI.det _, StableI.det _, StableI.det _, StableI.det _, StableI.det _, trivial⟩) ⟨?_, ?_, ?_, ?_, ?_, ?_, ?_, ?_, ?_, trivial⟩ ?_
    ·exact fun _ _ h => os rfl ((yl_move rfl (h.old 0 _ rfl rfl) kI))
    ·exact fun _ _ h => os rfl ((yl_move rfl (h.old 5 _ rfl rfl) kI))
    ·intro L39 w40 hi41
     have hE42 := hi41.ex
     have hE42z := Ex.size hE42
     exact os rfl ((yl_indexAddrN Tryz.un93 Tryz.ty137 rfl (hi41.dt 0 16 rfl rfl rfl) (hi41.dt 1 17 rfl rfl rfl) eA27 (by first | omega | assumption | (simp only [IntKind.wrap_i64] at *; omega)) kI))
    ·exact fun _ _ h => os rfl ((yl_loadN (cs := [.string (bs ((p_s1.getD k8 d_Idx).Name)), .int .i64 ((p_s1.getD k8 d_Idx).Col), .int .i64 ((p_s1.getD k8 d_Idx).Stage)]) Tryz.ty137 rfl (h.dt 2 18 rfl rfl rfl) (Cells.ex eC27 h.ex) rfl kI))
    ·exact fun _ _ h => os rfl ((yl_move rfl (h.old 1 _ rfl rfl) kI))
    ·exact fun _ _ h => os rfl ((yl_move rfl (h.old 5 _ rfl rfl) kI))
    ·intro L61 w62 hi63
     have hE64 := hi63.ex
     have hE64z := Ex.size hE64
     exact os rfl ((yl_indexAddrN Tryz.un93 Tryz.ty137 rfl (hi63.dt 4 20 rfl rfl rfl) (hi63.dt 5 21 rfl rfl rfl) eA28 (by first | omega | assumption | (simp only [IntKind.wrap_i64] at *; omega)) kI))
    ·exact fun _ _ h => os rfl ((yl_loadN (cs := [.string (bs ((p_s2.getD k8 d_Idx).Name)), .int .i64 ((p_s2.getD k8 d_Idx).Col), .int .i64 ((p_s2.getD k8 d_Idx).Stage)]) Tryz.ty137 rfl (h.dt 6 22 rfl rfl rfl) (Cells.ex eC28 h.ex) rfl kI))
    ·exact fun _ _ h => os rfl ((yl_aneq (xs := [.string (bs ((p_s1.getD k8 d_Idx).Name)), .int .i64 ((p_s1.getD k8 d_Idx).Col), .int .i64 ((p_s1.getD k8 d_Idx).Stage)]) (ys := [.string (bs ((p_s2.getD k8 d_Idx).Name)), .int .i64 ((p_s2.getD k8 d_Idx).Col), .int .i64 ((p_s2.getD k8 d_Idx).Stage)]) Tryz.ae137 rfl (h.dt 3 19 rfl rfl rfl) (h.dt 7 23 rfl rfl rfl) kI))
    ·intro fl82 fh83 L79 w80 hp81
     have hE84 := hp81.ex
     have hE84z := Ex.size hE84
     refine SeqR.done (tn (CW.sub (Sub.cons (d := 0) (hp81.old 0 _ rfl rfl) (Sub.cons (d := 1) (hp81.old 1 _ rfl rfl) (Sub.cons (d := 12) (hp81.old 12 _ rfl rfl) (Sub.cons (d := 13) (hp81.old 13 _ rfl rfl) (Sub.cons (d := 24) (hp81.nt 8 24 rfl rfl rfl) (Sub.nil _)))))) (bcase ((((p_s1.getD k8 d_Idx).Name) == ((p_s2.getD k8 d_Idx).Name)) && ((decide (((p_s1.getD k8 d_Idx).Col) = ((p_s2.getD k8 d_Idx).Col))) && (decide (((p_s1.getD k8 d_Idx).Stage) = ((p_s2.getD k8 d_Idx).Stage))))) (fun hb90 => ?_) (fun hb90 => ?_))))
     ·refine CW.cond_f rfl (not_t hb90) (CW.skip (bn (tn (CW.region (sd rfl (yl_inc rfl rfl rfl (by omega) (sd rfl (yl_move rfl rfl (SeqR.done (tn ?_))))))))))
      have hB91 : B_g_slices_Equal_Idx_0 p_s1 p_s2 k8 () = .cont () := by simp only [B_g_slices_Equal_Idx_0, hb7, hb90, cond_true, cond_false, loopE_done, loopE_ret]
      exact ⟨p_s1.length - (k8 + 1), by omega, k8 + 1, rfl, hlt26, (by omega), rfl, rfl, rfl, rfl, (RdS.ex good_Idx hf22 hE84), (RdS.ex good_Idx hf23 hE84), (Ex.trans hf24 hE84), (loopM.cont hlt26 hB91).symm.trans hI16⟩
     ·refine CW.cond_t rfl (not_f hb90) (CW.seq (CW.region (sd rfl (yl_assign rfl rfl (SeqR.done (tn (CW.ret (br (tr ?_)))))))))
      refine tr ?_
      have hB96 : B_g_slices_Equal_Idx_0 p_s1 p_s2 k8 () = .ret false := by simp only [B_g_slices_Equal_Idx_0, hb7, hb90, cond_true, cond_false, loopE_done, loopE_ret]
      have hL95 : loopM (B_g_slices_Equal_Idx_0 p_s1 p_s2) (p_s1.length - 0) 0 () = .ret false := hI16.symm.trans (loopM.ret hlt26 hB96)
      refine br (tr (rr rfl (.cons rfl .nil) ?_))
      have hM97 : (g_slices_Equal_Idx p_s1 p_s2) = (false) := by simp only [g_slices_Equal_Idx, hb7, hb90, hL95, cond_true, cond_false, loopE_done, loopE_ret]
      rw [hM97]
      exact ⟨rfl, (Ex.trans hf24 hE84)⟩
   ·refine CW.seq (CW.region (sd rfl (yl_lss rfl rfl rfl (SeqR.done (tn (CW.seq (CW.cond_f rfl (lt_f hlt26) (CW.exit (tx ?_)))))))))
    refine tx ?_
    have hL99 : loopM (B_g_slices_Equal_Idx_0 p_s1 p_s2) (p_s1.length - 0) 0 () = .done () := hI16.symm.trans (loopM.stop hlt26)
    refine bx (tn (CW.seq (CW.region (sd rfl (yl_assign rfl rfl (SeqR.done (tn (CW.ret (rr rfl (.cons rfl .nil) ?_)))))))))
    have hM100 : (g_slices_Equal_Idx p_s1 p_s2) = (true) := by simp only [g_slices_Equal_Idx, hb7, hL99, cond_true, cond_false, loopE_done, loopE_ret]
    rw [hM100]
    exact ⟨rfl, hf24⟩
 ·have hb7p := dec_f hb7
  refine CW.cond_t rfl (not_f hb7) (CW.seq (CW.region (sd rfl (yl_assign rfl rfl (SeqR.done (tn (CW.ret (tr (rr rfl (.cons rfl .nil) ?_)))))))))
  have hM101 : (g_slices_Equal_Idx p_s1 p_s2) = (false) := by simp only [g_slices_Equal_Idx, hb7, cond_true, cond_false, loopE_done, loopE_ret]
  rw [hM101]
  exact ⟨rfl, (Ex.refl w)⟩
set_option maxRecDepth 100000 in
set_option maxHeartbeats 2000000 in
theorem c_i_sameTable {A1 : Option Addr} {c1 : Nat} {A2 : Option Addr} {c2 : Nat} {A4 : Option Addr} {c4 : Nat} {A5 : Option Addr} {c5 : Nat} {w : World} (p_a : DTable) (p_b : DTable) (h1 : RdS w (Iv 0 w.heap.size) (RF e_Str) 1 A1 p_a.Cols.length c1 p_a.Cols) (h2 : RdS w (Iv 0 w.heap.size) (RF e_Idx) 3 A2 p_a.Idxs.length c2 p_a.Idxs) (h4 : RdS w (Iv 0 w.heap.size) (RF e_Str) 1 A4 p_b.Cols.length c4 p_b.Cols) (h5 : RdS w (Iv 0 w.heap.size) (RF e_Idx) 3 A5 p_b.Idxs.length c5 p_b.Idxs) (o3 : ok_Table p_a) (o6 : ok_Table p_b) : Cal Tryz.prog 73 #[.agg #[.string (bs (p_a.Name)), .slice A1 p_a.Cols.length c1, .slice A2 p_a.Idxs.length c2], .agg #[.string (bs (p_b.Name)), .slice A4 p_b.Cols.length c4, .slice A5 p_b.Idxs.length c5]] w fun v w' => v = .bool ((i_sameTable p_a p_b)) ∧ Ex w w' := by
 have hol7 : p_a.Name.length ≤ 1073741824 := o3.1
 have hol8 := o3.2.1.1
 have hol9 := o3.2.2.1
 have hol10 : p_b.Name.length ≤ 1073741824 := o6.1
 have hol11 := o6.2.1.1
 have hol12 := o6.2.2.1
 refine Cal.of (vs := [.agg #[.string (bs (p_a.Name)), .slice A1 p_a.Cols.length c1, .slice A2 p_a.Idxs.length c2], .agg #[.string (bs (p_b.Name)), .slice A4 p_b.Cols.length c4, .slice A5 p_b.Idxs.length c5]]) Tryz.func73 rfl Tryz.ntmps73 rfl (CW.seq (CW.region (sd rfl (yl_box (cs := [.string (bs (p_a.Name)), .slice A1 p_a.Cols.length c1, .slice A2 p_a.Idxs.length c2]) rfl rfl rfl ?_))))
 intro b13 w14 hs15 hz16 hB17 hE18
 refine sd rfl (yl_box (cs := [.string (bs (p_b.Name)), .slice A4 p_b.Cols.length c4, .slice A5 p_b.Idxs.length c5]) rfl rfl rfl ?_)
 intro b19 w20 hs21 hz22 hB23 hE24
 refine sd rfl (yl_assign rfl rfl (SeqR.done (tn (CW.seq (CW.region (sd rfl (yl_fieldAddr Tryz.fd95_0 rfl rfl ?_)))))))
 have q25 := Box.ex hB17 hE24
 refine sd rfl (yl_load1 Tryz.ty9 rfl rfl ((q25.cell 0).trans rfl) (sd rfl (yl_fieldAddr Tryz.fd95_0 rfl rfl (sd rfl (yl_load1 Tryz.ty9 rfl rfl ((hB23.cell 0).trans rfl) (sd rfl (yl_seql (a := p_a.Name) (b := p_b.Name) rfl rfl rfl (sd rfl (yl_move rfl rfl (bcase (p_a.Name == p_b.Name) (fun hb26 => ?_) (fun hb26 => ?_)))))))))))
 ·refine sy rfl rfl hb26 (yl_fieldAddr Tryz.fd95_1 rfl rfl (sy rfl rfl hb26 (yl_load1 Tryz.ty27 rfl rfl ((q25.cell 1).trans rfl) (sy rfl rfl hb26 (yl_fieldAddr Tryz.fd95_1 rfl rfl (sy rfl rfl hb26 (yl_load1 Tryz.ty27 rfl rfl ((hB23.cell 1).trans rfl) (sy rfl rfl hb26 (yl_call Tryz.en107 rfl (opvs_cons rfl (opvs_cons rfl opvs_nil)) (Cal.mono (c_g_slices_Equal_string p_a.Cols p_b.Cols (RdS.up (RdS.ex good_Str (RdS.ex good_Str h1 hE18) hE24) good_Str) (RdS.up (RdS.ex good_Str (RdS.ex good_Str h4 hE18) hE24) good_Str) o3.2.1 o6.2.1) ?_))))))))))
  rintro v32 w31 ⟨rfl, hE33⟩
  have hE33z := Ex.size hE33
  refine sd rfl (yl_pick_t rfl rfl hb26 rfl (sd rfl (yl_move rfl rfl (bcase (g_slices_Equal_string p_a.Cols p_b.Cols) (fun hb34 => ?_) (fun hb34 => ?_)))))
  ·refine sy rfl rfl hb34 (yl_fieldAddr Tryz.fd95_2 rfl rfl (sy rfl rfl hb34 (yl_load1 Tryz.ty93 rfl rfl (((Box.ex q25 hE33).cell 2).trans rfl) (sy rfl rfl hb34 (yl_fieldAddr Tryz.fd95_2 rfl rfl (sy rfl rfl hb34 (yl_load1 Tryz.ty93 rfl rfl (((Box.ex hB23 hE33).cell 2).trans rfl) (sy rfl rfl hb34 (yl_call Tryz.en108 rfl (opvs_cons rfl (opvs_cons rfl opvs_nil)) (Cal.mono (c_g_slices_Equal_Idx p_a.Idxs p_b.Idxs (RdS.up (RdS.ex good_Idx (RdS.ex good_Idx (RdS.ex good_Idx h2 hE18) hE24) hE33) good_Idx) (RdS.up (RdS.ex good_Idx (RdS.ex good_Idx (RdS.ex good_Idx h5 hE18) hE24) hE33) good_Idx) o3.2.2 o6.2.2) ?_))))))))))
   rintro v44 w43 ⟨rfl, hE45⟩
   have hE45z := Ex.size hE45
   refine sd rfl (yl_pick_t rfl rfl hb34 rfl (sd rfl (yl_assign rfl rfl (SeqR.done (tn (CW.ret (rr rfl (.cons rfl .nil) ?_)))))))
   have hM46 : (i_sameTable p_a p_b) = ((g_slices_Equal_Idx p_a.Idxs p_b.Idxs)) := by simp only [i_sameTable, hb26, hb34, cond_true, cond_false, loopE_done, loopE_ret]
   rw [hM46]
   exact ⟨rfl, (Ex.trans (Ex.trans (Ex.trans (Ex.trans (Ex.refl w) hE18) hE24) hE33) hE45)⟩
  ·refine sz rfl rfl hb34 (sz rfl rfl hb34 (sz rfl rfl hb34 (sz rfl rfl hb34 (sz rfl rfl hb34 (sd rfl (yl_pick_f rfl rfl hb34 rfl (sd rfl (yl_assign rfl rfl (SeqR.done (tn ?_))))))))))
   refine CW.ret (rr rfl (.cons rfl .nil) ?_)
   have hM51 : (i_sameTable p_a p_b) = (false) := by simp only [i_sameTable, hb26, hb34, cond_true, cond_false, loopE_done, loopE_ret]
   rw [hM51]
   exact ⟨rfl, (Ex.trans (Ex.trans (Ex.trans (Ex.refl w) hE18) hE24) hE33)⟩
 ·refine sz rfl rfl hb26 (sz rfl rfl hb26 (sz rfl rfl hb26 (sz rfl rfl hb26 (sz rfl rfl hb26 (sd rfl (yl_pick_f rfl rfl hb26 rfl (sd rfl (yl_move rfl rfl (sz rfl rfl rfl (sz rfl rfl rfl ?_))))))))))
  refine sz rfl rfl rfl (sz rfl rfl rfl (sz rfl rfl rfl (sd rfl (yl_pick_f rfl rfl rfl rfl (sd rfl (yl_assign rfl rfl (SeqR.done (tn (CW.ret (rr rfl (.cons rfl .nil) ?_))))))))))
  have hM55 : (i_sameTable p_a p_b) = (false) := by simp only [i_sameTable, hb26, cond_true, cond_false, loopE_done, loopE_ret]
  rw [hM55]
  exact ⟨rfl, (Ex.trans (Ex.trans (Ex.refl w) hE18) hE24)⟩
set_option maxRecDepth 100000 in
set_option maxHeartbeats 2000000 in
theorem c_i_GoodShift {A1 : Option Addr} {c1 : Nat} {A2 : Option Addr} {c2 : Nat} {A3 : Option Addr} {c3 : Nat} {w : World} (p_c : DShift) (h1 : RdS w (Iv 0 w.heap.size) R_Table 3 A1 p_c.Ways.length c1 p_c.Ways) (h2 : RdS w (Iv 0 w.heap.size) (RF e_Int) 1 A2 p_c.At.length c2 p_c.At) (h3 : RdS w (Iv 0 w.heap.size) (RF e_Write) 3 A3 p_c.Store.length c3 p_c.Store) (o4 : ok_Shift p_c) : Cal Tryz.prog 34 #[.agg #[.string (bs (p_c.Name)), .slice A1 p_c.Ways.length c1, .slice A2 p_c.At.length c2, .slice A3 p_c.Store.length c3]] w fun v w' => v = .bool ((i_GoodShift p_c)) ∧ Ex w w' := by
 have hol5 : p_c.Name.length ≤ 1073741824 := o4.1
 have hol6 := o4.2.1.1
 have hol7 := o4.2.2.1.1
 have hol8 := o4.2.2.2.1
 refine Cal.of (vs := [.agg #[.string (bs (p_c.Name)), .slice A1 p_c.Ways.length c1, .slice A2 p_c.At.length c2, .slice A3 p_c.Store.length c3]]) Tryz.func34 rfl Tryz.ntmps34 rfl (CW.seq (CW.region (sd rfl (yl_box (cs := [.string (bs (p_c.Name)), .slice A1 p_c.Ways.length c1, .slice A2 p_c.At.length c2, .slice A3 p_c.Store.length c3]) rfl rfl rfl ?_))))
 intro b9 w10 hs11 hz12 hB13 hE14
 refine sd rfl (yl_assign rfl rfl (SeqR.done (tn (CW.seq (CW.seq (CW.region (sd rfl (yl_fieldAddr Tryz.fd40_1 rfl rfl (sd rfl (yl_load1 Tryz.ty37 rfl rfl ((hB13.cell 1).trans rfl) (sd rfl (yl_len Tryz.un37 rfl rfl ?_))))))))))))
 refine sd rfl (yl_call Tryz.en63 rfl (opvs_cons rfl (opvs_cons rfl (opvs_cons rfl opvs_nil))) (Cal.mono (c_i_within (p_c.Ways.length : Int) 1 4) ?_))
 rintro v16 w15 ⟨rfl, hE17⟩
 have hE17z := Ex.size hE17
 refine sd rfl (yl_not rfl rfl (sd rfl (yl_move rfl rfl (bcase (i_within (p_c.Ways.length : Int) 1 4) (fun hb18 => ?_) (fun hb18 => ?_)))))
 ·have hb18p := f_within hb18
  refine sy rfl rfl (not_t hb18) (yl_fieldAddr Tryz.fd40_2 rfl rfl ?_)
  have q19 := Box.ex hB13 hE17
  refine sy rfl rfl (not_t hb18) (yl_load1 Tryz.ty23 rfl rfl ((q19.cell 2).trans rfl) (sy rfl rfl (not_t hb18) (yl_len Tryz.un23 rfl rfl (sy rfl rfl (not_t hb18) (yl_call Tryz.en63 rfl (opvs_cons rfl (opvs_cons rfl (opvs_cons rfl opvs_nil))) (Cal.mono (c_i_within (p_c.At.length : Int) 1 3) ?_))))))
  rintro v21 w20 ⟨rfl, hE22⟩
  have hE22z := Ex.size hE22
  refine sy rfl rfl (not_t hb18) (yl_not rfl rfl (sd rfl (yl_pick_f rfl rfl (not_t hb18) rfl (sd rfl (yl_move rfl rfl (bcase (i_within (p_c.At.length : Int) 1 3) (fun hb23 => ?_) (fun hb23 => ?_)))))))
  ·have hb23p := f_within hb23
   refine sy rfl rfl (not_t hb23) (yl_fieldAddr Tryz.fd40_3 rfl rfl ?_)
   have q24 := Box.ex q19 hE22
   refine sy rfl rfl (not_t hb23) (yl_load1 Tryz.ty38 rfl rfl ((q24.cell 3).trans rfl) ?_)
   have q27 := RdS.ex good_Write (RdS.ex good_Write (RdS.ex good_Write h3 hE14) hE17) hE22
   refine sy rfl rfl (not_t hb23) (yl_call Tryz.en64 rfl (opvs_cons rfl opvs_nil) (Cal.mono (c_i_isRows p_c.Store (RdS.up q27 good_Write) o4.2.2.2) ?_))
   rintro v29 w28 ⟨rfl, hE30⟩
   have hE30z := Ex.size hE30
   refine sy rfl rfl (not_t hb23) (yl_not rfl rfl (sd rfl (yl_pick_f rfl rfl (not_t hb23) rfl (SeqR.done (tn (bcase (i_isRows p_c.Store) (fun hb31 => ?_) (fun hb31 => ?_)))))))
   ·refine CW.cond_f rfl (not_t hb31) (CW.skip (tn (CW.seq (CW.seq (CW.region (sd rfl (yl_fieldAddr Tryz.fd40_1 rfl rfl ?_)))))))
    have q32 := Box.ex q24 hE30
    refine sd rfl (yl_load1 Tryz.ty37 rfl rfl ((q32.cell 1).trans rfl) (sd rfl (yl_makeFunc rfl (opvs_cons rfl opvs_nil) ?_)))
    have q36 := RdS.ex good_Table (RdS.ex good_Table (RdS.ex good_Table (RdS.ex good_Table h1 hE14) hE17) hE22) hE30
    have q40 := RdS.ex good_Int (RdS.ex good_Int (RdS.ex good_Int (RdS.ex good_Int h2 hE14) hE17) hE22) hE30
    have q41 := RdS.ex good_Write q27 hE30
    refine sd rfl (yl_call Tryz.en65 rfl (opvs_cons rfl (opvs_cons rfl opvs_nil)) (Cal.mono (c_g_slices_ContainsFunc_Table p_c.Ways (fun y0 => i_GoodShift_c1 y0 p_c) (RdS.up q36 good_Table) Tryz.en66 (fun _ y0 => fun hE hm0 hv0 hv1 ov0 => c_i_GoodShift_c1 y0 p_c hv0 hv1 (RdS.up (RdS.ex good_Table q36 hE) good_Table) (RdS.up (RdS.ex good_Int q40 hE) good_Int) (RdS.up (RdS.ex good_Write q41 hE) good_Write) (Box.ex q32 hE) ov0 o4) o4.2.1) ?_))
    rintro v43 w42 ⟨rfl, hE44⟩
    have hE44z := Ex.size hE44
    refine SeqR.done (tn (bcase (g_slices_ContainsFunc_Table p_c.Ways (fun y0 => i_GoodShift_c1 y0 p_c)) (fun hb45 => ?_) (fun hb45 => ?_)))
    ·refine CW.cond_t rfl hb45 (CW.seq (CW.region (sd rfl (yl_assign rfl rfl (SeqR.done (tn (CW.ret (tr (rr rfl (.cons rfl .nil) ?_)))))))))
     have hM46 : (i_GoodShift p_c) = (false) := by simp only [i_GoodShift, hb18, hb23, hb31, hb45, cond_true, cond_false, loopE_done, loopE_ret]
     rw [hM46]
     exact ⟨rfl, (Ex.trans (Ex.trans (Ex.trans (Ex.trans (Ex.trans (Ex.refl w) hE14) hE17) hE22) hE30) hE44)⟩
    ·have hb45p := gs_facts (by omega) hb45
     refine CW.cond_f rfl hb45 (CW.skip (tn (CW.seq (CW.seq (CW.region (sd rfl (yl_fieldAddr Tryz.fd40_2 rfl rfl ?_)))))))
     have q52 := Box.ex q32 hE44
     refine sd rfl (yl_load1 Tryz.ty23 rfl rfl ((q52.cell 2).trans rfl) (sd rfl (yl_makeFunc rfl (opvs_cons rfl opvs_nil) ?_)))
     have q53 := RdS.ex good_Int q40 hE44
     have q54 := RdS.ex good_Table q36 hE44
     have q55 := RdS.ex good_Write q41 hE44
     refine sd rfl (yl_call Tryz.en68 rfl (opvs_cons rfl (opvs_cons rfl opvs_nil)) (Cal.mono (c_g_slices_ContainsFunc_int p_c.At (fun y0 => i_GoodShift_c2 y0 p_c) (RdS.up q53 good_Int) Tryz.en69 (fun _ y0 => fun hE hm0 => c_i_GoodShift_c2 y0 p_c (RdS.up (RdS.ex good_Table q54 hE) good_Table) (RdS.up (RdS.ex good_Int q53 hE) good_Int) (RdS.up (RdS.ex good_Write q55 hE) good_Write) (Box.ex q52 hE) o4) o4.2.2.1) ?_))
     rintro v57 w56 ⟨rfl, hE58⟩
     have hE58z := Ex.size hE58
     refine SeqR.done (tn (bcase (g_slices_ContainsFunc_int p_c.At (fun y0 => i_GoodShift_c2 y0 p_c)) (fun hb59 => ?_) (fun hb59 => ?_)))
     ·refine CW.cond_t rfl hb59 (CW.seq (CW.region (sd rfl (yl_assign rfl rfl (SeqR.done (tn (CW.ret (tr (rr rfl (.cons rfl .nil) ?_)))))))))
      have hM60 : (i_GoodShift p_c) = (false) := by simp only [i_GoodShift, hb18, hb23, hb31, hb45, hb59, cond_true, cond_false, loopE_done, loopE_ret]
      rw [hM60]
      exact ⟨rfl, (Ex.trans (Ex.trans (Ex.trans (Ex.trans (Ex.trans (Ex.trans (Ex.refl w) hE14) hE17) hE22) hE30) hE44) hE58)⟩
     ·refine CW.cond_f rfl hb59 (CW.skip (tn (CW.seq ?_)))
      have q67 := Box.ex q52 hE58
      have q68 := RdS.ex good_Table q54 hE58
      obtain ⟨eb69, eo69, ec69, eA69, eS69, ebl69, el69, eR69, eC69⟩ := RdS.atD q68 d_Table (i := 0) (by first | omega | assumption)
      obtain ⟨A70, c70, A71, c71, rfl, h70, h71⟩ := eR69
      have eC69 : Cells w56 eb69 (eo69 + 0 * 3) [.string (bs ((p_c.Ways.getD 0 d_Table).Name)), .slice A70 (((p_c.Ways.getD 0 d_Table).Cols).length) c70, .slice A71 (((p_c.Ways.getD 0 d_Table).Idxs).length) c71] := eC69
      obtain ⟨eb72, eo72, ec72, eA72, eS72, ebl72, el72, eR72, eC72⟩ := RdS.atD q68 d_Table (i := (IntKind.wrap .i64 ((p_c.Ways.length : Int) - 1)).toNat) (by first | omega | assumption | (simp only [IntKind.wrap_i64] at *; omega))
      obtain ⟨A73, c73, A74, c74, rfl, h73, h74⟩ := eR72
      have eC72 : Cells w56 eb72 (eo72 + ((IntKind.wrap .i64 ((p_c.Ways.length : Int) - 1)).toNat) * 3) [.string (bs ((p_c.Ways.getD ((IntKind.wrap .i64 ((p_c.Ways.length : Int) - 1)).toNat) d_Table).Name)), .slice A73 (((p_c.Ways.getD ((IntKind.wrap .i64 ((p_c.Ways.length : Int) - 1)).toNat) d_Table).Cols).length) c73, .slice A74 (((p_c.Ways.getD ((IntKind.wrap .i64 ((p_c.Ways.length : Int) - 1)).toNat) d_Table).Idxs).length) c74] := eC72
      refine CW.drawsI 21 (vgetI [DetI (.pointer (some ⟨b9, 0 + 1, none⟩)), DetI (.slice A1 p_c.Ways.length c1), DetI (.pointer (some ⟨b9, 0 + 1, none⟩)), DetI (.slice A1 p_c.Ways.length c1), DetI (.pointer (some ⟨eb69, eo69 + 0 * 3, none⟩)), DetI (.agg #[.string (bs ((p_c.Ways.getD 0 d_Table).Name)), .slice A70 (((p_c.Ways.getD 0 d_Table).Cols).length) c70, .slice A71 (((p_c.Ways.getD 0 d_Table).Idxs).length) c71]), DetI (.pointer (some ⟨b9, 0 + 0, none⟩)), DetI (.string (bs (p_c.Name))), DetI (.agg #[.string (bs (p_c.Name)), .slice A1 p_c.Ways.length c1, .slice A2 p_c.At.length c2, .slice A3 p_c.Store.length c3]), DetI (.pointer (some ⟨b9, 0 + 1, none⟩)), DetI (.slice A1 p_c.Ways.length c1), DetI (.pointer (some ⟨b9, 0 + 1, none⟩)), DetI (.slice A1 p_c.Ways.length c1), DetI (.int .i64 ((p_c.Ways.length : Int))), DetI (.int .i64 (IntKind.wrap .i64 ((p_c.Ways.length : Int) - 1))), DetI (.pointer (some ⟨eb72, eo72 + ((IntKind.wrap .i64 ((p_c.Ways.length : Int) - 1)).toNat) * 3, none⟩)), DetI (.agg #[.string (bs ((p_c.Ways.getD ((IntKind.wrap .i64 ((p_c.Ways.length : Int) - 1)).toNat) d_Table).Name)), .slice A73 (((p_c.Ways.getD ((IntKind.wrap .i64 ((p_c.Ways.length : Int) - 1)).toNat) d_Table).Cols).length) c73, .slice A74 (((p_c.Ways.getD ((IntKind.wrap .i64 ((p_c.Ways.length : Int) - 1)).toNat) d_Table).Idxs).length) c74]), DetI (.int .i64 ((i_Shift_stageOf p_c (p_c.Ways.getD ((IntKind.wrap .i64 ((p_c.Ways.length : Int) - 1)).toNat) d_Table)))), fun lo hi v wq => ∃ A79 c79 lo79 hi79, v = .slice A79 ((i_Table_wayTo (p_c.Ways.getD 0 d_Table) p_c.Name (i_Shift_stageOf p_c (p_c.Ways.getD ((IntKind.wrap .i64 ((p_c.Ways.length : Int) - 1)).toNat) d_Table))).length) c79 ∧ OwnL wq lo79 hi79 95 3 R_Table A79 ((i_Table_wayTo (p_c.Ways.getD 0 d_Table) p_c.Name (i_Shift_stageOf p_c (p_c.Ways.getD ((IntKind.wrap .i64 ((p_c.Ways.length : Int) - 1)).toNat) d_Table))).length) c79 (i_Table_wayTo (p_c.Ways.getD 0 d_Table) p_c.Name (i_Shift_stageOf p_c (p_c.Ways.getD ((IntKind.wrap .i64 ((p_c.Ways.length : Int) - 1)).toNat) d_Table))) ∧ (okL ok_Table) (i_Table_wayTo (p_c.Ways.getD 0 d_Table) p_c.Name (i_Shift_stageOf p_c (p_c.Ways.getD ((IntKind.wrap .i64 ((p_c.Ways.length : Int) - 1)).toNat) d_Table))) ∧ (lo ≤ lo79 ∧ lo79 ≤ hi79 ∧ hi79 ≤ hi), DetI (.bool ((g_slices_EqualFunc_Table p_c.Ways (i_Table_wayTo (p_c.Ways.getD 0 d_Table) p_c.Name (i_Shift_stageOf p_c (p_c.Ways.getD ((IntKind.wrap .i64 ((p_c.Ways.length : Int) - 1)).toNat) d_Table))) (fun y0 y1 => i_sameTable y0 y1)))), DetI (.bool ((g_slices_EqualFunc_Table p_c.Ways (i_Table_wayTo (p_c.Ways.getD 0 d_Table) p_c.Name (i_Shift_stageOf p_c (p_c.Ways.getD ((IntKind.wrap .i64 ((p_c.Ways.length : Int) - 1)).toNat) d_Table))) (fun y0 y1 => i_sameTable y0 y1))))]) Tryz.follows rfl rfl rfl rfl rfl rfl (vgetI_stable ⟨StableI.det _, StableI.det _, StableI.det _, StableI.det _, StableI.det _, StableI.det _, StableI.det _, StableI.det _, StableI.det _, StableI.det _, StableI.det _, StableI.det _, StableI.det _, StableI.det _, StableI.det _, StableI.det _, StableI.det _, StableI.det _, (fun _ _ _ _ _ ⟨A79, c79, lo79, hi79, hv, h79, ho80, hr0⟩ e => ⟨A79, c79, lo79, hi79, hv, OwnL.ex good_Table h79 e, ho80, hr0⟩), StableI.det _, StableI.det _, trivial⟩) ⟨?_, ?_, ?_, ?_, ?_, ?_, ?_, ?_, ?_, ?_, ?_, ?_, ?_, ?_, ?_, ?_, ?_, ?_, ?_, ?_, ?_, trivial⟩ ?_
      ·exact fun _ _ h => os rfl ((yl_fieldAddr Tryz.fd40_1 rfl (h.old 1 _ rfl rfl) kI))
      ·exact fun _ _ h => os rfl ((yl_load1 Tryz.ty37 rfl (h.dt 0 29 rfl rfl rfl) (((Box.ex q67 h.ex).cell 1).trans rfl) kI))
      ·exact fun _ _ h => os rfl ((yl_fieldAddr Tryz.fd40_1 rfl (h.old 1 _ rfl rfl) kI))
      ·exact fun _ _ h => os rfl ((yl_load1 Tryz.ty37 rfl (h.dt 2 31 rfl rfl rfl) (((Box.ex q67 h.ex).cell 1).trans rfl) kI))
      ·intro L104 w105 hi106
       have hE107 := hi106.ex
       have hE107z := Ex.size hE107
       exact os rfl ((yl_indexAddrN Tryz.un37 Tryz.ty95 rfl (hi106.dt 3 32 rfl rfl rfl) rfl eA69 (by first | omega | assumption | (simp only [IntKind.wrap_i64] at *; omega)) kI))
      ·exact fun _ _ h => os rfl ((yl_loadN (cs := [.string (bs ((p_c.Ways.getD 0 d_Table).Name)), .slice A70 (((p_c.Ways.getD 0 d_Table).Cols).length) c70, .slice A71 (((p_c.Ways.getD 0 d_Table).Idxs).length) c71]) Tryz.ty95 rfl (h.dt 4 33 rfl rfl rfl) (Cells.ex eC69 h.ex) rfl kI))
      ·exact fun _ _ h => os rfl ((yl_fieldAddr Tryz.fd40_0 rfl (h.old 1 _ rfl rfl) kI))
      ·exact fun _ _ h => os rfl ((yl_load1 Tryz.ty9 rfl (h.dt 6 35 rfl rfl rfl) (((Box.ex q67 h.ex).cell 0).trans rfl) kI))
      ·exact fun _ _ h => os rfl ((yl_loadN (cs := [.string (bs (p_c.Name)), .slice A1 p_c.Ways.length c1, .slice A2 p_c.At.length c2, .slice A3 p_c.Store.length c3]) Tryz.ty40 rfl (h.old 1 _ rfl rfl) ((Box.ex q67 h.ex).cells (n := 4) rfl) rfl kI))
      ·exact fun _ _ h => os rfl ((yl_fieldAddr Tryz.fd40_1 rfl (h.old 1 _ rfl rfl) kI))
      ·exact fun _ _ h => os rfl ((yl_load1 Tryz.ty37 rfl (h.dt 9 38 rfl rfl rfl) (((Box.ex q67 h.ex).cell 1).trans rfl) kI))
      ·exact fun _ _ h => os rfl ((yl_fieldAddr Tryz.fd40_1 rfl (h.old 1 _ rfl rfl) kI))
      ·exact fun _ _ h => os rfl ((yl_load1 Tryz.ty37 rfl (h.dt 11 40 rfl rfl rfl) (((Box.ex q67 h.ex).cell 1).trans rfl) kI))
      ·exact fun _ _ h => os rfl ((yl_len Tryz.un37 rfl (h.dt 12 41 rfl rfl rfl) kI))
      ·exact fun _ _ h => os rfl ((yl_sub rfl (h.dt 13 42 rfl rfl rfl) rfl kI))
      ·intro L164 w165 hi166
       have hE167 := hi166.ex
       have hE167z := Ex.size hE167
       exact os rfl ((yl_indexAddr Tryz.un37 Tryz.ty95 rfl (hi166.dt 10 39 rfl rfl rfl) (hi166.dt 14 43 rfl rfl rfl) eA72 (by first | omega | assumption | (simp only [IntKind.wrap_i64] at *; omega)) (by first | omega | assumption | (simp only [IntKind.wrap_i64] at *; omega)) kI))
      ·exact fun _ _ h => os rfl ((yl_loadN (cs := [.string (bs ((p_c.Ways.getD ((IntKind.wrap .i64 ((p_c.Ways.length : Int) - 1)).toNat) d_Table).Name)), .slice A73 (((p_c.Ways.getD ((IntKind.wrap .i64 ((p_c.Ways.length : Int) - 1)).toNat) d_Table).Cols).length) c73, .slice A74 (((p_c.Ways.getD ((IntKind.wrap .i64 ((p_c.Ways.length : Int) - 1)).toNat) d_Table).Idxs).length) c74]) Tryz.ty95 rfl (h.dt 15 44 rfl rfl rfl) (Cells.ex eC72 h.ex) rfl kI))
      ·intro L176 w177 hi178
       have hE179 := hi178.ex
       have hE179z := Ex.size hE179
       refine OpR.op' rfl (yl_call Tryz.en72 rfl (opvs_cons (hi178.dt 8 37 rfl rfl rfl) (opvs_cons (hi178.dt 16 45 rfl rfl rfl) opvs_nil)) (Cal.mono (c_i_Shift_stageOf p_c (p_c.Ways.getD ((IntKind.wrap .i64 ((p_c.Ways.length : Int) - 1)).toNat) d_Table) (RdS.up (RdS.ex good_Table q68 hE179) good_Table) (RdS.up (RdS.ex good_Int (RdS.ex good_Int q53 hE58) hE179) good_Int) (RdS.up (RdS.ex good_Write (RdS.ex good_Write q55 hE58) hE179) good_Write) (RdS.up (RdS.ex good_Str h73 hE179) good_Str) (RdS.up (RdS.ex good_Idx h74 hE179) good_Idx) o4 (okL.getD o4.2.1 ok_d_Table _) (by first | omega | assumption | (simp only [IntKind.wrap_i64] at *; omega))) ?_))
       rintro v188 w187 ⟨rfl, hE189⟩
       exact ⟨rfl, hE189⟩
      ·intro L190 w191 hi192
       have hE193 := hi192.ex
       have hE193z := Ex.size hE193
       refine OpR.op' rfl (yl_call Tryz.en71 rfl (opvs_cons (hi192.dt 5 34 rfl rfl rfl) (opvs_cons (hi192.dt 7 36 rfl rfl rfl) (opvs_cons (hi192.dt 17 46 rfl rfl rfl) opvs_nil))) (Cal.mono (c_i_Table_wayTo (p_c.Ways.getD 0 d_Table) p_c.Name (i_Shift_stageOf p_c (p_c.Ways.getD ((IntKind.wrap .i64 ((p_c.Ways.length : Int) - 1)).toNat) d_Table)) (RdS.up (RdS.ex good_Str h70 hE193) good_Str) (RdS.up (RdS.ex good_Idx h71 hE193) good_Idx) (okL.getD o4.2.1 ok_d_Table _) o4.1 (by first | omega | assumption | (simp only [IntKind.wrap_i64] at *; omega)) (by first | omega | assumption | (simp only [IntKind.wrap_i64] at *; omega)) (by first | omega | assumption | (simp only [IntKind.wrap_i64] at *; omega))) ?_))
       rintro v202 w199 ⟨A200, c200, lo200, hi200, rfl, h200, ho201, hrn204, hE203⟩
       exact ⟨⟨A200, c200, lo200, hi200, rfl, h200, ho201, hrn204⟩, hE203⟩
      ·intro L205 w206 hi207
       have hE208 := hi207.ex
       obtain ⟨lo211, hh212, _, hx210, hr213, hr214, hr215, A79_216, c79_217, lo79_218, hi79_219, rfl, h220, h221, hrn222⟩ := hi207.dep 18 47 rfl rfl
       refine OpR.op' rfl (yl_call Tryz.en70 rfl (opvs_cons (hi207.dt 1 30 rfl rfl rfl) (opvs_cons hx210 (opvs_cons rfl opvs_nil))) (Cal.mono (c_g_slices_EqualFunc_Table p_c.Ways (i_Table_wayTo (p_c.Ways.getD 0 d_Table) p_c.Name (i_Shift_stageOf p_c (p_c.Ways.getD ((IntKind.wrap .i64 ((p_c.Ways.length : Int) - 1)).toNat) d_Table))) (fun y0 y1 => i_sameTable y0 y1) (RdS.up (RdS.ex good_Table q68 hE208) good_Table) (RdS.up (OwnL.rd good_Table h220) good_Table) Tryz.en73 (fun _ y0 => fun y1 => fun hE hm0 hm1 hv0 hv1 hv2 hv3 ov0 ov1 => c_i_sameTable y0 y1 hv0 hv1 hv2 hv3 ov0 ov1) o4.2.1 h221) ?_))
       rintro v226 w225 ⟨rfl, hE227⟩
       exact ⟨rfl, hE227⟩
      ·exact fun _ _ h => os rfl ((yl_assign rfl (h.dt 19 48 rfl rfl rfl) kI))
      ·intro fl236 fh237 L233 w234 hp235
       have hE238 := hp235.ex
       have hE238z := Ex.size hE238
       have hr240 := hp235.rng 18 rfl
       obtain ⟨_, hx239, A79_241, c79_242, lo79_243, hi79_244, rfl, h245, h246, hrn247⟩ := hp235.new 18 47 rfl rfl
       refine SeqR.done (tn (CW.sub (Sub.cons (d := 2) (hp235.nt 20 2 rfl rfl rfl) (Sub.nil _)) (CW.ret (rr rfl (.cons rfl .nil) ?_))))
       have hM249 : (i_GoodShift p_c) = ((g_slices_EqualFunc_Table p_c.Ways (i_Table_wayTo (p_c.Ways.getD 0 d_Table) p_c.Name (i_Shift_stageOf p_c (p_c.Ways.getD ((IntKind.wrap .i64 ((p_c.Ways.length : Int) - 1)).toNat) d_Table))) (fun y0 y1 => i_sameTable y0 y1))) := by simp only [i_GoodShift, hb18, hb23, hb31, hb45, hb59, cond_true, cond_false, loopE_done, loopE_ret]
       rw [hM249]
       exact ⟨rfl, (Ex.trans (Ex.trans (Ex.trans (Ex.trans (Ex.trans (Ex.trans (Ex.trans (Ex.refl w) hE14) hE17) hE22) hE30) hE44) hE58) hE238)⟩
   ·refine CW.cond_t rfl (not_f hb31) (CW.seq (CW.region (sd rfl (yl_assign rfl rfl (SeqR.done (tn (CW.ret (tr (rr rfl (.cons rfl .nil) ?_)))))))))
    have hM257 : (i_GoodShift p_c) = (false) := by simp only [i_GoodShift, hb18, hb23, hb31, cond_true, cond_false, loopE_done, loopE_ret]
    rw [hM257]
    exact ⟨rfl, (Ex.trans (Ex.trans (Ex.trans (Ex.trans (Ex.refl w) hE14) hE17) hE22) hE30)⟩
  ·refine sz rfl rfl (not_f hb23) (sz rfl rfl (not_f hb23) (sz rfl rfl (not_f hb23) (sz rfl rfl (not_f hb23) (sd rfl (yl_pick_t rfl rfl (not_f hb23) rfl (SeqR.done (tn (CW.cond_t rfl rfl (CW.seq ?_)))))))))
   refine CW.region (sd rfl (yl_assign rfl rfl (SeqR.done (tn (CW.ret (tr (rr rfl (.cons rfl .nil) ?_)))))))
   have hM262 : (i_GoodShift p_c) = (false) := by simp only [i_GoodShift, hb18, hb23, cond_true, cond_false, loopE_done, loopE_ret]
   rw [hM262]
   exact ⟨rfl, (Ex.trans (Ex.trans (Ex.trans (Ex.refl w) hE14) hE17) hE22)⟩
 ·refine sz rfl rfl (not_f hb18) (sz rfl rfl (not_f hb18) (sz rfl rfl (not_f hb18) (sz rfl rfl (not_f hb18) (sz rfl rfl (not_f hb18) (sd rfl (yl_pick_t rfl rfl (not_f hb18) rfl (sd rfl (yl_move rfl rfl (sz rfl rfl rfl (sz rfl rfl rfl ?_))))))))))
  refine sz rfl rfl rfl (sz rfl rfl rfl (sd rfl (yl_pick_t rfl rfl rfl rfl (SeqR.done (tn (CW.cond_t rfl rfl (CW.seq (CW.region (sd rfl (yl_assign rfl rfl ?_))))))))))
  refine SeqR.done (tn (CW.ret (tr (rr rfl (.cons rfl .nil) ?_))))
  have hM266 : (i_GoodShift p_c) = (false) := by simp only [i_GoodShift, hb18, cond_true, cond_false, loopE_done, loopE_ret]
  rw [hM266]
  exact ⟨rfl, (Ex.trans (Ex.trans (Ex.refl w) hE14) hE17)⟩
set_option maxRecDepth 100000 in
set_option maxHeartbeats 2000000 in
theorem c_i_GoodFill {w : World} (p_f : DFill) (o1 : ok_Fill p_f) : Cal Tryz.prog 82 #[.agg #[.string (bs (p_f.Last)), .bool (p_f.Over)]] w fun v w' => v = .bool ((i_GoodFill p_f)) ∧ Ex w w' := by
 have hol2 : p_f.Last.length ≤ 1073741824 := o1
 refine Cal.of (vs := [.agg #[.string (bs (p_f.Last)), .bool (p_f.Over)]]) Tryz.func82 rfl Tryz.ntmps82 rfl (CW.seq (CW.region (sd rfl (yl_box (cs := [.string (bs (p_f.Last)), .bool (p_f.Over)]) rfl rfl rfl ?_))))
 intro b3 w4 hs5 hz6 hB7 hE8
 refine sd rfl (yl_assign rfl rfl (SeqR.done (tn (CW.seq (CW.region (sd rfl (yl_fieldAddr Tryz.fd60_0 rfl rfl (sd rfl (yl_load1 Tryz.ty9 rfl rfl ((hB7.cell 0).trans rfl) (sd rfl (yl_seql (a := p_f.Last) (b := ([] : Str)) rfl rfl rfl (sd rfl (yl_move rfl rfl ?_)))))))))))))
 refine bcase (p_f.Last == ([] : Str)) (fun hb9 => ?_) (fun hb9 => ?_)
 ·refine sz rfl rfl hb9 (sz rfl rfl hb9 (sz rfl rfl hb9 (sd rfl (yl_pick_t rfl rfl hb9 rfl (sd rfl (yl_assign rfl rfl (SeqR.done (tn (CW.ret (rr rfl (.cons rfl .nil) ?_))))))))))
  have hM10 : (i_GoodFill p_f) = (true) := by simp only [i_GoodFill, hb9, cond_true, cond_false, loopE_done, loopE_ret]
  rw [hM10]
  exact ⟨rfl, (Ex.trans (Ex.refl w) hE8)⟩
 ·refine sy rfl rfl hb9 (yl_fieldAddr Tryz.fd60_0 rfl rfl (sy rfl rfl hb9 (yl_load1 Tryz.ty9 rfl rfl ((hB7.cell 0).trans rfl) (sy rfl rfl hb9 (yl_call Tryz.en113 rfl (opvs_cons rfl opvs_nil) (Cal.mono (c_i_GoodKey p_f.Last o1) ?_))))))
  rintro v13 w12 ⟨rfl, hE14⟩
  have hE14z := Ex.size hE14
  refine sd rfl (yl_pick_f rfl rfl hb9 rfl (sd rfl (yl_assign rfl rfl (SeqR.done (tn (CW.ret (rr rfl (.cons rfl .nil) ?_)))))))
  have hM15 : (i_GoodFill p_f) = ((i_GoodKey p_f.Last)) := by simp only [i_GoodFill, hb9, cond_true, cond_false, loopE_done, loopE_ret]
  rw [hM15]
  exact ⟨rfl, (Ex.trans (Ex.trans (Ex.refl w) hE8) hE14)⟩
set_option maxRecDepth 100000 in
set_option maxHeartbeats 2000000 in
theorem c_i_GoodWork {A1 : Option Addr} {c1 : Nat} {A2 : Option Addr} {c2 : Nat} {A3 : Option Addr} {c3 : Nat} {w : World} (p_w : DWork) (h1 : RdS w (Iv 0 w.heap.size) R_Table 3 A1 p_w.Shift.Ways.length c1 p_w.Shift.Ways) (h2 : RdS w (Iv 0 w.heap.size) (RF e_Int) 1 A2 p_w.Shift.At.length c2 p_w.Shift.At) (h3 : RdS w (Iv 0 w.heap.size) (RF e_Write) 3 A3 p_w.Shift.Store.length c3 p_w.Shift.Store) (o4 : ok_Work p_w) : Cal Tryz.prog 44 #[.agg #[.string (bs (p_w.Shift.Name)), .slice A1 p_w.Shift.Ways.length c1, .slice A2 p_w.Shift.At.length c2, .slice A3 p_w.Shift.Store.length c3, .string (bs (p_w.Up.Last)), .bool (p_w.Up.Over), .string (bs (p_w.Down.Last)), .bool (p_w.Down.Over)]] w fun v w' => v = .bool ((i_GoodWork p_w)) ∧ Ex w w' := by
 have hol5 : p_w.Shift.Name.length ≤ 1073741824 := o4.1.1
 have hol6 := o4.1.2.1.1
 have hol7 := o4.1.2.2.1.1
 have hol8 := o4.1.2.2.2.1
 have hol9 : p_w.Up.Last.length ≤ 1073741824 := o4.2.1
 have hol10 : p_w.Down.Last.length ≤ 1073741824 := o4.2.2
 refine Cal.of (vs := [.agg #[.string (bs (p_w.Shift.Name)), .slice A1 p_w.Shift.Ways.length c1, .slice A2 p_w.Shift.At.length c2, .slice A3 p_w.Shift.Store.length c3, .string (bs (p_w.Up.Last)), .bool (p_w.Up.Over), .string (bs (p_w.Down.Last)), .bool (p_w.Down.Over)]]) Tryz.func44 rfl Tryz.ntmps44 rfl (CW.seq (CW.region (sd rfl (yl_box (cs := [.string (bs (p_w.Shift.Name)), .slice A1 p_w.Shift.Ways.length c1, .slice A2 p_w.Shift.At.length c2, .slice A3 p_w.Shift.Store.length c3, .string (bs (p_w.Up.Last)), .bool (p_w.Up.Over), .string (bs (p_w.Down.Last)), .bool (p_w.Down.Over)]) rfl rfl rfl ?_))))
 intro b11 w12 hs13 hz14 hB15 hE16
 refine sd rfl (yl_assign rfl rfl (SeqR.done (tn (CW.seq (CW.region (sd rfl (yl_fieldAddr Tryz.fd62_0 rfl rfl (sd rfl (yl_loadN (cs := [.string (bs (p_w.Shift.Name)), .slice A1 p_w.Shift.Ways.length c1, .slice A2 p_w.Shift.At.length c2, .slice A3 p_w.Shift.Store.length c3]) Tryz.ty40 rfl rfl (hB15.cells (n := 4) rfl) rfl (sd rfl (yl_call Tryz.en34 rfl (opvs_cons rfl opvs_nil) (Cal.mono (c_i_GoodShift p_w.Shift (RdS.up (RdS.ex good_Table h1 hE16) good_Table) (RdS.up (RdS.ex good_Int h2 hE16) good_Int) (RdS.up (RdS.ex good_Write h3 hE16) good_Write) o4.1) ?_))))))))))))
 rintro v21 w20 ⟨rfl, hE22⟩
 have hE22z := Ex.size hE22
 refine sd rfl (yl_move rfl rfl (bcase (i_GoodShift p_w.Shift) (fun hb23 => ?_) (fun hb23 => ?_)))
 ·obtain ⟨hb23p0, hb23p1⟩ := f_i_GoodShift hb23
  refine sy rfl rfl hb23 (yl_fieldAddr Tryz.fd62_1 rfl rfl ?_)
  have q24 := Box.ex hB15 hE22
  refine sy rfl rfl hb23 (yl_loadN (cs := [.string (bs (p_w.Up.Last)), .bool (p_w.Up.Over)]) Tryz.ty60 rfl rfl (q24.cells (n := 2) rfl) rfl (sy rfl rfl hb23 (yl_call Tryz.en82 rfl (opvs_cons rfl opvs_nil) (Cal.mono (c_i_GoodFill p_w.Up o4.2.1) ?_))))
  rintro v26 w25 ⟨rfl, hE27⟩
  have hE27z := Ex.size hE27
  refine sd rfl (yl_pick_t rfl rfl hb23 rfl (sd rfl (yl_move rfl rfl (bcase (i_GoodFill p_w.Up) (fun hb28 => ?_) (fun hb28 => ?_)))))
  ·refine sy rfl rfl hb28 (yl_fieldAddr Tryz.fd62_2 rfl rfl (sy rfl rfl hb28 (yl_loadN (cs := [.string (bs (p_w.Down.Last)), .bool (p_w.Down.Over)]) Tryz.ty60 rfl rfl ((Box.ex q24 hE27).cells (n := 2) rfl) rfl (sy rfl rfl hb28 (yl_call Tryz.en82 rfl (opvs_cons rfl opvs_nil) (Cal.mono (c_i_GoodFill p_w.Down o4.2.2) ?_))))))
   rintro v31 w30 ⟨rfl, hE32⟩
   have hE32z := Ex.size hE32
   refine sd rfl (yl_pick_t rfl rfl hb28 rfl (sd rfl (yl_assign rfl rfl (SeqR.done (tn (CW.ret (rr rfl (.cons rfl .nil) ?_)))))))
   have hM33 : (i_GoodWork p_w) = ((i_GoodFill p_w.Down)) := by simp only [i_GoodWork, hb23, hb28, cond_true, cond_false, loopE_done, loopE_ret]
   rw [hM33]
   exact ⟨rfl, (Ex.trans (Ex.trans (Ex.trans (Ex.trans (Ex.refl w) hE16) hE22) hE27) hE32)⟩
  ·refine sz rfl rfl hb28 (sz rfl rfl hb28 (sz rfl rfl hb28 (sd rfl (yl_pick_f rfl rfl hb28 rfl (sd rfl (yl_assign rfl rfl (SeqR.done (tn (CW.ret (rr rfl (.cons rfl .nil) ?_))))))))))
   have hM38 : (i_GoodWork p_w) = (false) := by simp only [i_GoodWork, hb23, hb28, cond_true, cond_false, loopE_done, loopE_ret]
   rw [hM38]
   exact ⟨rfl, (Ex.trans (Ex.trans (Ex.trans (Ex.refl w) hE16) hE22) hE27)⟩
 ·refine sz rfl rfl hb23 (sz rfl rfl hb23 (sz rfl rfl hb23 (sd rfl (yl_pick_f rfl rfl hb23 rfl (sd rfl (yl_move rfl rfl (sz rfl rfl rfl (sz rfl rfl rfl (sz rfl rfl rfl (sd rfl (yl_pick_f rfl rfl rfl rfl ?_)))))))))))
  refine sd rfl (yl_assign rfl rfl (SeqR.done (tn (CW.ret (rr rfl (.cons rfl .nil) ?_)))))
  have hM42 : (i_GoodWork p_w) = (false) := by simp only [i_GoodWork, hb23, cond_true, cond_false, loopE_done, loopE_ret]
  rw [hM42]
  exact ⟨rfl, (Ex.trans (Ex.trans (Ex.refl w) hE16) hE22)⟩
set_option maxRecDepth 100000 in
set_option maxHeartbeats 2000000 in
theorem c_g_slices_IndexFunc_string {A1 : Option Addr} {c1 : Nat} {g3 : Nat} {cp4 : List Value} {w : World} (p_s : List Str) (p_f : Str → Bool) (h1 : RdS w (Iv 0 w.heap.size) (RF e_Str) 1 A1 p_s.length c1 p_s) (hen5 : Enters Tryz.prog g3) (hfn6 : ∀ (w1 : World) (y0 : Str), Ex w w1 → y0 ∈ p_s → okS y0 → Cal Tryz.prog g3 (([.string (bs (y0))] : List Value) ++ cp4).toArray w1 fun v w2 => v = .bool (p_f y0) ∧ Ex w1 w2) (o2 : (okL okS) p_s) : Cal Tryz.prog 84 #[.slice A1 p_s.length c1, .func (.func g3) #[] cp4.toArray] w fun v w' => v = .int .i64 ((g_slices_IndexFunc_string p_s p_f)) ∧ Ex w w' := by
 have hol7 := o2.1
 refine Cal.of (vs := [.slice A1 p_s.length c1, .func (.func g3) #[] cp4.toArray]) Tryz.func84 rfl Tryz.ntmps84 rfl (CW.seq (CW.region (sd rfl (yl_assign rfl rfl (SeqR.done (tn (CW.seq (CW.seq (CW.region ?_)))))))))
 refine sd rfl (yl_move rfl rfl (sd rfl (yl_len Tryz.un27 rfl rfl (sd rfl (yl_move rfl rfl (SeqR.done (tn (CW.block (CW.loop (fun m9 L10 w11 => ∃ (k8 : Nat), m9 = p_s.length - k8 ∧ k8 ≤ p_s.length ∧ w.heap.size ≤ w11.heap.size ∧ lkp L10 0 = some (.slice A1 p_s.length c1) ∧ lkp L10 1 = some (.func (.func g3) #[] cp4.toArray) ∧ lkp L10 7 = some (.int .i64 ((p_s.length : Int))) ∧ lkp L10 8 = some (.int .i64 ((k8 : Int))) ∧ RdS w11 (Iv 0 w.heap.size) (RF e_Str) 1 A1 p_s.length c1 p_s ∧ Ex w w11 ∧ loopM (B_g_slices_IndexFunc_string_0 p_s p_f) (p_s.length - k8) k8 () = loopM (B_g_slices_IndexFunc_string_0 p_s p_f) (p_s.length - 0) 0 ()) (p_s.length - 0) ?_ ?_)))))))))
 ·exact ⟨0, rfl, (by omega), Nat.le_refl _, rfl, rfl, rfl, rfl, h1, (Ex.refl w), rfl⟩
 ·rintro m12 L13 w14 ⟨k8, rfl, hk15, hsz17, hl18, hl19, hl20, hl21, hf22, hf23, hI16⟩
  refine CW.sub (Sub.cons hl18 (Sub.cons hl19 (Sub.cons hl20 (Sub.cons hl21 (Sub.nil _))))) ?_
  have hf23z := Ex.size hf23
  have hbg24 := RdS.big hf22
  rcases Nat.lt_or_ge k8 p_s.length with hlt25 | hlt25
  ·refine CW.seq (CW.region (sd rfl (yl_lss rfl rfl rfl (SeqR.done (tn (CW.seq (CW.cond_t rfl (lt_t hlt25) (CW.skip (tn ?_)))))))))
   refine CW.seq (CW.block (CW.seq (CW.region (sd rfl (yl_move rfl rfl (sd rfl (yl_assign rfl rfl (SeqR.done (tn (CW.seq ?_))))))))))
   refine CW.region (sd rfl (yl_move rfl rfl (sd rfl (yl_move rfl rfl (sd rfl (yl_move rfl rfl ?_))))))
   obtain ⟨eb26, eo26, ec26, eA26, eS26, ebl26, el26, eR26, eC26⟩ := RdS.atD hf22 d_Str (i := k8) (by first | omega | assumption)
   obtain rfl := eR26
   have eC26 : Cells w14 eb26 (eo26 + k8 * 1) [.string (bs ((p_s.getD k8 d_Str)))] := eC26
   refine sd rfl (yl_indexAddrN Tryz.un27 Tryz.ty9 rfl rfl rfl eA26 (by first | omega | assumption | (simp only [IntKind.wrap_i64] at *; omega)) (sd rfl (yl_load1 Tryz.ty9 rfl rfl (eC26 0 _ rfl) (sd rfl (yl_callv hen5 rfl rfl (opvs_cons rfl opvs_nil) (Cal.mono (hfn6 w14 (p_s.getD k8 d_Str) hf23 (getD_mem (by omega)) (okL.getD o2 ok_d_Str _)) ?_))))))
   rintro v28 w27 ⟨rfl, hE29⟩
   have hE29z := Ex.size hE29
   refine SeqR.done (tn (bcase (p_f (p_s.getD k8 d_Str)) (fun hb30 => ?_) (fun hb30 => ?_)))
   ·refine CW.cond_t rfl hb30 (CW.seq (CW.region (sd rfl (yl_move rfl rfl (sd rfl (yl_assign rfl rfl (SeqR.done (tn (CW.ret (br ?_))))))))))
    refine tr (tr ?_)
    have hB32 : B_g_slices_IndexFunc_string_0 p_s p_f k8 () = .ret (k8 : Int) := by simp only [B_g_slices_IndexFunc_string_0, hb30, cond_true, cond_false, loopE_done, loopE_ret]
    have hL31 : loopM (B_g_slices_IndexFunc_string_0 p_s p_f) (p_s.length - 0) 0 () = .ret (k8 : Int) := hI16.symm.trans (loopM.ret hlt25 hB32)
    refine br (tr (rr rfl (.cons rfl .nil) ?_))
    have hM33 : (g_slices_IndexFunc_string p_s p_f) = ((k8 : Int)) := by simp only [g_slices_IndexFunc_string, hb30, hL31, cond_true, cond_false, loopE_done, loopE_ret]
    rw [hM33]
    exact ⟨rfl, (Ex.trans hf23 hE29)⟩
   ·refine CW.cond_f rfl hb30 (CW.skip (bn (tn (CW.region (sd rfl (yl_inc rfl rfl rfl (by omega) (sd rfl (yl_move rfl rfl (SeqR.done (tn ?_))))))))))
    have hB35 : B_g_slices_IndexFunc_string_0 p_s p_f k8 () = .cont () := by simp only [B_g_slices_IndexFunc_string_0, hb30, cond_true, cond_false, loopE_done, loopE_ret]
    exact ⟨p_s.length - (k8 + 1), by omega, k8 + 1, rfl, hlt25, (by omega), rfl, rfl, rfl, rfl, (RdS.ex good_Str hf22 hE29), (Ex.trans hf23 hE29), (loopM.cont hlt25 hB35).symm.trans hI16⟩
  ·refine CW.seq (CW.region (sd rfl (yl_lss rfl rfl rfl (SeqR.done (tn (CW.seq (CW.cond_f rfl (lt_f hlt25) (CW.exit (tx ?_)))))))))
   refine tx ?_
   have hL38 : loopM (B_g_slices_IndexFunc_string_0 p_s p_f) (p_s.length - 0) 0 () = .done () := hI16.symm.trans (loopM.stop hlt25)
   refine bx (tn (CW.seq (CW.region (sd rfl (yl_assign rfl rfl (SeqR.done (tn (CW.ret (rr rfl (.cons rfl .nil) ?_)))))))))
   have hM39 : (g_slices_IndexFunc_string p_s p_f) = (-1) := by simp only [g_slices_IndexFunc_string, hL38, cond_true, cond_false, loopE_done, loopE_ret]
   rw [hM39]
   exact ⟨rfl, hf23⟩
set_option maxRecDepth 100000 in
set_option maxHeartbeats 2000000 in
theorem c_g_slices_ContainsFunc_string {A1 : Option Addr} {c1 : Nat} {g3 : Nat} {cp4 : List Value} {w : World} (p_s : List Str) (p_f : Str → Bool) (h1 : RdS w (Iv 0 w.heap.size) (RF e_Str) 1 A1 p_s.length c1 p_s) (hen5 : Enters Tryz.prog g3) (hfn6 : ∀ (w1 : World) (y0 : Str), Ex w w1 → y0 ∈ p_s → okS y0 → Cal Tryz.prog g3 (([.string (bs (y0))] : List Value) ++ cp4).toArray w1 fun v w2 => v = .bool (p_f y0) ∧ Ex w1 w2) (o2 : (okL okS) p_s) : Cal Tryz.prog 48 #[.slice A1 p_s.length c1, .func (.func g3) #[] cp4.toArray] w fun v w' => v = .bool ((g_slices_ContainsFunc_string p_s p_f)) ∧ Ex w w' := by
 have hol7 := o2.1
 refine Cal.of (vs := [.slice A1 p_s.length c1, .func (.func g3) #[] cp4.toArray]) Tryz.func48 rfl Tryz.ntmps48 rfl (CW.seq (CW.region (sd rfl (yl_assign rfl rfl (SeqR.done (tn (CW.seq (CW.region (sd rfl (yl_move rfl rfl ?_))))))))))
 refine sd rfl (yl_move rfl rfl (sd rfl (yl_call Tryz.en84 rfl (opvs_cons rfl (opvs_cons rfl opvs_nil)) (Cal.mono (c_g_slices_IndexFunc_string p_s p_f (RdS.up h1 good_Str) hen5 (fun w1 y0 => fun hE => hfn6 w1 y0 (Ex.trans (Ex.refl w) hE)) o2) ?_))))
 rintro v9 w8 ⟨rfl, hE10⟩
 have hE10z := Ex.size hE10
 refine sd rfl (yl_geq rfl rfl rfl (sd rfl (yl_assign rfl rfl (SeqR.done (tn (CW.ret (rr rfl (.cons rfl .nil) ?_)))))))
 have hM11 : (g_slices_ContainsFunc_string p_s p_f) = (decide (0 ≤ (g_slices_IndexFunc_string p_s p_f))) := by simp only [g_slices_ContainsFunc_string, cond_true, cond_false, loopE_done, loopE_ret]
 rw [hM11]
 exact ⟨rfl, (Ex.trans (Ex.refl w) hE10)⟩
set_option maxRecDepth 100000 in
set_option maxHeartbeats 2000000 in
theorem c_g_internal_stringslite_HasPrefix {w : World} (p_s : Str) (p_prefix : Str) (o1 : okS p_s) (o2 : okS p_prefix) : Cal Tryz.prog 153 #[.string (bs (p_s)), .string (bs (p_prefix))] w fun v w' => v = .bool ((g_internal_stringslite_HasPrefix p_s p_prefix)) ∧ Ex w w' := by
 have hol3 : p_s.length ≤ 1073741824 := o1
 have hol4 : p_prefix.length ≤ 1073741824 := o2
 refine Cal.of (vs := [.string (bs (p_s)), .string (bs (p_prefix))]) Tryz.func153 rfl Tryz.ntmps153 rfl (CW.seq (CW.region (sd rfl (yl_assign rfl rfl (SeqR.done (tn (CW.seq (CW.region (sd rfl (yl_move rfl rfl ?_))))))))))
 refine sd rfl (yl_slen Tryz.un9 (a := p_s) rfl rfl (sd rfl (yl_move rfl rfl (sd rfl (yl_slen Tryz.un9 (a := p_prefix) rfl rfl (sd rfl (yl_geq rfl rfl rfl (sd rfl (yl_move rfl rfl (bcase (decide ((p_prefix.length : Int) ≤ (p_s.length : Int))) (fun hb5 => ?_) (fun hb5 => ?_)))))))))))
 ·have hb5p := dec_t hb5
  refine sy rfl rfl hb5 (yl_move rfl rfl (sy rfl rfl hb5 (yl_move rfl rfl (sy rfl rfl hb5 (yl_slen Tryz.un9 (a := p_prefix) rfl rfl (sy rfl rfl hb5 (yl_sslice_hi Tryz.un9 (a := p_s) (h := p_prefix.length) rfl rfl rfl (by omega) (sy rfl rfl hb5 (yl_move rfl rfl (sy rfl rfl hb5 (yl_seql (a := (p_s.take p_prefix.length)) (b := p_prefix) rfl rfl rfl (sd rfl (yl_pick_t rfl rfl hb5 rfl (sd rfl (yl_assign rfl rfl (SeqR.done ?_))))))))))))))))
  refine tn (CW.ret (rr rfl (.cons rfl .nil) ?_))
  have hM6 : (g_internal_stringslite_HasPrefix p_s p_prefix) = ((p_s.take p_prefix.length) == p_prefix) := by simp only [g_internal_stringslite_HasPrefix, hb5, cond_true, cond_false, loopE_done, loopE_ret]
  rw [hM6]
  exact ⟨rfl, (Ex.refl w)⟩
 ·have hb5p := dec_f hb5
  refine sz rfl rfl hb5 (sz rfl rfl hb5 (sz rfl rfl hb5 (sz rfl rfl hb5 (sz rfl rfl hb5 (sz rfl rfl hb5 (sd rfl (yl_pick_f rfl rfl hb5 rfl (sd rfl (yl_assign rfl rfl (SeqR.done ?_))))))))))
  refine tn (CW.ret (rr rfl (.cons rfl .nil) ?_))
  have hM7 : (g_internal_stringslite_HasPrefix p_s p_prefix) = (false) := by simp only [g_internal_stringslite_HasPrefix, hb5, cond_true, cond_false, loopE_done, loopE_ret]
  rw [hM7]
  exact ⟨rfl, (Ex.refl w)⟩
set_option maxRecDepth 100000 in
set_option maxHeartbeats 2000000 in
theorem c_g_internal_stringslite_CutPrefix {w : World} (p_s : Str) (p_prefix : Str) (o1 : okS p_s) (o2 : okS p_prefix) : Cal Tryz.prog 145 #[.string (bs (p_s)), .string (bs (p_prefix))] w fun v w' => v = .tuple #[.string (bs ((g_internal_stringslite_CutPrefix p_s p_prefix).1)), .bool ((g_internal_stringslite_CutPrefix p_s p_prefix).2)] ∧ okS ((g_internal_stringslite_CutPrefix p_s p_prefix).1) ∧ Ex w w' := by
 have hol3 : p_s.length ≤ 1073741824 := o1
 have hol4 : p_prefix.length ≤ 1073741824 := o2
 refine Cal.of (vs := [.string (bs (p_s)), .string (bs (p_prefix))]) Tryz.func145 rfl Tryz.ntmps145 rfl (CW.seq (CW.region (sd rfl (yl_assign rfl rfl (sd rfl (yl_assign rfl rfl (SeqR.done (tn (CW.seq (CW.seq ?_))))))))))
 refine CW.region (sd rfl (yl_move rfl rfl (sd rfl (yl_move rfl rfl (sd rfl (yl_call Tryz.en153 rfl (opvs_cons rfl (opvs_cons rfl opvs_nil)) (Cal.mono (c_g_internal_stringslite_HasPrefix p_s p_prefix o1 o2) ?_)))))))
 rintro v6 w5 ⟨rfl, hE7⟩
 have hE7z := Ex.size hE7
 refine sd rfl (yl_not rfl rfl (SeqR.done (tn (bcase (g_internal_stringslite_HasPrefix p_s p_prefix) (fun hb8 => ?_) (fun hb8 => ?_)))))
 ·have hb8p := f_HasPrefix hb8
  refine CW.cond_f rfl (not_t hb8) (CW.skip (tn (CW.seq (CW.region (sd rfl (yl_move rfl rfl (sd rfl (yl_move rfl rfl (sd rfl (yl_slen Tryz.un9 (a := p_prefix) rfl rfl (sd rfl (yl_sslice_lo Tryz.un9 (a := p_s) (l := p_prefix.length) rfl rfl rfl (by omega) ?_))))))))))))
  refine sd rfl (yl_assign rfl rfl (sd rfl (yl_assign rfl rfl (SeqR.done (tn (CW.ret (rr rfl (.cons rfl (.cons rfl .nil)) ?_)))))))
  have hM9 : (g_internal_stringslite_CutPrefix p_s p_prefix) = (((p_s.drop p_prefix.length), true)) := by simp only [g_internal_stringslite_CutPrefix, hb8, cond_true, cond_false, loopE_done, loopE_ret]
  rw [hM9]
  exact ⟨rfl, (okS.drop o1 _), (Ex.trans (Ex.refl w) hE7)⟩
 ·refine CW.cond_t rfl (not_f hb8) (CW.seq (CW.region (sd rfl (yl_move rfl rfl (sd rfl (yl_assign rfl rfl (sd rfl (yl_assign rfl rfl (SeqR.done (tn (CW.ret ?_)))))))))))
  refine tr (rr rfl (.cons rfl (.cons rfl .nil)) ?_)
  have hM11 : (g_internal_stringslite_CutPrefix p_s p_prefix) = ((p_s, false)) := by simp only [g_internal_stringslite_CutPrefix, hb8, cond_true, cond_false, loopE_done, loopE_ret]
  rw [hM11]
  exact ⟨rfl, o1, (Ex.trans (Ex.refl w) hE7)⟩
set_option maxRecDepth 100000 in
set_option maxHeartbeats 2000000 in
theorem c_g_strings_CutPrefix {w : World} (p_s : Str) (p_prefix : Str) (o1 : okS p_s) (o2 : okS p_prefix) : Cal Tryz.prog 115 #[.string (bs (p_s)), .string (bs (p_prefix))] w fun v w' => v = .tuple #[.string (bs ((g_strings_CutPrefix p_s p_prefix).1)), .bool ((g_strings_CutPrefix p_s p_prefix).2)] ∧ okS ((g_strings_CutPrefix p_s p_prefix).1) ∧ Ex w w' := by
 have hol3 : p_s.length ≤ 1073741824 := o1
 have hol4 : p_prefix.length ≤ 1073741824 := o2
 refine Cal.of (vs := [.string (bs (p_s)), .string (bs (p_prefix))]) Tryz.func115 rfl Tryz.ntmps115 rfl (CW.seq (CW.region (sd rfl (yl_assign rfl rfl (sd rfl (yl_assign rfl rfl (SeqR.done (tn (CW.seq (CW.region ?_))))))))))
 refine sd rfl (yl_move rfl rfl (sd rfl (yl_move rfl rfl (sd rfl (yl_call Tryz.en145 rfl (opvs_cons rfl (opvs_cons rfl opvs_nil)) (Cal.mono (c_g_internal_stringslite_CutPrefix p_s p_prefix o1 o2) ?_))))))
 rintro v7 w5 ⟨rfl, ho6, hE8⟩
 have hE8z := Ex.size hE8
 refine sd rfl (yl_extract rfl rfl rfl (sd rfl (yl_extract rfl rfl rfl (sd rfl (yl_assign rfl rfl (sd rfl (yl_assign rfl rfl (SeqR.done (tn (CW.ret (rr rfl (.cons rfl (.cons rfl .nil)) ?_)))))))))))
 have hM9 : (g_strings_CutPrefix p_s p_prefix) = (((g_internal_stringslite_CutPrefix p_s p_prefix).1, (g_internal_stringslite_CutPrefix p_s p_prefix).2)) := by simp only [g_strings_CutPrefix, cond_true, cond_false, loopE_done, loopE_ret]
 rw [hM9]
 exact ⟨rfl, ho6, (Ex.trans (Ex.refl w) hE8)⟩
set_option maxRecDepth 100000 in
set_option maxHeartbeats 2000000 in
theorem c_i_Table_idxHead {A1 : Option Addr} {c1 : Nat} {A2 : Option Addr} {c2 : Nat} {w : World} (p_t : DTable) (p_name : Str) (h1 : RdS w (Iv 0 w.heap.size) (RF e_Str) 1 A1 p_t.Cols.length c1 p_t.Cols) (h2 : RdS w (Iv 0 w.heap.size) (RF e_Idx) 3 A2 p_t.Idxs.length c2 p_t.Idxs) (o3 : ok_Table p_t) (o4 : okS p_name) : Cal Tryz.prog 116 #[.agg #[.string (bs (p_t.Name)), .slice A1 p_t.Cols.length c1, .slice A2 p_t.Idxs.length c2], .string (bs (p_name))] w fun v w' => v = .string (bs ((i_Table_idxHead p_t p_name))) ∧ Ex w w' := by
 have hol5 : p_t.Name.length ≤ 1073741824 := o3.1
 have hol6 := o3.2.1.1
 have hol7 := o3.2.2.1
 have hol8 : p_name.length ≤ 1073741824 := o4
 refine Cal.of (vs := [.agg #[.string (bs (p_t.Name)), .slice A1 p_t.Cols.length c1, .slice A2 p_t.Idxs.length c2], .string (bs (p_name))]) Tryz.func116 rfl Tryz.ntmps116 rfl (CW.seq (CW.region (sd rfl (yl_box (cs := [.string (bs (p_t.Name)), .slice A1 p_t.Cols.length c1, .slice A2 p_t.Idxs.length c2]) rfl rfl rfl ?_))))
 intro b9 w10 hs11 hz12 hB13 hE14
 refine sd rfl (yl_assign rfl rfl (SeqR.done (tn (CW.seq (CW.region (sd rfl (yl_fieldAddr Tryz.fd95_0 rfl rfl (sd rfl (yl_load1 Tryz.ty9 rfl rfl ((hB13.cell 0).trans rfl) ?_)))))))))
 have hol15 : p_t.Name.length ≤ 1073741824 := o3.1
 refine sd rfl (yl_sadd (a := p_t.Name) (b := ([46] : Str)) rfl rfl rfl (by first | omega | (simp only [List.length_append, List.length_cons, List.length_nil, List.length_take, List.length_drop, toS_length]; omega)) (sd rfl (yl_move rfl rfl ?_)))
 have hol16 : p_t.Name.length ≤ 1073741824 := o3.1
 have hol17 : p_name.length ≤ 1073741824 := o4
 refine sd rfl (yl_sadd (a := (p_t.Name ++ ([46] : Str))) (b := p_name) rfl rfl rfl (by first | omega | (simp only [List.length_append, List.length_cons, List.length_nil, List.length_take, List.length_drop, toS_length]; omega)) ?_)
 have hol18 : p_t.Name.length ≤ 1073741824 := o3.1
 have hol19 : p_name.length ≤ 1073741824 := o4
 refine sd rfl (yl_sadd (a := ((p_t.Name ++ ([46] : Str)) ++ p_name)) (b := ([47] : Str)) rfl rfl rfl (by first | omega | (simp only [List.length_append, List.length_cons, List.length_nil, List.length_take, List.length_drop, toS_length]; omega)) (sd rfl (yl_assign rfl rfl (SeqR.done (tn (CW.ret (rr rfl (.cons rfl .nil) ?_)))))))
 have hM20 : (i_Table_idxHead p_t p_name) = (((p_t.Name ++ ([46] : Str)) ++ p_name) ++ ([47] : Str)) := by simp only [i_Table_idxHead, cond_true, cond_false, loopE_done, loopE_ret]
 rw [hM20]
 exact ⟨rfl, (Ex.trans (Ex.refl w) hE14)⟩
set_option maxRecDepth 100000 in
set_option maxHeartbeats 2000000 in
theorem c_g_internal_bytealg_Cutover {w : World} (p_n : Int) : Cal Tryz.prog 157 #[.int .i64 (p_n)] w fun v w' => v = .int .i64 ((g_internal_bytealg_Cutover p_n)) ∧ Ex w w' := by
 refine Cal.of (vs := [.int .i64 (p_n)]) Tryz.func157 rfl Tryz.ntmps157 rfl (CW.seq (CW.region (sd rfl (yl_assign rfl rfl (SeqR.done (tn (CW.seq (CW.region (sd rfl (yl_move rfl rfl ?_))))))))))
 refine sd rfl (yl_add rfl rfl rfl (sd rfl (yl_quo rfl rfl rfl (by decide) (sd rfl (yl_assign rfl rfl (SeqR.done (tn (CW.ret (rr rfl (.cons rfl .nil) ?_)))))))))
 have hM1 : (g_internal_bytealg_Cutover p_n) = (IntKind.wrap .i64 (Int.tdiv (IntKind.wrap .i64 (p_n + 16)) 8)) := by simp only [g_internal_bytealg_Cutover, cond_true, cond_false, loopE_done, loopE_ret]
 rw [hM1]
 exact ⟨rfl, (Ex.refl w)⟩
set_option maxRecDepth 100000 in
set_option maxHeartbeats 2000000 in
theorem c_g_internal_stringslite_Index {w : World} (p_0 : Str) (p_1 : Str) (o1 : okS p_0) (o2 : okS p_1) (pre0 : p_1.length = 1) : Cal Tryz.prog 154 #[.string (bs (p_0)), .string (bs (p_1))] w fun v w' => v = .int .i64 ((g_internal_stringslite_Index p_0 p_1)) ∧ Ex w w' := by
 have hol3 : p_0.length ≤ 1073741824 := o1
 have hol4 : p_1.length ≤ 1073741824 := o2
 refine Cal.of (vs := [.string (bs (p_0)), .string (bs (p_1))]) Tryz.func154 rfl Tryz.ntmps154 rfl (CW.seq (CW.region (sd rfl (yl_assign rfl rfl (SeqR.done (tn (CW.seq (CW.region (sd rfl (yl_move rfl rfl ?_))))))))))
 refine sd rfl (yl_slen Tryz.un9 (a := p_1) rfl rfl (sd rfl (yl_assign rfl rfl (SeqR.done (tn (CW.seq (CW.block (CW.seq (CW.region (sd rfl (yl_move rfl rfl ?_)))))))))))
 refine sd rfl (yl_eql rfl rfl rfl (sd rfl (yl_move rfl rfl (sy rfl rfl (decide_eq_false (by omega)) (yl_move rfl rfl (sy rfl rfl (decide_eq_false (by omega)) (yl_move rfl rfl (sy rfl rfl (decide_eq_false (by omega)) (yl_seql (a := p_1) (b := p_0) rfl rfl rfl (sd rfl (yl_pick_f rfl rfl (decide_eq_false (by omega)) rfl (sd rfl (yl_assign rfl rfl (SeqR.done (tn ?_)))))))))))))))
 refine bcase (p_1 == p_0) (fun hb5 => ?_) (fun hb5 => ?_)
 ·refine CW.cond_t rfl hb5 (CW.seq (CW.region (sd rfl (yl_assign rfl rfl (SeqR.done (tn (CW.ret (br (tr ?_)))))))))
  refine rr rfl (.cons rfl .nil) ?_
  have hM6 : (g_internal_stringslite_Index p_0 p_1) = (0) := by simp only [g_internal_stringslite_Index, hb5, cond_true, cond_false, loopE_done, loopE_ret]
  rw [hM6]
  exact ⟨rfl, (Ex.refl w)⟩
 ·refine CW.cond_f rfl hb5 (CW.seq (CW.region (sd rfl (yl_move rfl rfl (sd rfl (yl_eql rfl rfl rfl (sd rfl (yl_assign rfl rfl (SeqR.done (tn (CW.cond_t rfl (decide_eq_true (by omega)) ?_)))))))))))
  refine CW.seq (CW.region (sd rfl (yl_move rfl rfl (sd rfl (yl_move rfl rfl (sd rfl (yl_sindexN Tryz.un9 (a := p_1) rfl rfl rfl (by first | omega | assumption | (simp only [IntKind.wrap_i64] at *; omega)) (sd rfl (yl_call Tryz.en155 rfl (opvs_cons rfl (opvs_cons rfl opvs_nil)) (Cal.mono (c_g_internal_stringslite_IndexByte p_0 ((p_1.getD 0 0).toNat : Int) o1) ?_))))))))))
  rintro v8 w7 ⟨rfl, hE9⟩
  have hE9z := Ex.size hE9
  refine sd rfl (yl_assign rfl rfl (SeqR.done (tn (CW.ret (br (tr (rr rfl (.cons rfl .nil) ?_)))))))
  have hM10 : (g_internal_stringslite_Index p_0 p_1) = ((g_internal_stringslite_IndexByte p_0 ((p_1.getD 0 0).toNat : Int))) := by simp only [g_internal_stringslite_Index, hb5, cond_true, cond_false, loopE_done, loopE_ret]
  rw [hM10]
  exact ⟨rfl, (Ex.trans (Ex.refl w) hE9)⟩
set_option maxRecDepth 100000 in
set_option maxHeartbeats 2000000 in
theorem c_g_internal_stringslite_Cut {w : World} (p_s : Str) (p_sep : Str) (o1 : okS p_s) (o2 : okS p_sep) (pre0 : p_sep.length = 1) : Cal Tryz.prog 146 #[.string (bs (p_s)), .string (bs (p_sep))] w fun v w' => v = .tuple #[.string (bs ((g_internal_stringslite_Cut p_s p_sep).1)), .string (bs ((g_internal_stringslite_Cut p_s p_sep).2.1)), .bool ((g_internal_stringslite_Cut p_s p_sep).2.2)] ∧ okS ((g_internal_stringslite_Cut p_s p_sep).1) ∧ okS ((g_internal_stringslite_Cut p_s p_sep).2.1) ∧ Ex w w' := by
 have hol3 : p_s.length ≤ 1073741824 := o1
 have hol4 : p_sep.length ≤ 1073741824 := o2
 refine Cal.of (vs := [.string (bs (p_s)), .string (bs (p_sep))]) Tryz.func146 rfl Tryz.ntmps146 rfl (CW.seq (CW.region (sd rfl (yl_assign rfl rfl (sd rfl (yl_assign rfl rfl (sd rfl (yl_assign rfl rfl (SeqR.done (tn (CW.seq ?_)))))))))))
 refine CW.seq (CW.region (sd rfl (yl_move rfl rfl (sd rfl (yl_move rfl rfl (sd rfl (yl_call Tryz.en154 rfl (opvs_cons rfl (opvs_cons rfl opvs_nil)) (Cal.mono (c_g_internal_stringslite_Index p_s p_sep o1 o2 (by first | omega | assumption | (simp only [IntKind.wrap_i64] at *; omega))) ?_))))))))
 rintro v6 w5 ⟨rfl, hE7⟩
 have hE7z := Ex.size hE7
 have hrf8 := rf_Index (s := p_s) (sub := p_sep) (by first | omega | assumption | (simp only [IntKind.wrap_i64] at *; omega))
 refine sd rfl (yl_assign rfl rfl (SeqR.done (tn (CW.seq (CW.region (sd rfl (yl_move rfl rfl (sd rfl (yl_geq rfl rfl rfl (SeqR.done (tn ?_)))))))))))
 refine bcase (decide (0 ≤ (g_internal_stringslite_Index p_s p_sep))) (fun hb9 => ?_) (fun hb9 => ?_)
 ·have hb9p := dec_t hb9
  have hb9q := f_Cut o1 pre0 hb9
  refine CW.cond_t rfl hb9 (CW.seq (CW.drawsI 12 (vgetI [DetI (.string (bs (p_s))), DetI (.int .i64 ((g_internal_stringslite_Index p_s p_sep))), DetI (.string (bs ((p_s.take (((g_internal_stringslite_Index p_s p_sep)).toNat))))), DetI (.string (bs (p_s))), DetI (.int .i64 ((g_internal_stringslite_Index p_s p_sep))), DetI (.string (bs (p_sep))), DetI (.int .i64 ((p_sep.length : Int))), DetI (.int .i64 (IntKind.wrap .i64 ((g_internal_stringslite_Index p_s p_sep) + (p_sep.length : Int)))), DetI (.string (bs ((p_s.drop ((IntKind.wrap .i64 ((g_internal_stringslite_Index p_s p_sep) + (p_sep.length : Int))).toNat))))), DetI (.string (bs ((p_s.take (((g_internal_stringslite_Index p_s p_sep)).toNat))))), DetI (.string (bs ((p_s.drop ((IntKind.wrap .i64 ((g_internal_stringslite_Index p_s p_sep) + (p_sep.length : Int))).toNat))))), DetI (.bool (true))]) Tryz.follows rfl rfl rfl rfl rfl rfl (vgetI_stable ⟨StableI.det _, StableI.det _, StableI.det _, StableI.det _, StableI.det _, StableI.det _, StableI.det _, StableI.det _, StableI.det _, StableI.det _, StableI.det _, StableI.det _, trivial⟩) ⟨?_, ?_, ?_, ?_, ?_, ?_, ?_, ?_, ?_, ?_, ?_, ?_, trivial⟩ ?_))
  ·exact fun _ _ h => os rfl ((yl_move rfl (h.old 0 _ rfl rfl) kI))
  ·exact fun _ _ h => os rfl ((yl_move rfl (h.old 7 _ rfl rfl) kI))
  ·intro L20 w21 hi22
   have hE23 := hi22.ex
   have hE23z := Ex.size hE23
   exact os rfl ((yl_sslice_hi Tryz.un9 (a := p_s) (h := ((g_internal_stringslite_Index p_s p_sep)).toNat) rfl (hi22.dt 0 13 rfl rfl rfl) (toNat_op (hi22.dt 1 14 rfl rfl rfl) (by omega)) (by omega) kI))
  ·exact fun _ _ h => os rfl ((yl_move rfl (h.old 0 _ rfl rfl) kI))
  ·exact fun _ _ h => os rfl ((yl_move rfl (h.old 7 _ rfl rfl) kI))
  ·exact fun _ _ h => os rfl ((yl_move rfl (h.old 1 _ rfl rfl) kI))
  ·exact fun _ _ h => os rfl ((yl_slen Tryz.un9 (a := p_sep) rfl (h.dt 5 18 rfl rfl rfl) kI))
  ·exact fun _ _ h => os rfl ((yl_add rfl (h.dt 4 17 rfl rfl rfl) (h.dt 6 19 rfl rfl rfl) kI))
  ·intro L52 w53 hi54
   have hE55 := hi54.ex
   have hE55z := Ex.size hE55
   exact os rfl ((yl_sslice_lo Tryz.un9 (a := p_s) (l := (IntKind.wrap .i64 ((g_internal_stringslite_Index p_s p_sep) + (p_sep.length : Int))).toNat) rfl (hi54.dt 3 16 rfl rfl rfl) (toNat_op (hi54.dt 7 20 rfl rfl rfl) (by omega)) (by omega) kI))
  ·exact fun _ _ h => os rfl ((yl_assign rfl (h.dt 2 15 rfl rfl rfl) kI))
  ·exact fun _ _ h => os rfl ((yl_assign rfl (h.dt 8 21 rfl rfl rfl) kI))
  ·exact fun _ _ h => os rfl ((yl_assign rfl rfl kI))
  ·intro fl75 fh76 L72 w73 hp74
   have hE77 := hp74.ex
   have hE77z := Ex.size hE77
   refine SeqR.done (tn (CW.sub (Sub.cons (d := 4) (hp74.nt 9 4 rfl rfl rfl) (Sub.cons (d := 5) (hp74.nt 10 5 rfl rfl rfl) (Sub.cons (d := 6) (hp74.nt 11 6 rfl rfl rfl) (Sub.nil _)))) (CW.ret (tr (rr rfl (.cons rfl (.cons rfl (.cons rfl .nil))) ?_)))))
   have hM81 : (g_internal_stringslite_Cut p_s p_sep) = (((p_s.take (((g_internal_stringslite_Index p_s p_sep)).toNat)), (p_s.drop ((IntKind.wrap .i64 ((g_internal_stringslite_Index p_s p_sep) + (p_sep.length : Int))).toNat)), true)) := by simp only [g_internal_stringslite_Cut, hb9, cond_true, cond_false, loopE_done, loopE_ret]
   rw [hM81]
   exact ⟨rfl, (okS.take o1 _), (okS.drop o1 _), (Ex.trans (Ex.trans (Ex.refl w) hE7) hE77)⟩
 ·have hb9p := dec_f hb9
  refine CW.cond_f rfl hb9 (CW.skip (tn (CW.seq (CW.region (sd rfl (yl_move rfl rfl (sd rfl (yl_assign rfl rfl (sd rfl (yl_assign rfl rfl (sd rfl (yl_assign rfl rfl ?_))))))))))))
  refine SeqR.done (tn (CW.ret (rr rfl (.cons rfl (.cons rfl (.cons rfl .nil))) ?_)))
  have hM84 : (g_internal_stringslite_Cut p_s p_sep) = ((p_s, ([] : Str), false)) := by simp only [g_internal_stringslite_Cut, hb9, cond_true, cond_false, loopE_done, loopE_ret]
  rw [hM84]
  exact ⟨rfl, o1, (okS.lit rfl), (Ex.trans (Ex.refl w) hE7)⟩
set_option maxRecDepth 100000 in
set_option maxHeartbeats 2000000 in
theorem c_g_strings_Cut {w : World} (p_s : Str) (p_sep : Str) (o1 : okS p_s) (o2 : okS p_sep) (pre0 : p_sep.length = 1) : Cal Tryz.prog 117 #[.string (bs (p_s)), .string (bs (p_sep))] w fun v w' => v = .tuple #[.string (bs ((g_strings_Cut p_s p_sep).1)), .string (bs ((g_strings_Cut p_s p_sep).2.1)), .bool ((g_strings_Cut p_s p_sep).2.2)] ∧ okS ((g_strings_Cut p_s p_sep).1) ∧ okS ((g_strings_Cut p_s p_sep).2.1) ∧ Ex w w' := by
 have hol3 : p_s.length ≤ 1073741824 := o1
 have hol4 : p_sep.length ≤ 1073741824 := o2
 refine Cal.of (vs := [.string (bs (p_s)), .string (bs (p_sep))]) Tryz.func117 rfl Tryz.ntmps117 rfl (CW.seq (CW.region (sd rfl (yl_assign rfl rfl (sd rfl (yl_assign rfl rfl (sd rfl (yl_assign rfl rfl (SeqR.done (tn (CW.seq ?_)))))))))))
 refine CW.region (sd rfl (yl_move rfl rfl (sd rfl (yl_move rfl rfl (sd rfl (yl_call Tryz.en146 rfl (opvs_cons rfl (opvs_cons rfl opvs_nil)) (Cal.mono (c_g_internal_stringslite_Cut p_s p_sep o1 o2 (by first | omega | assumption | (simp only [IntKind.wrap_i64] at *; omega))) ?_)))))))
 rintro v8 w5 ⟨rfl, ho6, ho7, hE9⟩
 have hE9z := Ex.size hE9
 refine sd rfl (yl_extract rfl rfl rfl (sd rfl (yl_extract rfl rfl rfl (sd rfl (yl_extract rfl rfl rfl (sd rfl (yl_assign rfl rfl (sd rfl (yl_assign rfl rfl (sd rfl (yl_assign rfl rfl (SeqR.done (tn (CW.ret ?_))))))))))))))
 refine rr rfl (.cons rfl (.cons rfl (.cons rfl .nil))) ?_
 have hM10 : (g_strings_Cut p_s p_sep) = (((g_internal_stringslite_Cut p_s p_sep).1, (g_internal_stringslite_Cut p_s p_sep).2.1, (g_internal_stringslite_Cut p_s p_sep).2.2)) := by simp only [g_strings_Cut, cond_true, cond_false, loopE_done, loopE_ret]
 rw [hM10]
 exact ⟨rfl, ho6, ho7, (Ex.trans (Ex.refl w) hE9)⟩
set_option maxRecDepth 100000 in
set_option maxHeartbeats 2000000 in
theorem c_i_isField {w : World} (p_s : Str) (o1 : okS p_s) : Cal Tryz.prog 118 #[.string (bs (p_s))] w fun v w' => v = .bool ((i_isField p_s)) ∧ Ex w w' := by
 have hol2 : p_s.length ≤ 1073741824 := o1
 refine Cal.of (vs := [.string (bs (p_s))]) Tryz.func118 rfl Tryz.ntmps118 rfl (CW.seq (CW.region (sd rfl (yl_assign rfl rfl (SeqR.done (tn (CW.seq (CW.region (sd rfl (yl_move rfl rfl ?_))))))))))
 refine sd rfl (yl_slen Tryz.un9 (a := p_s) rfl rfl (sd rfl (yl_call Tryz.en63 rfl (opvs_cons rfl (opvs_cons rfl (opvs_cons rfl opvs_nil))) (Cal.mono (c_i_within (p_s.length : Int) 1 3) ?_))))
 rintro v4 w3 ⟨rfl, hE5⟩
 have hE5z := Ex.size hE5
 refine sd rfl (yl_move rfl rfl (bcase (i_within (p_s.length : Int) 1 3) (fun hb6 => ?_) (fun hb6 => ?_)))
 ·have hb6p := f_within hb6
  refine sy rfl rfl hb6 (yl_move rfl rfl (sy rfl rfl hb6 (yl_call Tryz.en143 rfl (opvs_cons rfl (opvs_cons rfl opvs_nil)) (Cal.mono (c_i_hasBytes p_s ([] : Str) o1 (okS.lit rfl)) ?_))))
  rintro v8 w7 ⟨rfl, hE9⟩
  have hE9z := Ex.size hE9
  refine sd rfl (yl_pick_t rfl rfl hb6 rfl (sd rfl (yl_assign rfl rfl (SeqR.done (tn (CW.ret (rr rfl (.cons rfl .nil) ?_)))))))
  have hM10 : (i_isField p_s) = ((i_hasBytes p_s ([] : Str))) := by simp only [i_isField, hb6, cond_true, cond_false, loopE_done, loopE_ret]
  rw [hM10]
  exact ⟨rfl, (Ex.trans (Ex.trans (Ex.refl w) hE5) hE9)⟩
 ·refine sz rfl rfl hb6 (sz rfl rfl hb6 (sd rfl (yl_pick_f rfl rfl hb6 rfl (sd rfl (yl_assign rfl rfl (SeqR.done (tn (CW.ret (rr rfl (.cons rfl .nil) ?_)))))))))
  have hM13 : (i_isField p_s) = (false) := by simp only [i_isField, hb6, cond_true, cond_false, loopE_done, loopE_ret]
  rw [hM13]
  exact ⟨rfl, (Ex.trans (Ex.refl w) hE5)⟩
set_option maxRecDepth 100000 in
set_option maxHeartbeats 2000000 in
theorem c_i_Table_readIdxKey {A1 : Option Addr} {c1 : Nat} {A2 : Option Addr} {c2 : Nat} {w : World} (p_t : DTable) (p_name : Str) (p_key : Str) (h1 : RdS w (Iv 0 w.heap.size) (RF e_Str) 1 A1 p_t.Cols.length c1 p_t.Cols) (h2 : RdS w (Iv 0 w.heap.size) (RF e_Idx) 3 A2 p_t.Idxs.length c2 p_t.Idxs) (o3 : ok_Table p_t) (o4 : okS p_name) (o5 : okS p_key) (pre0 : (p_t.Name.length ≤ 1 ∧ p_name.length ≤ 1)) : Cal Tryz.prog 85 #[.agg #[.string (bs (p_t.Name)), .slice A1 p_t.Cols.length c1, .slice A2 p_t.Idxs.length c2], .string (bs (p_name)), .string (bs (p_key))] w fun v w' => v = .tuple #[.string (bs ((i_Table_readIdxKey p_t p_name p_key).1)), .string (bs ((i_Table_readIdxKey p_t p_name p_key).2.1)), .bool ((i_Table_readIdxKey p_t p_name p_key).2.2)] ∧ okS ((i_Table_readIdxKey p_t p_name p_key).1) ∧ okS ((i_Table_readIdxKey p_t p_name p_key).2.1) ∧ Ex w w' := by
 have hol6 : p_t.Name.length ≤ 1073741824 := o3.1
 have hol7 := o3.2.1.1
 have hol8 := o3.2.2.1
 have hol9 : p_name.length ≤ 1073741824 := o4
 have hol10 : p_key.length ≤ 1073741824 := o5
 refine Cal.of (vs := [.agg #[.string (bs (p_t.Name)), .slice A1 p_t.Cols.length c1, .slice A2 p_t.Idxs.length c2], .string (bs (p_name)), .string (bs (p_key))]) Tryz.func85 rfl Tryz.ntmps85 rfl (CW.seq (CW.region (sd rfl (yl_box (cs := [.string (bs (p_t.Name)), .slice A1 p_t.Cols.length c1, .slice A2 p_t.Idxs.length c2]) rfl rfl rfl ?_))))
 intro b11 w12 hs13 hz14 hB15 hE16
 refine sd rfl (yl_assign rfl rfl (sd rfl (yl_assign rfl rfl (sd rfl (yl_assign rfl rfl (SeqR.done (tn (CW.seq (CW.region (sd rfl (yl_move rfl rfl (sd rfl (yl_loadN (cs := [.string (bs (p_t.Name)), .slice A1 p_t.Cols.length c1, .slice A2 p_t.Idxs.length c2]) Tryz.ty95 rfl rfl (hB15.cells (n := 3) rfl) rfl ?_)))))))))))))
 refine sd rfl (yl_move rfl rfl (sd rfl (yl_call Tryz.en116 rfl (opvs_cons rfl (opvs_cons rfl opvs_nil)) (Cal.mono (c_i_Table_idxHead p_t p_name (RdS.up (RdS.ex good_Str h1 hE16) good_Str) (RdS.up (RdS.ex good_Idx h2 hE16) good_Idx) o3 o4) ?_))))
 rintro v20 w19 ⟨rfl, hE21⟩
 have hE21z := Ex.size hE21
 have hrf22 := rf_idxHead p_t p_name
 refine sd rfl (yl_call Tryz.en115 rfl (opvs_cons rfl (opvs_cons rfl opvs_nil)) (Cal.mono (c_g_strings_CutPrefix p_key (i_Table_idxHead p_t p_name) o5 (okS_idxHead pre0)) ?_))
 rintro v25 w23 ⟨rfl, ho24, hE26⟩
 have hE26z := Ex.size hE26
 refine sd rfl (yl_move rfl rfl (sd rfl (yl_extract rfl rfl rfl (sd rfl (yl_extract rfl rfl rfl (sd rfl (yl_assign rfl rfl (sd rfl (yl_assign rfl rfl (SeqR.done (tn (CW.seq (CW.region ?_)))))))))))))
 refine sd rfl (yl_move rfl rfl (sd rfl (yl_call Tryz.en117 rfl (opvs_cons rfl (opvs_cons rfl opvs_nil)) (Cal.mono (c_g_strings_Cut ((g_strings_CutPrefix p_key (i_Table_idxHead p_t p_name)).1) ([47] : Str) ho24 (okS.lit rfl) rfl) ?_))))
 rintro v30 w27 ⟨rfl, ho28, ho29, hE31⟩
 have hE31z := Ex.size hE31
 refine sd rfl (yl_move rfl rfl (sd rfl (yl_extract rfl rfl rfl (sd rfl (yl_extract rfl rfl rfl (sd rfl (yl_extract rfl rfl rfl (sd rfl (yl_assign rfl rfl (sd rfl (yl_assign rfl rfl (sd rfl (yl_assign rfl rfl (SeqR.done (tn ?_)))))))))))))))
 refine CW.seq (CW.seq (CW.region (sd rfl (yl_move rfl rfl (sd rfl (yl_not rfl rfl (sd rfl (yl_move rfl rfl (bcase ((g_strings_CutPrefix p_key (i_Table_idxHead p_t p_name)).2) (fun hb32 => ?_) (fun hb32 => ?_))))))))))
 ·refine sy rfl rfl (not_t hb32) (yl_move rfl rfl (sy rfl rfl (not_t hb32) (yl_not rfl rfl (sd rfl (yl_pick_f rfl rfl (not_t hb32) rfl (sd rfl (yl_move rfl rfl (bcase ((g_strings_Cut ((g_strings_CutPrefix p_key (i_Table_idxHead p_t p_name)).1) ([47] : Str)).2.2) (fun hb33 => ?_) (fun hb33 => ?_)))))))))
  ·refine sy rfl rfl (not_t hb33) (yl_move rfl rfl (sy rfl rfl (not_t hb33) (yl_call Tryz.en118 rfl (opvs_cons rfl opvs_nil) (Cal.mono (c_i_isField ((g_strings_Cut ((g_strings_CutPrefix p_key (i_Table_idxHead p_t p_name)).1) ([47] : Str)).1) ho28) ?_))))
   rintro v35 w34 ⟨rfl, hE36⟩
   have hE36z := Ex.size hE36
   refine sy rfl rfl (not_t hb33) (yl_not rfl rfl (sd rfl (yl_pick_f rfl rfl (not_t hb33) rfl (sd rfl (yl_move rfl rfl (bcase (i_isField ((g_strings_Cut ((g_strings_CutPrefix p_key (i_Table_idxHead p_t p_name)).1) ([47] : Str)).1)) (fun hb37 => ?_) (fun hb37 => ?_)))))))
   ·refine sy rfl rfl (not_t hb37) (yl_move rfl rfl (sy rfl rfl (not_t hb37) (yl_call Tryz.en118 rfl (opvs_cons rfl opvs_nil) (Cal.mono (c_i_isField ((g_strings_Cut ((g_strings_CutPrefix p_key (i_Table_idxHead p_t p_name)).1) ([47] : Str)).2.1) ho29) ?_))))
    rintro v39 w38 ⟨rfl, hE40⟩
    have hE40z := Ex.size hE40
    refine sy rfl rfl (not_t hb37) (yl_not rfl rfl (sd rfl (yl_pick_f rfl rfl (not_t hb37) rfl (SeqR.done (tn (bcase (i_isField ((g_strings_Cut ((g_strings_CutPrefix p_key (i_Table_idxHead p_t p_name)).1) ([47] : Str)).2.1)) (fun hb41 => ?_) (fun hb41 => ?_)))))))
    ·refine CW.cond_f rfl (not_t hb41) (CW.skip (tn (CW.seq (CW.region (sd rfl (yl_move rfl rfl (sd rfl (yl_move rfl rfl (sd rfl (yl_assign rfl rfl (sd rfl (yl_assign rfl rfl ?_))))))))))))
     refine sd rfl (yl_assign rfl rfl (SeqR.done (tn (CW.ret (rr rfl (.cons rfl (.cons rfl (.cons rfl .nil))) ?_)))))
     have hM42 : (i_Table_readIdxKey p_t p_name p_key) = (((g_strings_Cut ((g_strings_CutPrefix p_key (i_Table_idxHead p_t p_name)).1) ([47] : Str)).1, (g_strings_Cut ((g_strings_CutPrefix p_key (i_Table_idxHead p_t p_name)).1) ([47] : Str)).2.1, true)) := by simp only [i_Table_readIdxKey, hb32, hb33, hb37, hb41, cond_true, cond_false, loopE_done, loopE_ret]
     rw [hM42]
     exact ⟨rfl, ho28, ho29, (Ex.trans (Ex.trans (Ex.trans (Ex.trans (Ex.trans (Ex.trans (Ex.refl w) hE16) hE21) hE26) hE31) hE36) hE40)⟩
    ·refine CW.cond_t rfl (not_f hb41) (CW.seq (CW.region (sd rfl (yl_assign rfl rfl (sd rfl (yl_assign rfl rfl (sd rfl (yl_assign rfl rfl (SeqR.done (tn (CW.ret ?_)))))))))))
     refine tr (rr rfl (.cons rfl (.cons rfl (.cons rfl .nil))) ?_)
     have hM49 : (i_Table_readIdxKey p_t p_name p_key) = ((([] : Str), ([] : Str), false)) := by simp only [i_Table_readIdxKey, hb32, hb33, hb37, hb41, cond_true, cond_false, loopE_done, loopE_ret]
     rw [hM49]
     exact ⟨rfl, (okS.lit rfl), (okS.lit rfl), (Ex.trans (Ex.trans (Ex.trans (Ex.trans (Ex.trans (Ex.trans (Ex.refl w) hE16) hE21) hE26) hE31) hE36) hE40)⟩
   ·refine sz rfl rfl (not_f hb37) (sz rfl rfl (not_f hb37) (sz rfl rfl (not_f hb37) (sd rfl (yl_pick_t rfl rfl (not_f hb37) rfl (SeqR.done (tn (CW.cond_t rfl rfl (CW.seq (CW.region ?_)))))))))
    refine sd rfl (yl_assign rfl rfl (sd rfl (yl_assign rfl rfl (sd rfl (yl_assign rfl rfl (SeqR.done (tn (CW.ret (tr (rr rfl (.cons rfl (.cons rfl (.cons rfl .nil))) ?_))))))))))
    have hM56 : (i_Table_readIdxKey p_t p_name p_key) = ((([] : Str), ([] : Str), false)) := by simp only [i_Table_readIdxKey, hb32, hb33, hb37, cond_true, cond_false, loopE_done, loopE_ret]
    rw [hM56]
    exact ⟨rfl, (okS.lit rfl), (okS.lit rfl), (Ex.trans (Ex.trans (Ex.trans (Ex.trans (Ex.trans (Ex.refl w) hE16) hE21) hE26) hE31) hE36)⟩
  ·refine sz rfl rfl (not_f hb33) (sz rfl rfl (not_f hb33) (sz rfl rfl (not_f hb33) (sd rfl (yl_pick_t rfl rfl (not_f hb33) rfl (sd rfl (yl_move rfl rfl (sz rfl rfl rfl (sz rfl rfl rfl (sz rfl rfl rfl (sd rfl (yl_pick_t rfl rfl rfl rfl ?_)))))))))))
   refine SeqR.done (tn (CW.cond_t rfl rfl (CW.seq (CW.region (sd rfl (yl_assign rfl rfl (sd rfl (yl_assign rfl rfl (sd rfl (yl_assign rfl rfl (SeqR.done ?_)))))))))))
   refine tn (CW.ret (tr (rr rfl (.cons rfl (.cons rfl (.cons rfl .nil))) ?_)))
   have hM62 : (i_Table_readIdxKey p_t p_name p_key) = ((([] : Str), ([] : Str), false)) := by simp only [i_Table_readIdxKey, hb32, hb33, cond_true, cond_false, loopE_done, loopE_ret]
   rw [hM62]
   exact ⟨rfl, (okS.lit rfl), (okS.lit rfl), (Ex.trans (Ex.trans (Ex.trans (Ex.trans (Ex.refl w) hE16) hE21) hE26) hE31)⟩
 ·refine sz rfl rfl (not_f hb32) (sz rfl rfl (not_f hb32) (sd rfl (yl_pick_t rfl rfl (not_f hb32) rfl (sd rfl (yl_move rfl rfl (sz rfl rfl rfl (sz rfl rfl rfl (sz rfl rfl rfl (sd rfl (yl_pick_t rfl rfl rfl rfl (sd rfl (yl_move rfl rfl ?_))))))))))))
  refine sz rfl rfl rfl (sz rfl rfl rfl (sz rfl rfl rfl (sd rfl (yl_pick_t rfl rfl rfl rfl (SeqR.done (tn (CW.cond_t rfl rfl (CW.seq (CW.region ?_)))))))))
  refine sd rfl (yl_assign rfl rfl (sd rfl (yl_assign rfl rfl (sd rfl (yl_assign rfl rfl (SeqR.done (tn (CW.ret (tr (rr rfl (.cons rfl (.cons rfl (.cons rfl .nil))) ?_))))))))))
  have hM67 : (i_Table_readIdxKey p_t p_name p_key) = ((([] : Str), ([] : Str), false)) := by simp only [i_Table_readIdxKey, hb32, cond_true, cond_false, loopE_done, loopE_ret]
  rw [hM67]
  exact ⟨rfl, (okS.lit rfl), (okS.lit rfl), (Ex.trans (Ex.trans (Ex.trans (Ex.trans (Ex.refl w) hE16) hE21) hE26) hE31)⟩
set_option maxRecDepth 100000 in
set_option maxHeartbeats 2000000 in
theorem c_i_Table_entriesIn {A1 : Option Addr} {c1 : Nat} {A2 : Option Addr} {c2 : Nat} {A5 : Option Addr} {c5 : Nat} {w : World} (p_t : DTable) (p_name : Str) (p_store : List DWrite) (h1 : RdS w (Iv 0 w.heap.size) (RF e_Str) 1 A1 p_t.Cols.length c1 p_t.Cols) (h2 : RdS w (Iv 0 w.heap.size) (RF e_Idx) 3 A2 p_t.Idxs.length c2 p_t.Idxs) (h5 : RdS w (Iv 0 w.heap.size) (RF e_Write) 3 A5 p_store.length c5 p_store) (o3 : ok_Table p_t) (o4 : okS p_name) (o6 : (okL ok_Write) p_store) (pre0 : (p_t.Name.length ≤ 1 ∧ p_name.length ≤ 1)) : Cal Tryz.prog 49 #[.agg #[.string (bs (p_t.Name)), .slice A1 p_t.Cols.length c1, .slice A2 p_t.Idxs.length c2], .string (bs (p_name)), .slice A5 p_store.length c5] w fun v w' => ∃ A_1 c_1 lo_1 hi_1, v = .slice A_1 ((i_Table_entriesIn p_t p_name p_store).length) c_1 ∧ OwnL w' lo_1 hi_1 9 1 (RF e_Str) A_1 ((i_Table_entriesIn p_t p_name p_store).length) c_1 (i_Table_entriesIn p_t p_name p_store) ∧ (okL okS) (i_Table_entriesIn p_t p_name p_store) ∧ (w.heap.size ≤ lo_1 ∧ lo_1 ≤ hi_1 ∧ hi_1 ≤ w'.heap.size) ∧ Ex w w' := by
 have hol7 : p_t.Name.length ≤ 1073741824 := o3.1
 have hol8 := o3.2.1.1
 have hol9 := o3.2.2.1
 have hol10 : p_name.length ≤ 1073741824 := o4
 have hol11 := o6.1
 refine Cal.of (vs := [.agg #[.string (bs (p_t.Name)), .slice A1 p_t.Cols.length c1, .slice A2 p_t.Idxs.length c2], .string (bs (p_name)), .slice A5 p_store.length c5]) Tryz.func49 rfl Tryz.ntmps49 rfl (CW.seq (CW.region (sd rfl (yl_box (cs := [.string (bs (p_t.Name)), .slice A1 p_t.Cols.length c1, .slice A2 p_t.Idxs.length c2]) rfl rfl rfl ?_))))
 intro b12 w13 hs14 hz15 hB16 hE17
 refine sd rfl (yl_assign rfl rfl (SeqR.done (tn (CW.seq (CW.region (sd rfl (yl_buildSlice (cs := []) Tryz.un27 Tryz.ty9 (by decide) rfl opvs_nil (by kernel_rfl) ?_)))))))
 intro b18 w19 hs20 hz21 hB22 hE23
 have hO24 : OwnL w19 b18 (b18 + 1) 9 1 (RF e_Str) (some ⟨b18, 0, none⟩) 0 0 ([] : List Str) := OwnL.of_box (S := fun _ => False) hB22 (Nat.le_refl _) (Nat.lt_succ_self _) EncL.nil (Nat.le_of_ble_eq_true rfl) (fun h => h) (fun _ h => False.elim h)
 refine sd rfl (yl_assign rfl rfl (SeqR.done (tn (CW.seq (CW.seq (CW.region (sd rfl (yl_move rfl rfl (sd rfl (yl_len Tryz.un38 rfl rfl (sd rfl (yl_move rfl rfl ?_))))))))))))
 refine SeqR.done (tn (CW.block (CW.loop (fun m91 L92 w93 => ∃ (k25 : Nat) (x87 : List Str) (A88 : Option Addr) (c89 : Nat) (u90 : Nat), m91 = p_store.length - k25 ∧ k25 ≤ p_store.length ∧ w19.heap.size ≤ w93.heap.size ∧ lkp L92 1 = some (.string (bs (p_name))) ∧ lkp L92 3 = some (.pointer (some ⟨b12, 0, none⟩)) ∧ lkp L92 7 = some (.slice A88 x87.length c89) ∧ lkp L92 14 = some (.slice A5 p_store.length c5) ∧ lkp L92 15 = some (.int .i64 ((p_store.length : Int))) ∧ lkp L92 16 = some (.int .i64 ((k25 : Int))) ∧ Box w93 b12 95 [.string (bs (p_t.Name)), .slice A1 p_t.Cols.length c1, .slice A2 p_t.Idxs.length c2] ∧ RdS w93 (Iv 0 w.heap.size) (RF e_Str) 1 A1 p_t.Cols.length c1 p_t.Cols ∧ RdS w93 (Iv 0 w.heap.size) (RF e_Idx) 3 A2 p_t.Idxs.length c2 p_t.Idxs ∧ OwnL w93 b18 u90 9 1 (RF e_Str) A88 x87.length c89 x87 ∧ RdS w93 (Iv 0 w.heap.size) (RF e_Write) 3 A5 p_store.length c5 p_store ∧ Ex w w93 ∧ (b18 ≤ u90 ∧ u90 ≤ w93.heap.size) ∧ x87.length ≤ 0 + 1 * (k25 - 0) ∧ (∀ y ∈ x87, okS y) ∧ loopM (B_i_Table_entriesIn_0 p_t p_name p_store) (p_store.length - k25) k25 (x87) = loopM (B_i_Table_entriesIn_0 p_t p_name p_store) (p_store.length - 0) 0 (([] : List Str))) (p_store.length - 0) ?_ ?_)))
 ·exact ⟨0, ([] : List Str), (some ⟨b18, 0, none⟩), 0, (b18 + 1), rfl, (by omega), Nat.le_refl _, rfl, rfl, rfl, rfl, rfl, rfl, (Box.ex hB16 hE23), (RdS.ex good_Str (RdS.ex good_Str h1 hE17) hE23), (RdS.ex good_Idx (RdS.ex good_Idx h2 hE17) hE23), hO24, (RdS.ex good_Write (RdS.ex good_Write h5 hE17) hE23), (Ex.trans (Ex.trans (Ex.refl w) hE17) hE23), (by omega), (by first | (simp; done) | (first | omega | (simp only [List.length_append, List.length_cons, List.length_nil, List.length_set, toS_length]; omega))), okE.nil, rfl⟩
 ·rintro m103 L104 w105 ⟨k25, x87, A88, c89, u90, rfl, hk106, hsz108, hl109, hl110, hl111, hl112, hl113, hl114, hf115, hf116, hf117, hf118, hf119, hf120, hu121, hln122, hok123, hI107⟩
  refine CW.sub (Sub.cons hl109 (Sub.cons hl110 (Sub.cons hl111 (Sub.cons hl112 (Sub.cons hl113 (Sub.cons hl114 (Sub.nil _))))))) ?_
  have hf115z := Box.lt hf115
  have hf120z := Ex.size hf120
  have hbg124 := RdS.big hf119
  rcases Nat.lt_or_ge k25 p_store.length with hlt125 | hlt125
  ·refine CW.seq (CW.region (sd rfl (yl_lss rfl rfl rfl (SeqR.done (tn (CW.seq (CW.cond_t rfl (lt_t hlt125) (CW.skip (tn ?_)))))))))
   refine CW.seq (CW.block (CW.seq (CW.region ?_)))
   obtain ⟨eb126, eo126, ec126, eA126, eS126, ebl126, el126, eR126, eC126⟩ := RdS.atD hf119 d_Write (i := k25) (by first | omega | assumption)
   obtain rfl := eR126
   have eC126 : Cells w105 eb126 (eo126 + k25 * 3) [.string (bs ((p_store.getD k25 d_Write).Key)), .string (bs ((p_store.getD k25 d_Write).Val)), .bool ((p_store.getD k25 d_Write).Gone)] := eC126
   refine sd rfl (yl_indexAddrN Tryz.un38 Tryz.ty112 rfl rfl rfl eA126 (by first | omega | assumption | (simp only [IntKind.wrap_i64] at *; omega)) (sd rfl (yl_loadN (cs := [.string (bs ((p_store.getD k25 d_Write).Key)), .string (bs ((p_store.getD k25 d_Write).Val)), .bool ((p_store.getD k25 d_Write).Gone)]) Tryz.ty112 rfl rfl eC126 rfl (sd rfl (yl_alloc Tryz.ty112 (cs := [.string (bs (([] : Str))), .string (bs (([] : Str))), .bool (false)]) rfl rfl ?_)))))
   intro b127 w128 hs129 hz130 hB131 hE132
   refine SeqR.u rfl rfl (yl_store (vs := [.string (bs ((p_store.getD k25 d_Write).Key)), .string (bs ((p_store.getD k25 d_Write).Val)), .bool ((p_store.getD k25 d_Write).Gone)]) Tryz.ty112 rfl rfl rfl rfl rfl rfl hB131 (Nat.le_of_ble_eq_true rfl) ?_)
   intro w133 hB134 hO135
   have hB134 : Box w133 b127 112 [.string (bs ((p_store.getD k25 d_Write).Key)), .string (bs ((p_store.getD k25 d_Write).Val)), .bool ((p_store.getD k25 d_Write).Gone)] := hB134
   have hO135z := hO135.size
   refine SeqR.done (tn (CW.seq (CW.region ?_)))
   have q137 := Box.only (Box.ex hf115 hE132) hO135 (by omega)
   refine sd rfl (yl_loadN (cs := [.string (bs (p_t.Name)), .slice A1 p_t.Cols.length c1, .slice A2 p_t.Idxs.length c2]) Tryz.ty95 rfl rfl (q137.cells (n := 3) rfl) rfl (sd rfl (yl_move rfl rfl (sd rfl (yl_fieldAddr Tryz.fd112_0 rfl rfl (sd rfl (yl_load1 Tryz.ty9 rfl rfl ((hB134.cell 0).trans rfl) ?_)))))))
   have q139 := RdS.only good_Str (RdS.ex good_Str hf116 hE132) hO135 (by simp only [Iv]; omega)
   have q141 := RdS.only good_Idx (RdS.ex good_Idx hf117 hE132) hO135 (by simp only [Iv]; omega)
   refine sd rfl (yl_call Tryz.en85 rfl (opvs_cons rfl (opvs_cons rfl (opvs_cons rfl opvs_nil))) (Cal.mono (c_i_Table_readIdxKey p_t p_name ((p_store.getD k25 d_Write).Key) (RdS.up q139 good_Str) (RdS.up q141 good_Idx) o3 o4 ((okL.getD o6 ok_d_Write _).1) (by first | omega | assumption | (simp only [IntKind.wrap_i64] at *; omega))) ?_))
   rintro v145 w142 ⟨rfl, ho143, ho144, hE146⟩
   have hE146z := Ex.size hE146
   refine sd rfl (yl_move rfl rfl (sd rfl (yl_extract rfl rfl rfl (sd rfl (yl_extract rfl rfl rfl (sd rfl (yl_extract rfl rfl rfl (sd rfl (yl_assign rfl rfl (sd rfl (yl_assign rfl rfl (sd rfl (yl_assign rfl rfl (SeqR.done (tn ?_)))))))))))))))
   refine CW.seq (CW.region (sd rfl (yl_move rfl rfl (SeqR.done (tn (bcase ((i_Table_readIdxKey p_t p_name ((p_store.getD k25 d_Write).Key)).2.2) (fun hb147 => ?_) (fun hb147 => ?_)))))))
   ·refine CW.cond_t rfl hb147 (CW.region (sd rfl (yl_move rfl rfl (sd rfl (yl_fieldAddr Tryz.fd112_0 rfl rfl (sd rfl (yl_load1 Tryz.ty9 rfl rfl (((Box.ex hB134 hE146).cell 0).trans rfl) (sd rfl (yl_buildSlice (cs := [.string (bs ((p_store.getD k25 d_Write).Key))]) Tryz.un27 Tryz.ty9 (by decide) rfl (opvs_cons rfl opvs_nil) (by kernel_rfl) ?_)))))))))
    intro b149 w150 hs151 hz152 hB153 hE154
    have hO155 : OwnL w150 b149 (b149 + 1) 9 1 (RF e_Str) (some ⟨b149, 0, none⟩) 1 1 ([(p_store.getD k25 d_Write).Key] : List Str) := OwnL.of_box (S := fun _ => False) hB153 (Nat.le_refl _) (Nat.lt_succ_self _) (EncL.cons (c := [.string (bs ((p_store.getD k25 d_Write).Key))]) rfl rfl EncL.nil) (Nat.le_of_ble_eq_true rfl) (fun h => h) (fun _ h => False.elim h)
    refine sd rfl (yl_appendL (S := (fun _ => False)) (lo := b18) (hi := u90) (xs := x87) (ys := ([(p_store.getD k25 d_Write).Key] : List Str)) good_Str Tryz.un27 Tryz.ty9 rfl (Nat.le_of_ble_eq_true rfl) rfl rfl rfl (OwnL.ex good_Str (OwnL.ex good_Str (OwnL.only good_Str (OwnL.ex good_Str hf118 hE132) hO135 (by omega)) hE146) hE154) (EncL.cons (c := [.string (bs ((p_store.getD k25 d_Write).Key))]) rfl rfl EncL.nil) (Or.inr ⟨_, _, rfl, rfl, hB153.cells (o := 0) (n := 1) rfl⟩) rfl (by first | omega | (simp only [List.length_append, List.length_cons, List.length_nil, List.length_take, List.length_drop, List.length_replicate, List.length_set, toS_length]; omega)) (by first | omega | (simp only [List.length_append, List.length_cons, List.length_nil, List.length_take, List.length_drop, List.length_replicate, List.length_set, toS_length]; omega)) (by omega) (by omega) (fun _ h _ => False.elim h) (by omega) ?_)
    intro A160 c161 w162 row163 hO164 hG165 hrg166
    have hG165z := hG165.size
    refine sd rfl (yl_assign rfl rfl (SeqR.done (bn (tn (CW.region (sd rfl (yl_inc rfl rfl rfl (by omega) (sd rfl (yl_move rfl rfl (SeqR.done (tn ?_)))))))))))
    have hB167 : B_i_Table_entriesIn_0 p_t p_name p_store k25 (x87) = .cont ((x87 ++ ([(p_store.getD k25 d_Write).Key] : List Str))) := by simp only [B_i_Table_entriesIn_0, hb147, cond_true, cond_false, loopE_done, loopE_ret]
    exact ⟨p_store.length - (k25 + 1), by omega, k25 + 1, (x87 ++ ([(p_store.getD k25 d_Write).Key] : List Str)), A160, c161, w162.heap.size, rfl, hlt125, (by omega), rfl, rfl, rfl, rfl, rfl, rfl, (Box.grown (Box.ex (Box.ex q137 hE146) hE154) hG165 (fun k hk => by have := hrg166 k hk; omega)), (RdS.grown good_Str (RdS.ex good_Str (RdS.ex good_Str q139 hE146) hE154) hG165 (fun k hk => by have := hrg166 k hk; simp only [Iv]; omega)), (RdS.grown good_Idx (RdS.ex good_Idx (RdS.ex good_Idx q141 hE146) hE154) hG165 (fun k hk => by have := hrg166 k hk; simp only [Iv]; omega)), hO164, (RdS.grown good_Write (RdS.ex good_Write (RdS.ex good_Write (RdS.only good_Write (RdS.ex good_Write hf119 hE132) hO135 (by simp only [Iv]; omega)) hE146) hE154) hG165 (fun k hk => by have := hrg166 k hk; simp only [Iv]; omega)), (Below.grown (Ex.trans (Ex.trans (Below.only (Ex.trans hf120 hE132) hO135 (by omega)) hE146) hE154) hG165 (by omega) (fun k hk => by have := hrg166 k hk; omega)), (by omega), (by first | omega | (simp only [List.length_append, List.length_cons, List.length_nil, List.length_set, toS_length]; omega)), (okE.append hok123 ((okL.mk (Nat.le_of_ble_eq_true rfl) (okE.cons (okL.getD o6 ok_d_Write _).1 okE.nil))).2), (loopM.cont hlt125 hB167).symm.trans hI107⟩
   ·refine CW.cond_f rfl hb147 (CW.skip (bn (tn (CW.region (sd rfl (yl_inc rfl rfl rfl (by omega) (sd rfl (yl_move rfl rfl (SeqR.done (tn ?_))))))))))
    have hB187 : B_i_Table_entriesIn_0 p_t p_name p_store k25 (x87) = .cont (x87) := by simp only [B_i_Table_entriesIn_0, hb147, cond_true, cond_false, loopE_done, loopE_ret]
    exact ⟨p_store.length - (k25 + 1), by omega, k25 + 1, x87, A88, c89, u90, rfl, hlt125, (by omega), rfl, rfl, rfl, rfl, rfl, rfl, (Box.ex q137 hE146), (RdS.ex good_Str q139 hE146), (RdS.ex good_Idx q141 hE146), (OwnL.ex good_Str (OwnL.only good_Str (OwnL.ex good_Str hf118 hE132) hO135 (by omega)) hE146), (RdS.ex good_Write (RdS.only good_Write (RdS.ex good_Write hf119 hE132) hO135 (by simp only [Iv]; omega)) hE146), (Ex.trans (Below.only (Ex.trans hf120 hE132) hO135 (by omega)) hE146), (by omega), (by first | omega | (simp only [List.length_append, List.length_cons, List.length_nil, List.length_set, toS_length]; omega)), hok123, (loopM.cont hlt125 hB187).symm.trans hI107⟩
  ·refine CW.seq (CW.region (sd rfl (yl_lss rfl rfl rfl (SeqR.done (tn (CW.seq (CW.cond_f rfl (lt_f hlt125) (CW.exit (tx ?_)))))))))
   refine tx ?_
   have hL200 : loopM (B_i_Table_entriesIn_0 p_t p_name p_store) (p_store.length - 0) 0 (([] : List Str)) = .done (x87) := hI107.symm.trans (loopM.stop hlt125)
   refine bx (tn (CW.seq (CW.region (sd rfl (yl_move rfl rfl (sd rfl (yl_assign rfl rfl (SeqR.done (tn (CW.ret ?_))))))))))
   refine rr rfl (.cons rfl .nil) ?_
   have hM201 : (i_Table_entriesIn p_t p_name p_store) = (x87) := by simp only [i_Table_entriesIn, hL200, cond_true, cond_false, loopE_done, loopE_ret]
   rw [hM201]
   exact ⟨A88, c89, b18, u90, rfl, hf118, (okL.mk (xs := x87) (by first | omega | (simp only [List.length_append, List.length_cons, List.length_nil, List.length_take, List.length_drop, List.length_replicate, List.length_set, toS_length]; omega)) hok123), (by omega), hf120⟩
set_option maxRecDepth 100000 in
set_option maxHeartbeats 2000000 in
theorem c_i_IsCleared_c1 {A2 : Option Addr} {c2 : Nat} {A3 : Option Addr} {c3 : Nat} {A4 : Option Addr} {c4 : Nat} {b5 : Nat} {w : World} (p_key : Str) (p_cap0 : DWork) (h2 : RdS w (Iv 0 w.heap.size) R_Table 3 A2 p_cap0.Shift.Ways.length c2 p_cap0.Shift.Ways) (h3 : RdS w (Iv 0 w.heap.size) (RF e_Int) 1 A3 p_cap0.Shift.At.length c3 p_cap0.Shift.At) (h4 : RdS w (Iv 0 w.heap.size) (RF e_Write) 3 A4 p_cap0.Shift.Store.length c4 p_cap0.Shift.Store) (h6 : Box w b5 62 [.string (bs (p_cap0.Shift.Name)), .slice A2 p_cap0.Shift.Ways.length c2, .slice A3 p_cap0.Shift.At.length c3, .slice A4 p_cap0.Shift.Store.length c4, .string (bs (p_cap0.Up.Last)), .bool (p_cap0.Up.Over), .string (bs (p_cap0.Down.Last)), .bool (p_cap0.Down.Over)]) (o1 : okS p_key) (o7 : ok_Work p_cap0) : Cal Tryz.prog 50 #[.string (bs (p_key)), .pointer (some ⟨b5, 0, none⟩)] w fun v w' => v = .bool ((i_IsCleared_c1 p_key p_cap0)) ∧ Ex w w' := by
 have hol8 : p_key.length ≤ 1073741824 := o1
 have hol9 : p_cap0.Shift.Name.length ≤ 1073741824 := o7.1.1
 have hol10 := o7.1.2.1.1
 have hol11 := o7.1.2.2.1.1
 have hol12 := o7.1.2.2.2.1
 have hol13 : p_cap0.Up.Last.length ≤ 1073741824 := o7.2.1
 have hol14 : p_cap0.Down.Last.length ≤ 1073741824 := o7.2.2
 refine Cal.of (vs := [.string (bs (p_key)), .pointer (some ⟨b5, 0, none⟩)]) Tryz.func50 rfl Tryz.ntmps50 rfl (CW.seq (CW.region (sd rfl (yl_assign rfl rfl (SeqR.done (tn (CW.seq (CW.region (sd rfl (yl_fieldAddr Tryz.fd62_2 rfl rfl ?_))))))))))
 refine sd rfl (yl_fieldAddr Tryz.fd60_1 rfl rfl (sd rfl (yl_load1 Tryz.ty4 rfl rfl ((h6.cell 7).trans rfl) (sd rfl (yl_move rfl rfl (bcase (p_cap0.Down.Over) (fun hb15 => ?_) (fun hb15 => ?_)))))))
 ·refine sz rfl rfl hb15 (sz rfl rfl hb15 (sz rfl rfl hb15 (sz rfl rfl hb15 (sz rfl rfl hb15 (sd rfl (yl_pick_t rfl rfl hb15 rfl (sd rfl (yl_assign rfl rfl (SeqR.done (tn ?_))))))))))
  refine CW.ret (rr rfl (.cons rfl .nil) ?_)
  have hM16 : (i_IsCleared_c1 p_key p_cap0) = (true) := by simp only [i_IsCleared_c1, hb15, cond_true, cond_false, loopE_done, loopE_ret]
  rw [hM16]
  exact ⟨rfl, (Ex.refl w)⟩
 ·refine sy rfl rfl hb15 (yl_move rfl rfl (sy rfl rfl hb15 (yl_fieldAddr Tryz.fd62_2 rfl rfl (sy rfl rfl hb15 (yl_fieldAddr Tryz.fd60_0 rfl rfl (sy rfl rfl hb15 (yl_load1 Tryz.ty9 rfl rfl ((h6.cell 6).trans rfl) (sy rfl rfl hb15 (yl_sleq (a := p_key) (b := p_cap0.Down.Last) rfl rfl rfl (sd rfl (yl_pick_f rfl rfl hb15 rfl (sd rfl (yl_assign rfl rfl (SeqR.done (tn ?_)))))))))))))))
  refine CW.ret (rr rfl (.cons rfl .nil) ?_)
  have hM17 : (i_IsCleared_c1 p_key p_cap0) = (sLe p_key p_cap0.Down.Last) := by simp only [i_IsCleared_c1, hb15, cond_true, cond_false, loopE_done, loopE_ret]
  rw [hM17]
  exact ⟨rfl, (Ex.refl w)⟩
set_option maxRecDepth 100000 in
set_option maxHeartbeats 2000000 in
theorem c_i_IsCleared {A1 : Option Addr} {c1 : Nat} {A2 : Option Addr} {c2 : Nat} {A3 : Option Addr} {c3 : Nat} {w : World} (p_w : DWork) (h1 : RdS w (Iv 0 w.heap.size) R_Table 3 A1 p_w.Shift.Ways.length c1 p_w.Shift.Ways) (h2 : RdS w (Iv 0 w.heap.size) (RF e_Int) 1 A2 p_w.Shift.At.length c2 p_w.Shift.At) (h3 : RdS w (Iv 0 w.heap.size) (RF e_Write) 3 A3 p_w.Shift.Store.length c3 p_w.Shift.Store) (o4 : ok_Work p_w) : Cal Tryz.prog 23 #[.agg #[.string (bs (p_w.Shift.Name)), .slice A1 p_w.Shift.Ways.length c1, .slice A2 p_w.Shift.At.length c2, .slice A3 p_w.Shift.Store.length c3, .string (bs (p_w.Up.Last)), .bool (p_w.Up.Over), .string (bs (p_w.Down.Last)), .bool (p_w.Down.Over)]] w fun v w' => v = .tuple #[.bool ((i_IsCleared p_w).1), .bool ((i_IsCleared p_w).2)] ∧ Ex w w' := by
 have hol5 : p_w.Shift.Name.length ≤ 1073741824 := o4.1.1
 have hol6 := o4.1.2.1.1
 have hol7 := o4.1.2.2.1.1
 have hol8 := o4.1.2.2.2.1
 have hol9 : p_w.Up.Last.length ≤ 1073741824 := o4.2.1
 have hol10 : p_w.Down.Last.length ≤ 1073741824 := o4.2.2
 refine Cal.of (vs := [.agg #[.string (bs (p_w.Shift.Name)), .slice A1 p_w.Shift.Ways.length c1, .slice A2 p_w.Shift.At.length c2, .slice A3 p_w.Shift.Store.length c3, .string (bs (p_w.Up.Last)), .bool (p_w.Up.Over), .string (bs (p_w.Down.Last)), .bool (p_w.Down.Over)]]) Tryz.func23 rfl Tryz.ntmps23 rfl (CW.seq (CW.region (sd rfl (yl_box (cs := [.string (bs (p_w.Shift.Name)), .slice A1 p_w.Shift.Ways.length c1, .slice A2 p_w.Shift.At.length c2, .slice A3 p_w.Shift.Store.length c3, .string (bs (p_w.Up.Last)), .bool (p_w.Up.Over), .string (bs (p_w.Down.Last)), .bool (p_w.Down.Over)]) rfl rfl rfl ?_))))
 intro b11 w12 hs13 hz14 hB15 hE16
 refine sd rfl (yl_assign rfl rfl (sd rfl (yl_assign rfl rfl (SeqR.done (tn (CW.seq (CW.seq (CW.region (sd rfl (yl_loadN (cs := [.string (bs (p_w.Shift.Name)), .slice A1 p_w.Shift.Ways.length c1, .slice A2 p_w.Shift.At.length c2, .slice A3 p_w.Shift.Store.length c3, .string (bs (p_w.Up.Last)), .bool (p_w.Up.Over), .string (bs (p_w.Down.Last)), .bool (p_w.Down.Over)]) Tryz.ty62 rfl rfl (hB15.cells (n := 8) rfl) rfl ?_))))))))))
 have q17 := RdS.ex good_Table h1 hE16
 have q18 := RdS.ex good_Int h2 hE16
 have q19 := RdS.ex good_Write h3 hE16
 refine sd rfl (yl_call Tryz.en44 rfl (opvs_cons rfl opvs_nil) (Cal.mono (c_i_GoodWork p_w (RdS.up q17 good_Table) (RdS.up q18 good_Int) (RdS.up q19 good_Write) o4) ?_))
 rintro v21 w20 ⟨rfl, hE22⟩
 have hE22z := Ex.size hE22
 refine sd rfl (yl_not rfl rfl (SeqR.done (tn (bcase (i_GoodWork p_w) (fun hb23 => ?_) (fun hb23 => ?_)))))
 ·have hb23p := f_i_cleared hb23
  refine CW.cond_f rfl (not_t hb23) (CW.skip (tn (CW.seq (CW.region (sd rfl (yl_fieldAddr Tryz.fd62_0 rfl rfl ?_))))))
  have q24 := Box.ex hB15 hE22
  refine sd rfl (yl_loadN (cs := [.string (bs (p_w.Shift.Name)), .slice A1 p_w.Shift.Ways.length c1, .slice A2 p_w.Shift.At.length c2, .slice A3 p_w.Shift.Store.length c3]) Tryz.ty40 rfl rfl (q24.cells (n := 4) rfl) rfl (sd rfl (yl_alloc Tryz.ty40 (cs := [.string (bs (([] : Str))), .slice none 0 0, .slice none 0 0, .slice none 0 0]) rfl rfl ?_)))
  intro b25 w26 hs27 hz28 hB29 hE30
  refine SeqR.u rfl rfl (yl_store (vs := [.string (bs (p_w.Shift.Name)), .slice A1 p_w.Shift.Ways.length c1, .slice A2 p_w.Shift.At.length c2, .slice A3 p_w.Shift.Store.length c3]) Tryz.ty40 rfl rfl rfl rfl rfl rfl hB29 (Nat.le_of_ble_eq_true rfl) ?_)
  intro w31 hB32 hO33
  have hB32 : Box w31 b25 40 [.string (bs (p_w.Shift.Name)), .slice A1 p_w.Shift.Ways.length c1, .slice A2 p_w.Shift.At.length c2, .slice A3 p_w.Shift.Store.length c3] := hB32
  have hO33z := hO33.size
  refine SeqR.done (tn (CW.seq ?_))
  have q36 := RdS.only good_Table (RdS.ex good_Table (RdS.ex good_Table q17 hE22) hE30) hO33 (by simp only [Iv]; omega)
  obtain ⟨eb37, eo37, ec37, eA37, eS37, ebl37, el37, eR37, eC37⟩ := RdS.atD q36 d_Table (i := 0) (by first | omega | assumption)
  obtain ⟨A38, c38, A39, c39, rfl, h38, h39⟩ := eR37
  have eC37 : Cells w31 eb37 (eo37 + 0 * 3) [.string (bs ((p_w.Shift.Ways.getD 0 d_Table).Name)), .slice A38 (((p_w.Shift.Ways.getD 0 d_Table).Cols).length) c38, .slice A39 (((p_w.Shift.Ways.getD 0 d_Table).Idxs).length) c39] := eC37
  have q42 := RdS.only good_Write (RdS.ex good_Write (RdS.ex good_Write q19 hE22) hE30) hO33 (by simp only [Iv]; omega)
  refine CW.drawsI 14 (vgetI [DetI (.pointer (some ⟨b25, 0 + 1, none⟩)), DetI (.slice A1 p_w.Shift.Ways.length c1), DetI (.pointer (some ⟨eb37, eo37 + 0 * 3, none⟩)), DetI (.agg #[.string (bs ((p_w.Shift.Ways.getD 0 d_Table).Name)), .slice A38 (((p_w.Shift.Ways.getD 0 d_Table).Cols).length) c38, .slice A39 (((p_w.Shift.Ways.getD 0 d_Table).Idxs).length) c39]), DetI (.pointer (some ⟨b25, 0 + 0, none⟩)), DetI (.string (bs (p_w.Shift.Name))), DetI (.pointer (some ⟨b25, 0 + 3, none⟩)), DetI (.slice A3 p_w.Shift.Store.length c3), fun lo hi v wq => ∃ A44 c44 lo44 hi44, v = .slice A44 ((i_Table_entriesIn (p_w.Shift.Ways.getD 0 d_Table) p_w.Shift.Name p_w.Shift.Store).length) c44 ∧ OwnL wq lo44 hi44 9 1 (RF e_Str) A44 ((i_Table_entriesIn (p_w.Shift.Ways.getD 0 d_Table) p_w.Shift.Name p_w.Shift.Store).length) c44 (i_Table_entriesIn (p_w.Shift.Ways.getD 0 d_Table) p_w.Shift.Name p_w.Shift.Store) ∧ (okL okS) (i_Table_entriesIn (p_w.Shift.Ways.getD 0 d_Table) p_w.Shift.Name p_w.Shift.Store) ∧ (lo ≤ lo44 ∧ lo44 ≤ hi44 ∧ hi44 ≤ hi), DetI (.func (.func 50) #[] #[.pointer (some ⟨b11, 0, none⟩)]), DetI (.bool ((g_slices_ContainsFunc_string (i_Table_entriesIn (p_w.Shift.Ways.getD 0 d_Table) p_w.Shift.Name p_w.Shift.Store) (fun y0 => i_IsCleared_c1 y0 p_w)))), DetI (.bool (!(g_slices_ContainsFunc_string (i_Table_entriesIn (p_w.Shift.Ways.getD 0 d_Table) p_w.Shift.Name p_w.Shift.Store) (fun y0 => i_IsCleared_c1 y0 p_w)))), DetI (.bool (!(g_slices_ContainsFunc_string (i_Table_entriesIn (p_w.Shift.Ways.getD 0 d_Table) p_w.Shift.Name p_w.Shift.Store) (fun y0 => i_IsCleared_c1 y0 p_w)))), DetI (.bool (true))]) Tryz.follows rfl rfl rfl rfl rfl rfl (vgetI_stable ⟨StableI.det _, StableI.det _, StableI.det _, StableI.det _, StableI.det _, StableI.det _, StableI.det _, StableI.det _, (fun _ _ _ _ _ ⟨A44, c44, lo44, hi44, hv, h44, ho45, hr0⟩ e => ⟨A44, c44, lo44, hi44, hv, OwnL.ex good_Str h44 e, ho45, hr0⟩), StableI.det _, StableI.det _, StableI.det _, StableI.det _, StableI.det _, trivial⟩) ⟨?_, ?_, ?_, ?_, ?_, ?_, ?_, ?_, ?_, ?_, ?_, ?_, ?_, ?_, trivial⟩ ?_
  ·exact fun _ _ h => os rfl ((yl_fieldAddr Tryz.fd40_1 rfl (h.old 4 _ rfl rfl) kI))
  ·exact fun _ _ h => os rfl ((yl_load1 Tryz.ty37 rfl (h.dt 0 10 rfl rfl rfl) (((Box.ex hB32 h.ex).cell 1).trans rfl) kI))
  ·intro L63 w64 hi65
   have hE66 := hi65.ex
   have hE66z := Ex.size hE66
   exact os rfl ((yl_indexAddrN Tryz.un37 Tryz.ty95 rfl (hi65.dt 1 11 rfl rfl rfl) rfl eA37 (by first | omega | assumption | (simp only [IntKind.wrap_i64] at *; omega)) kI))
  ·exact fun _ _ h => os rfl ((yl_loadN (cs := [.string (bs ((p_w.Shift.Ways.getD 0 d_Table).Name)), .slice A38 (((p_w.Shift.Ways.getD 0 d_Table).Cols).length) c38, .slice A39 (((p_w.Shift.Ways.getD 0 d_Table).Idxs).length) c39]) Tryz.ty95 rfl (h.dt 2 12 rfl rfl rfl) (Cells.ex eC37 h.ex) rfl kI))
  ·exact fun _ _ h => os rfl ((yl_fieldAddr Tryz.fd40_0 rfl (h.old 4 _ rfl rfl) kI))
  ·exact fun _ _ h => os rfl ((yl_load1 Tryz.ty9 rfl (h.dt 4 14 rfl rfl rfl) (((Box.ex hB32 h.ex).cell 0).trans rfl) kI))
  ·exact fun _ _ h => os rfl ((yl_fieldAddr Tryz.fd40_3 rfl (h.old 4 _ rfl rfl) kI))
  ·exact fun _ _ h => os rfl ((yl_load1 Tryz.ty38 rfl (h.dt 6 16 rfl rfl rfl) (((Box.ex hB32 h.ex).cell 3).trans rfl) kI))
  ·intro L96 w97 hi98
   have hE99 := hi98.ex
   have hE99z := Ex.size hE99
   refine OpR.op' rfl (yl_call Tryz.en49 rfl (opvs_cons (hi98.dt 3 13 rfl rfl rfl) (opvs_cons (hi98.dt 5 15 rfl rfl rfl) (opvs_cons (hi98.dt 7 17 rfl rfl rfl) opvs_nil))) (Cal.mono (c_i_Table_entriesIn (p_w.Shift.Ways.getD 0 d_Table) p_w.Shift.Name p_w.Shift.Store (RdS.up (RdS.ex good_Str h38 hE99) good_Str) (RdS.up (RdS.ex good_Idx h39 hE99) good_Idx) (RdS.up (RdS.ex good_Write q42 hE99) good_Write) (okL.getD o4.1.2.1 ok_d_Table _) o4.1.1 o4.1.2.2.2 (by first | omega | assumption | (simp only [IntKind.wrap_i64] at *; omega))) ?_))
   rintro v109 w106 ⟨A107, c107, lo107, hi107, rfl, h107, ho108, hrn111, hE110⟩
   exact ⟨⟨A107, c107, lo107, hi107, rfl, h107, ho108, hrn111⟩, hE110⟩
  ·exact fun _ _ h => os rfl ((yl_makeFunc rfl (opvs_cons (h.old 1 _ rfl rfl) opvs_nil) kI))
  ·intro L117 w118 hi119
   have hE120 := hi119.ex
   have hE120z := Ex.size hE120
   obtain ⟨lo122, hh123, _, hx121, hr124, hr125, hr126, A44_127, c44_128, lo44_129, hi44_130, rfl, h131, h132, hrn133⟩ := hi119.dep 8 18 rfl rfl
   refine OpR.op' rfl (yl_call Tryz.en48 rfl (opvs_cons hx121 (opvs_cons (hi119.dt 9 19 rfl rfl rfl) opvs_nil)) (Cal.mono (c_g_slices_ContainsFunc_string (i_Table_entriesIn (p_w.Shift.Ways.getD 0 d_Table) p_w.Shift.Name p_w.Shift.Store) (fun y0 => i_IsCleared_c1 y0 p_w) (RdS.up (OwnL.rd good_Str h131) good_Str) Tryz.en50 (fun _ y0 => fun hE hm0 ov0 => c_i_IsCleared_c1 y0 p_w (RdS.up (RdS.ex good_Table (RdS.ex good_Table q36 hE120) hE) good_Table) (RdS.up (RdS.ex good_Int (RdS.ex good_Int (RdS.only good_Int (RdS.ex good_Int (RdS.ex good_Int q18 hE22) hE30) hO33 (by simp only [Iv]; omega)) hE120) hE) good_Int) (RdS.up (RdS.ex good_Write (RdS.ex good_Write q42 hE120) hE) good_Write) (Box.ex (Box.ex (Box.only (Box.ex q24 hE30) hO33 (by omega)) hE120) hE) ov0 o4) h132) ?_))
   rintro v141 w140 ⟨rfl, hE142⟩
   exact ⟨rfl, hE142⟩
  ·exact fun _ _ h => os rfl ((yl_not rfl (h.dt 10 20 rfl rfl rfl) kI))
  ·exact fun _ _ h => os rfl ((yl_assign rfl (h.dt 11 21 rfl rfl rfl) kI))
  ·exact fun _ _ h => os rfl ((yl_assign rfl rfl kI))
  ·intro fl160 fh161 L157 w158 hp159
   have hE162 := hp159.ex
   have hE162z := Ex.size hE162
   have hr164 := hp159.rng 8 rfl
   obtain ⟨_, hx163, A44_165, c44_166, lo44_167, hi44_168, rfl, h169, h170, hrn171⟩ := hp159.new 8 18 rfl rfl
   refine SeqR.done (tn (CW.sub (Sub.cons (d := 2) (hp159.nt 12 2 rfl rfl rfl) (Sub.cons (d := 3) (hp159.nt 13 3 rfl rfl rfl) (Sub.nil _))) (CW.ret (rr rfl (.cons rfl (.cons rfl .nil)) ?_))))
   have hM174 : (i_IsCleared p_w) = ((!(g_slices_ContainsFunc_string (i_Table_entriesIn (p_w.Shift.Ways.getD 0 d_Table) p_w.Shift.Name p_w.Shift.Store) (fun y0 => i_IsCleared_c1 y0 p_w)), true)) := by simp only [i_IsCleared, hb23, cond_true, cond_false, loopE_done, loopE_ret]
   rw [hM174]
   exact ⟨rfl, (Ex.trans (Below.only (Ex.trans (Ex.trans (Ex.trans (Ex.refl w) hE16) hE22) hE30) hO33 (by omega)) hE162)⟩
 ·refine CW.cond_t rfl (not_f hb23) (CW.seq (CW.region (sd rfl (yl_assign rfl rfl (sd rfl (yl_assign rfl rfl (SeqR.done (tn (CW.ret (tr ?_))))))))))
  refine rr rfl (.cons rfl (.cons rfl .nil)) ?_
  have hM180 : (i_IsCleared p_w) = ((false, false)) := by simp only [i_IsCleared, hb23, cond_true, cond_false, loopE_done, loopE_ret]
  rw [hM180]
  exact ⟨rfl, (Ex.trans (Ex.trans (Ex.refl w) hE16) hE22)⟩
set_option maxRecDepth 100000 in
set_option maxHeartbeats 2000000 in
theorem c_l_FnExactIsCleared {A1 : Option Addr} {c1 : Nat} {A2 : Option Addr} {c2 : Nat} {A3 : Option Addr} {c3 : Nat} {w : World} (p_aW : DWork) (h1 : RdS w (Iv 0 w.heap.size) R_Table 3 A1 p_aW.Shift.Ways.length c1 p_aW.Shift.Ways) (h2 : RdS w (Iv 0 w.heap.size) (RF e_Int) 1 A2 p_aW.Shift.At.length c2 p_aW.Shift.At) (h3 : RdS w (Iv 0 w.heap.size) (RF e_Write) 3 A3 p_aW.Shift.Store.length c3 p_aW.Shift.Store) (pre0 : wf_Work p_aW) : Cal Tryz.prog 5 #[.agg #[.string (bs (p_aW.Shift.Name)), .slice A1 p_aW.Shift.Ways.length c1, .slice A2 p_aW.Shift.At.length c2, .slice A3 p_aW.Shift.Store.length c3, .string (bs (p_aW.Up.Last)), .bool (p_aW.Up.Over), .string (bs (p_aW.Down.Last)), .bool (p_aW.Down.Over)]] w fun v w' => v = .bool ((l_FnExactIsCleared p_aW)) ∧ Ex w w' := by
 refine Cal.of (vs := [.agg #[.string (bs (p_aW.Shift.Name)), .slice A1 p_aW.Shift.Ways.length c1, .slice A2 p_aW.Shift.At.length c2, .slice A3 p_aW.Shift.Store.length c3, .string (bs (p_aW.Up.Last)), .bool (p_aW.Up.Over), .string (bs (p_aW.Down.Last)), .bool (p_aW.Down.Over)]]) Tryz.func5 rfl Tryz.ntmps5 rfl (CW.seq (CW.region (sd rfl (yl_box (cs := [.string (bs (p_aW.Shift.Name)), .slice A1 p_aW.Shift.Ways.length c1, .slice A2 p_aW.Shift.At.length c2, .slice A3 p_aW.Shift.Store.length c3, .string (bs (p_aW.Up.Last)), .bool (p_aW.Up.Over), .string (bs (p_aW.Down.Last)), .bool (p_aW.Down.Over)]) rfl rfl rfl ?_))))
 intro b4 w5 hs6 hz7 hB8 hE9
 refine sd rfl (yl_assign rfl rfl (SeqR.done (tn (CW.seq (CW.region (sd rfl (yl_assign rfl rfl (SeqR.done (tn (CW.seq ?_))))))))))
 refine CW.region (sd rfl (yl_loadN (cs := [.string (bs (p_aW.Shift.Name)), .slice A1 p_aW.Shift.Ways.length c1, .slice A2 p_aW.Shift.At.length c2, .slice A3 p_aW.Shift.Store.length c3, .string (bs (p_aW.Up.Last)), .bool (p_aW.Up.Over), .string (bs (p_aW.Down.Last)), .bool (p_aW.Down.Over)]) Tryz.ty54 rfl rfl (hB8.cells (n := 8) rfl) rfl (sd rfl (yl_move rfl rfl ?_))))
 have q10 := RdS.ex good_Table h1 hE9
 have q11 := RdS.ex good_Int h2 hE9
 have q12 := RdS.ex good_Write h3 hE9
 refine sd rfl (yl_call Tryz.en14 rfl (opvs_cons rfl (opvs_cons rfl opvs_nil)) (Cal.mono (c_l_szWork p_aW 1048576 (RdS.up q10 good_Table) (RdS.up q11 good_Int) (RdS.up q12 good_Write)) ?_))
 rintro v14 w13 ⟨rfl, hE15⟩
 have hE15z := Ex.size hE15
 refine sd rfl (yl_assign rfl rfl (SeqR.done (tn (CW.seq (CW.seq (CW.region (sd rfl (yl_move rfl rfl (sd rfl (yl_lss rfl rfl rfl (SeqR.done ?_)))))))))))
 refine tn (bcase (decide ((l_szWork p_aW 1048576) < 0)) (fun hb16 => ?_) (fun hb16 => ?_))
 ·have hb16p := dec_t hb16
  refine CW.cond_t rfl hb16 (CW.seq (CW.region (sd rfl (yl_assign rfl rfl (SeqR.done (tn (CW.ret (tr (rr rfl (.cons rfl .nil) ?_)))))))))
  have hM17 : (l_FnExactIsCleared p_aW) = (true) := by simp only [l_FnExactIsCleared, hb16, cond_true, cond_false, loopE_done, loopE_ret]
  rw [hM17]
  exact ⟨rfl, (Ex.trans (Ex.trans (Ex.refl w) hE9) hE15)⟩
 ·have hb16p := dec_f hb16
  refine CW.cond_f rfl hb16 (CW.skip (tn (CW.seq (CW.region ?_))))
  have q20 := Box.ex hB8 hE15
  refine sd rfl (yl_loadN (cs := [.string (bs (p_aW.Shift.Name)), .slice A1 p_aW.Shift.Ways.length c1, .slice A2 p_aW.Shift.At.length c2, .slice A3 p_aW.Shift.Store.length c3, .string (bs (p_aW.Up.Last)), .bool (p_aW.Up.Over), .string (bs (p_aW.Down.Last)), .bool (p_aW.Down.Over)]) Tryz.ty54 rfl rfl (q20.cells (n := 8) rfl) rfl ?_)
  have q21 := RdS.ex good_Table q10 hE15
  have q22 := RdS.ex good_Int q11 hE15
  have q23 := RdS.ex good_Write q12 hE15
  refine sd rfl (yl_call Tryz.en17 rfl (opvs_cons rfl opvs_nil) (Cal.mono (c_l_toWork p_aW (RdS.up q21 good_Table) (RdS.up q22 good_Int) (RdS.up q23 good_Write) ((szok_Work pre0 (by decide) (dec_f hb16)).1)) ?_))
  rintro v28 w24 ⟨A25, c25, lo25, hi25, A26, c26, lo26, hi26, A27, c27, lo27, hi27, rfl, h25, h26, h27, hrn30, hrn31, hrn32, hrn33, hrn34, hrn35, hE29⟩
  have hE29z := Ex.size hE29
  refine sd rfl (yl_call Tryz.en22 rfl (opvs_cons rfl opvs_nil) (Cal.mono (c_s_IsCleared p_aW (RdS.up (OwnL.rd good_Table h25) good_Table) (RdS.up (OwnL.rd good_Int h26) good_Int) (RdS.up (OwnL.rd good_Write h27) good_Write) ((szok_Work pre0 (by decide) (dec_f hb16)).1)) ?_))
  rintro v40 w39 ⟨rfl, hE41⟩
  have hE41z := Ex.size hE41
  refine sd rfl (yl_move rfl rfl (sd rfl (yl_extract rfl rfl rfl (sd rfl (yl_extract rfl rfl rfl (sd rfl (yl_assign rfl rfl (sd rfl (yl_assign rfl rfl (SeqR.done (tn (CW.seq (CW.region ?_)))))))))))))
  have q43 := Box.ex (Box.ex q20 hE29) hE41
  refine sd rfl (yl_loadN (cs := [.string (bs (p_aW.Shift.Name)), .slice A1 p_aW.Shift.Ways.length c1, .slice A2 p_aW.Shift.At.length c2, .slice A3 p_aW.Shift.Store.length c3, .string (bs (p_aW.Up.Last)), .bool (p_aW.Up.Over), .string (bs (p_aW.Down.Last)), .bool (p_aW.Down.Over)]) Tryz.ty54 rfl rfl (q43.cells (n := 8) rfl) rfl ?_)
  have q45 := RdS.ex good_Table (RdS.ex good_Table q21 hE29) hE41
  have q47 := RdS.ex good_Int (RdS.ex good_Int q22 hE29) hE41
  have q49 := RdS.ex good_Write (RdS.ex good_Write q23 hE29) hE41
  refine sd rfl (yl_call Tryz.en17 rfl (opvs_cons rfl opvs_nil) (Cal.mono (c_l_toWork p_aW (RdS.up q45 good_Table) (RdS.up q47 good_Int) (RdS.up q49 good_Write) ((szok_Work pre0 (by decide) (dec_f hb16)).1)) ?_))
  rintro v54 w50 ⟨A51, c51, lo51, hi51, A52, c52, lo52, hi52, A53, c53, lo53, hi53, rfl, h51, h52, h53, hrn56, hrn57, hrn58, hrn59, hrn60, hrn61, hE55⟩
  have hE55z := Ex.size hE55
  refine sd rfl (yl_alloc Tryz.ty62 (cs := [.string (bs (([] : Str))), .slice none 0 0, .slice none 0 0, .slice none 0 0, .string (bs (([] : Str))), .bool (false), .string (bs (([] : Str))), .bool (false)]) rfl rfl ?_)
  intro b62 w63 hs64 hz65 hB66 hE67
  refine SeqR.u rfl rfl (yl_store (vs := [.string (bs (p_aW.Shift.Name)), .slice A51 p_aW.Shift.Ways.length c51, .slice A52 p_aW.Shift.At.length c52, .slice A53 p_aW.Shift.Store.length c53, .string (bs (p_aW.Up.Last)), .bool (p_aW.Up.Over), .string (bs (p_aW.Down.Last)), .bool (p_aW.Down.Over)]) Tryz.ty62 rfl rfl rfl rfl rfl rfl hB66 (Nat.le_of_ble_eq_true rfl) ?_)
  intro w68 hB69 hO70
  have hB69 : Box w68 b62 62 [.string (bs (p_aW.Shift.Name)), .slice A51 p_aW.Shift.Ways.length c51, .slice A52 p_aW.Shift.At.length c52, .slice A53 p_aW.Shift.Store.length c53, .string (bs (p_aW.Up.Last)), .bool (p_aW.Up.Over), .string (bs (p_aW.Down.Last)), .bool (p_aW.Down.Over)] := hB69
  have hO70z := hO70.size
  refine SeqR.done (tn (CW.seq (CW.region (sd rfl (yl_loadN (cs := [.string (bs (p_aW.Shift.Name)), .slice A51 p_aW.Shift.Ways.length c51, .slice A52 p_aW.Shift.At.length c52, .slice A53 p_aW.Shift.Store.length c53, .string (bs (p_aW.Up.Last)), .bool (p_aW.Up.Over), .string (bs (p_aW.Down.Last)), .bool (p_aW.Down.Over)]) Tryz.ty62 rfl rfl (hB69.cells (n := 8) rfl) rfl ?_)))))
  have q73 := OwnL.only good_Table (OwnL.ex good_Table h51 hE67) hO70 (by omega)
  have q76 := OwnL.only good_Int (OwnL.ex good_Int h52 hE67) hO70 (by omega)
  have q79 := OwnL.only good_Write (OwnL.ex good_Write h53 hE67) hO70 (by omega)
  refine sd rfl (yl_call Tryz.en23 rfl (opvs_cons rfl opvs_nil) (Cal.mono (c_i_IsCleared p_aW (RdS.up (OwnL.rd good_Table q73) good_Table) (RdS.up (OwnL.rd good_Int q76) good_Int) (RdS.up (OwnL.rd good_Write q79) good_Write) ((szok_Work pre0 (by decide) (dec_f hb16)).1)) ?_))
  rintro v81 w80 ⟨rfl, hE82⟩
  have hE82z := Ex.size hE82
  refine sd rfl (yl_move rfl rfl (sd rfl (yl_extract rfl rfl rfl (sd rfl (yl_extract rfl rfl rfl (sd rfl (yl_assign rfl rfl (sd rfl (yl_assign rfl rfl (SeqR.done (tn (CW.seq (CW.seq ?_)))))))))))))
  refine CW.region (sd rfl (yl_move rfl rfl (sd rfl (yl_move rfl rfl (sd rfl (yl_bneq Tryz.un4 rfl rfl rfl (sd rfl (yl_move rfl rfl (bcase (((i_IsCleared p_aW).1) == ((s_IsCleared p_aW).1)) (fun hb83 => ?_) (fun hb83 => ?_))))))))))
  ·refine sy rfl rfl (not_t hb83) (yl_move rfl rfl (sy rfl rfl (not_t hb83) (yl_move rfl rfl (sy rfl rfl (not_t hb83) (yl_bneq Tryz.un4 rfl rfl rfl (sd rfl (yl_pick_f rfl rfl (not_t hb83) rfl (SeqR.done (tn (bcase (((i_IsCleared p_aW).2) == ((s_IsCleared p_aW).2)) (fun hb84 => ?_) (fun hb84 => ?_)))))))))))
   ·refine CW.cond_f rfl (not_t hb84) (CW.skip (tn (CW.seq (CW.seq (CW.drawsI 5 (vgetI [DetI (.agg #[.string (bs (p_aW.Shift.Name)), .slice A51 p_aW.Shift.Ways.length c51, .slice A52 p_aW.Shift.At.length c52, .slice A53 p_aW.Shift.Store.length c53, .string (bs (p_aW.Up.Last)), .bool (p_aW.Up.Over), .string (bs (p_aW.Down.Last)), .bool (p_aW.Down.Over)]), DetI (.agg #[.string (bs (p_aW.Shift.Name)), .slice A1 p_aW.Shift.Ways.length c1, .slice A2 p_aW.Shift.At.length c2, .slice A3 p_aW.Shift.Store.length c3, .string (bs (p_aW.Up.Last)), .bool (p_aW.Up.Over), .string (bs (p_aW.Down.Last)), .bool (p_aW.Down.Over)]), fun lo hi v wq => ∃ A103 c103 lo103 hi103 A104 c104 lo104 hi104 A105 c105 lo105 hi105, v = .agg #[.string (bs (p_aW.Shift.Name)), .slice A103 p_aW.Shift.Ways.length c103, .slice A104 p_aW.Shift.At.length c104, .slice A105 p_aW.Shift.Store.length c105, .string (bs (p_aW.Up.Last)), .bool (p_aW.Up.Over), .string (bs (p_aW.Down.Last)), .bool (p_aW.Down.Over)] ∧ OwnL wq lo103 hi103 95 3 R_Table A103 p_aW.Shift.Ways.length c103 p_aW.Shift.Ways ∧ OwnL wq lo104 hi104 3 1 (RF e_Int) A104 p_aW.Shift.At.length c104 p_aW.Shift.At ∧ OwnL wq lo105 hi105 112 3 (RF e_Write) A105 p_aW.Shift.Store.length c105 p_aW.Shift.Store ∧ (lo ≤ lo103 ∧ lo103 ≤ hi103 ∧ hi103 ≤ hi) ∧ (lo ≤ lo104 ∧ lo104 ≤ hi104 ∧ hi104 ≤ hi) ∧ (lo ≤ lo105 ∧ lo105 ≤ hi105 ∧ hi105 ≤ hi) ∧ (hi103 ≤ lo104 ∨ hi104 ≤ lo103) ∧ (hi103 ≤ lo105 ∨ hi105 ≤ lo103) ∧ (hi104 ≤ lo105 ∨ hi105 ≤ lo104), DetI (.bool ((l_eqWork p_aW p_aW))), DetI (.bool (!(l_eqWork p_aW p_aW)))]) Tryz.follows rfl rfl rfl rfl rfl rfl (vgetI_stable ⟨StableI.det _, StableI.det _, (fun _ _ _ _ _ ⟨A103, c103, lo103, hi103, A104, c104, lo104, hi104, A105, c105, lo105, hi105, hv, h103, h104, h105, hr0, hr1, hr2, hr3, hr4, hr5⟩ e => ⟨A103, c103, lo103, hi103, A104, c104, lo104, hi104, A105, c105, lo105, hi105, hv, OwnL.ex good_Table h103 e, OwnL.ex good_Int h104 e, OwnL.ex good_Write h105 e, hr0, hr1, hr2, hr3, hr4, hr5⟩), StableI.det _, StableI.det _, trivial⟩) ⟨?_, ?_, ?_, ?_, ?_, trivial⟩ ?_)))))
    ·exact fun _ _ h => os rfl ((yl_loadN (cs := [.string (bs (p_aW.Shift.Name)), .slice A51 p_aW.Shift.Ways.length c51, .slice A52 p_aW.Shift.At.length c52, .slice A53 p_aW.Shift.Store.length c53, .string (bs (p_aW.Up.Last)), .bool (p_aW.Up.Over), .string (bs (p_aW.Down.Last)), .bool (p_aW.Down.Over)]) Tryz.ty62 rfl (h.old 6 _ rfl rfl) ((Box.ex (Box.ex hB69 hE82) h.ex).cells (n := 8) rfl) rfl kI))
    ·intro L119 w120 hi121
     have hE122 := hi121.ex
     have hE122z := Ex.size hE122
     exact os rfl ((yl_loadN (cs := [.string (bs (p_aW.Shift.Name)), .slice A1 p_aW.Shift.Ways.length c1, .slice A2 p_aW.Shift.At.length c2, .slice A3 p_aW.Shift.Store.length c3, .string (bs (p_aW.Up.Last)), .bool (p_aW.Up.Over), .string (bs (p_aW.Down.Last)), .bool (p_aW.Down.Over)]) Tryz.ty54 rfl (hi121.old 1 _ rfl rfl) ((Box.ex (Box.ex (Box.only (Box.ex (Box.ex q43 hE55) hE67) hO70 (by omega)) hE82) hE122).cells (n := 8) rfl) rfl kI))
    ·intro L125 w126 hi127
     have hE128 := hi127.ex
     have hE128z := Ex.size hE128
     refine OpR.op' rfl (yl_call Tryz.en17 rfl (opvs_cons (hi127.dt 1 36 rfl rfl rfl) opvs_nil) (Cal.mono (c_l_toWork p_aW (RdS.up (RdS.ex good_Table (RdS.ex good_Table (RdS.only good_Table (RdS.ex good_Table (RdS.ex good_Table q45 hE55) hE67) hO70 (by simp only [Iv]; omega)) hE82) hE128) good_Table) (RdS.up (RdS.ex good_Int (RdS.ex good_Int (RdS.only good_Int (RdS.ex good_Int (RdS.ex good_Int q47 hE55) hE67) hO70 (by simp only [Iv]; omega)) hE82) hE128) good_Int) (RdS.up (RdS.ex good_Write (RdS.ex good_Write (RdS.only good_Write (RdS.ex good_Write (RdS.ex good_Write q49 hE55) hE67) hO70 (by simp only [Iv]; omega)) hE82) hE128) good_Write) ((szok_Work pre0 (by decide) (dec_f hb16)).1)) ?_))
     rintro v137 w133 ⟨A134, c134, lo134, hi134, A135, c135, lo135, hi135, A136, c136, lo136, hi136, rfl, h134, h135, h136, hrn139, hrn140, hrn141, hrn142, hrn143, hrn144, hE138⟩
     exact ⟨⟨A134, c134, lo134, hi134, A135, c135, lo135, hi135, A136, c136, lo136, hi136, rfl, h134, h135, h136, hrn139, hrn140, hrn141, hrn142, hrn143, hrn144⟩, hE138⟩
    ·intro L145 w146 hi147
     have hE148 := hi147.ex
     obtain ⟨lo151, hh152, _, hx150, hr153, hr154, hr155, A103_156, c103_157, lo103_158, hi103_159, A104_160, c104_161, lo104_162, hi104_163, A105_164, c105_165, lo105_166, hi105_167, rfl, h168, h169, h170, hrn171, hrn172, hrn173, hrn174, hrn175, hrn176⟩ := hi147.dep 2 37 rfl rfl
     refine OpR.op' rfl (yl_call Tryz.en20 rfl (opvs_cons (hi147.dt 0 35 rfl rfl rfl) (opvs_cons hx150 opvs_nil)) (Cal.mono (c_l_eqWork p_aW p_aW (RdS.up (OwnL.rd good_Table (OwnL.ex good_Table (OwnL.ex good_Table q73 hE82) hE148)) good_Table) (RdS.up (OwnL.rd good_Int (OwnL.ex good_Int (OwnL.ex good_Int q76 hE82) hE148)) good_Int) (RdS.up (OwnL.rd good_Write (OwnL.ex good_Write (OwnL.ex good_Write q79 hE82) hE148)) good_Write) (RdS.up (OwnL.rd good_Table h168) good_Table) (RdS.up (OwnL.rd good_Int h169) good_Int) (RdS.up (OwnL.rd good_Write h170) good_Write)) ?_))
     rintro v187 w186 ⟨rfl, hE188⟩
     exact ⟨rfl, hE188⟩
    ·exact fun _ _ h => os rfl ((yl_not rfl (h.dt 3 38 rfl rfl rfl) kI))
    ·intro fl197 fh198 L194 w195 hp196
     have hE199 := hp196.ex
     have hE199z := Ex.size hE199
     have hr201 := hp196.rng 2 rfl
     obtain ⟨_, hx200, A103_202, c103_203, lo103_204, hi103_205, A104_206, c104_207, lo104_208, hi104_209, A105_210, c105_211, lo105_212, hi105_213, rfl, h214, h215, h216, hrn217, hrn218, hrn219, hrn220, hrn221, hrn222⟩ := hp196.new 2 37 rfl rfl
     refine SeqR.done (tn (CW.sub (Sub.cons (d := 39) (hp196.nt 4 39 rfl rfl rfl) (Sub.nil _)) (bcase (l_eqWork p_aW p_aW) (fun hb224 => ?_) (fun hb224 => ?_))))
     ·refine CW.cond_f rfl (not_t hb224) (CW.skip (tn (CW.seq (CW.region (sd rfl (yl_assign rfl rfl (SeqR.done (tn (CW.ret ?_)))))))))
      refine rr rfl (.cons rfl .nil) ?_
      have hM225 : (l_FnExactIsCleared p_aW) = (true) := by simp only [l_FnExactIsCleared, hb16, hb83, hb84, hb224, cond_true, cond_false, loopE_done, loopE_ret]
      rw [hM225]
      exact ⟨rfl, (Ex.trans (Ex.trans (Below.only (Ex.trans (Ex.trans (Ex.trans (Ex.trans (Ex.trans (Ex.trans (Ex.refl w) hE9) hE15) hE29) hE41) hE55) hE67) hO70 (by omega)) hE82) hE199)⟩
     ·refine CW.cond_t rfl (not_f hb224) (CW.seq (CW.region (sd rfl (yl_assign rfl rfl (SeqR.done (tn (CW.ret (tr (rr rfl (.cons rfl .nil) ?_)))))))))
      have hM235 : (l_FnExactIsCleared p_aW) = (false) := by simp only [l_FnExactIsCleared, hb16, hb83, hb84, hb224, cond_true, cond_false, loopE_done, loopE_ret]
      rw [hM235]
      exact ⟨rfl, (Ex.trans (Ex.trans (Below.only (Ex.trans (Ex.trans (Ex.trans (Ex.trans (Ex.trans (Ex.trans (Ex.refl w) hE9) hE15) hE29) hE41) hE55) hE67) hO70 (by omega)) hE82) hE199)⟩
   ·refine CW.cond_t rfl (not_f hb84) (CW.seq (CW.region (sd rfl (yl_assign rfl rfl (SeqR.done (tn (CW.ret (tr (rr rfl (.cons rfl .nil) ?_)))))))))
    have hM245 : (l_FnExactIsCleared p_aW) = (false) := by simp only [l_FnExactIsCleared, hb16, hb83, hb84, cond_true, cond_false, loopE_done, loopE_ret]
    rw [hM245]
    exact ⟨rfl, (Ex.trans (Below.only (Ex.trans (Ex.trans (Ex.trans (Ex.trans (Ex.trans (Ex.trans (Ex.refl w) hE9) hE15) hE29) hE41) hE55) hE67) hO70 (by omega)) hE82)⟩
  ·refine sz rfl rfl (not_f hb83) (sz rfl rfl (not_f hb83) (sz rfl rfl (not_f hb83) (sd rfl (yl_pick_t rfl rfl (not_f hb83) rfl (SeqR.done (tn (CW.cond_t rfl rfl (CW.seq (CW.region ?_)))))))))
   refine sd rfl (yl_assign rfl rfl (SeqR.done (tn (CW.ret (tr (rr rfl (.cons rfl .nil) ?_))))))
   have hM254 : (l_FnExactIsCleared p_aW) = (false) := by simp only [l_FnExactIsCleared, hb16, hb83, cond_true, cond_false, loopE_done, loopE_ret]
   rw [hM254]
   exact ⟨rfl, (Ex.trans (Below.only (Ex.trans (Ex.trans (Ex.trans (Ex.trans (Ex.trans (Ex.trans (Ex.refl w) hE9) hE15) hE29) hE41) hE55) hE67) hO70 (by omega)) hE82)⟩
end Go.Proofs.YtfmepgbpbbneaaaGreat
