/- Fn Rows: what each call returns, part 5. -/
import Derived.Test.YtlnjgkmpaebioaaDoorFnRowsC4
set_option maxRecDepth 100000
set_option maxHeartbeats 2000000
open Go.Proofs.Tryd Go.Proofs.YtlnjgkmpaebioaaDoor.Tryd
set_option linter.unusedVariables false
set_option linter.unusedSimpArgs false
namespace Go.Proofs.YtlnjgkmpaebioaaDoor
open Go.RowKit Go.X
theorem c_l_FnRows {A1 : Option Addr} {c1 : Nat} {A2 : Option Addr} {c2 : Nat} {w : World} (p_0 : List Int) (p_1 : List Int) (h1 : RdS w (Iv 0 w.heap.size) (RF e_U8) 1 A1 p_0.length c1 p_0) (h2 : RdS w (Iv 0 w.heap.size) (RF e_U8) 1 A2 p_1.length c2 p_1) (pre0 : codeOk p_0) (pre1 : codeOk p_1) : Cal Tryd.prog 3 #[.slice A1 p_0.length c1, .slice A2 p_1.length c2] w fun v w' => v = .bool ((l_FnRows p_0 p_1)) ∧ Ex w w' := by
 have hbg1 := RdS.big h1
 have hbg2 := RdS.big h2
 have hwr : IntKind.wrap .i64 ((p_0.length : Int) + (p_1.length : Int)) = (p_0.length : Int) + (p_1.length : Int) := wrap_in (by omega)
 refine Cal.of func3 rfl ntmps3 rfl (CW.seq (CW.region (sd rfl (yl_assign rfl rfl (dn (CW.seq (CW.seq (CW.region ?_))))))))
 refine sd rfl (yl_move rfl rfl (sd rfl (yl_len un22 rfl rfl (sd rfl (yl_move rfl rfl (sd rfl (yl_len un22 rfl rfl (sd rfl (yl_add rfl rfl rfl (sd rfl (yl_gtr rfl rfl rfl (dn (bcase (decide (1048576 < (IntKind.wrap .i64 ((p_0.length : Int) + (p_1.length : Int))))) (fun hb3 => ?_) (fun hb3 => ?_))))))))))))))
 ·have hb3p := dec_t hb3
  refine CW.cond_t rfl hb3 (CW.seq (CW.region (sd rfl (yl_assign rfl rfl (dn (CW.ret (tr (rr rfl (.cons rfl .nil) ?_))))))))
  have hM4 : (l_FnRows p_0 p_1) = (true) := by simp only [l_FnRows, hb3, cL]
  rw [hM4]
  exact ⟨rfl, (Ex.refl w)⟩
 ·have hb3p := dec_f hb3
  refine CW.cond_f rfl hb3 (CW.skip (tn (CW.seq (CW.region (sd rfl (yl_move rfl rfl (sd rfl (yl_call en4 rfl (oc rfl oz) (Cal.mono (c_s_DrawIdxKey p_0 (RdS.up h1 good_U8) (okL.mk (xs := p_0) (by first | omega | (simp only [List.length_append, List.length_cons, List.length_nil, List.length_take, List.length_drop, List.length_replicate, List.length_set]; omega)) fun _ _ => trivial) (by assumption)) ?_)))))))))
  rintro v12 w5 ⟨A6, c6, A7, c7, lo7, hi7, A8, c8, lo8, hi8, rfl, h6, h7, h8, ho9, ho10, ho11, hrn14, hrn15, hrn16, hE13⟩
  have hE13z := Ex.size hE13
  refine sd rfl (yl_move rfl rfl (sd rfl (yl_extract rfl rfl rfl (sd rfl (yl_extract rfl rfl rfl (sd rfl (yl_extract rfl rfl rfl (sd rfl (yl_alloc ty26 (cs := [.string (bs (([] : Str))), .slice none 0 0, .slice none 0 0]) rfl rfl ?_)))))))))
  intro b17 w18 hs19 hz20 hB21 hE22
  refine sd rfl (yl_alloc ty28 (cs := [.slice none 0 0]) rfl rfl ?_)
  intro b23 w24 hs25 hz26 hB27 hE28
  refine SeqR.u rfl rfl (yl_store (vs := [.string (bs ((s_DrawIdxKey p_0).1.Name)), .slice A6 (((s_DrawIdxKey p_0).1.Cols).length) c6, .slice A7 (((s_DrawIdxKey p_0).1.Idxs).length) c7]) ty26 rfl rfl rfl rfl rfl rfl (Box.ex hB21 hE28) (Nat.le_of_ble_eq_true rfl) ?_)
  intro w30 hB31 hO32
  have hB31 : Box w30 b17 26 [.string (bs ((s_DrawIdxKey p_0).1.Name)), .slice A6 (((s_DrawIdxKey p_0).1.Cols).length) c6, .slice A7 (((s_DrawIdxKey p_0).1.Idxs).length) c7] := hB31
  have hO32z := hO32.size
  refine sd rfl (yl_assign rfl rfl (SeqR.u rfl rfl (yl_store (vs := [.slice A8 (((s_DrawIdxKey p_0).2.2.Vals).length) c8]) ty28 rfl rfl rfl rfl rfl rfl (Box.only hB27 hO32 (by omega)) (Nat.le_of_ble_eq_true rfl) ?_)))
  intro w34 hB35 hO36
  have hB35 : Box w34 b23 28 [.slice A8 (((s_DrawIdxKey p_0).2.2.Vals).length) c8] := hB35
  have hO36z := hO36.size
  refine dn (CW.seq (CW.region ?_))
  have q37 := Box.only hB31 hO36 (by omega)
  refine sd rfl (yl_loadN ty26 rfl rfl (q37.cells (n := 3) rfl) rfl (sd rfl (yl_move rfl rfl (sd rfl (yl_loadN ty28 rfl rfl (hB35.cells (n := 1) rfl) rfl ?_)))))
  have q41 := RdS.only good_Str (RdS.only good_Str (RdS.ex good_Str (RdS.ex good_Str h6 hE22) hE28) hO32 (by simp only [Iv]; omega)) hO36 (by simp only [Iv]; omega)
  have q46 := OwnL.only good_Idx (OwnL.only good_Idx (OwnL.ex good_Idx (OwnL.ex good_Idx h7 hE22) hE28) hO32 (by omega)) hO36 (by omega)
  have q51 := OwnL.only good_Str (OwnL.only good_Str (OwnL.ex good_Str (OwnL.ex good_Str h8 hE22) hE28) hO32 (by omega)) hO36 (by omega)
  refine sd rfl (yl_call en5 rfl (oc rfl (oc rfl (oc rfl oz))) (Cal.mono (c_i_IdxKey ((s_DrawIdxKey p_0).1) ((s_DrawIdxKey p_0).2.1) ((s_DrawIdxKey p_0).2.2) (RdS.up q41 good_Str) (RdS.up (OwnL.rd good_Idx q46) good_Idx) (RdS.up (OwnL.rd good_Str q51) good_Str) ho9 ho10 ho11) ?_))
  rintro v54 w52 ⟨rfl, ho53, hE55⟩
  have hE55z := Ex.size hE55
  refine sd rfl (yl_move rfl rfl (sd rfl (yl_extract rfl rfl rfl (sd rfl (yl_extract rfl rfl rfl (sd rfl (yl_assign rfl rfl (sd rfl (yl_assign rfl rfl (dn (CW.seq (CW.region ?_))))))))))))
  have q56 := Box.ex q37 hE55
  refine sd rfl (yl_loadN ty26 rfl rfl (q56.cells (n := 3) rfl) rfl (sd rfl (yl_move rfl rfl ?_)))
  have q57 := Box.ex hB35 hE55
  refine sd rfl (yl_loadN ty28 rfl rfl (q57.cells (n := 1) rfl) rfl ?_)
  have q58 := RdS.ex good_Str q41 hE55
  have q60 := OwnL.ex good_Idx q46 hE55
  have q62 := OwnL.ex good_Str q51 hE55
  refine sd rfl (yl_call en6 rfl (oc rfl (oc rfl (oc rfl oz))) (Cal.mono (c_s_IdxKey ((s_DrawIdxKey p_0).1) ((s_DrawIdxKey p_0).2.1) ((s_DrawIdxKey p_0).2.2) (RdS.up q58 good_Str) (RdS.up (OwnL.rd good_Idx q60) good_Idx) (RdS.up (OwnL.rd good_Str q62) good_Str) ho9 ho10 ho11) ?_))
  rintro v65 w63 ⟨rfl, ho64, hE66⟩
  have hE66z := Ex.size hE66
  refine sd rfl (yl_move rfl rfl (sd rfl (yl_extract rfl rfl rfl (sd rfl (yl_extract rfl rfl rfl (sd rfl (yl_assign rfl rfl (sd rfl (yl_assign rfl rfl (dn (CW.seq (CW.region ?_))))))))))))
  have q67 := Box.ex q56 hE66
  refine sd rfl (yl_loadN ty26 rfl rfl (q67.cells (n := 3) rfl) rfl ?_)
  have q68 := Box.ex q57 hE66
  refine sd rfl (yl_loadN ty28 rfl rfl (q68.cells (n := 1) rfl) rfl ?_)
  have q69 := RdS.ex good_Str q58 hE66
  have q71 := OwnL.ex good_Idx q60 hE66
  have q73 := OwnL.ex good_Str q62 hE66
  refine sd rfl (yl_call en7 rfl (oc rfl (oc rfl oz)) (Cal.mono (c_i_RowWrite ((s_DrawIdxKey p_0).1) ((s_DrawIdxKey p_0).2.2) (RdS.up q69 good_Str) (RdS.up (OwnL.rd good_Idx q71) good_Idx) (RdS.up (OwnL.rd good_Str q73) good_Str) ho9 ho11) ?_))
  rintro v75 w74 ⟨rfl, hE76⟩
  have hE76z := Ex.size hE76
  refine sd rfl (yl_move rfl rfl (sd rfl (yl_extract rfl rfl rfl (sd rfl (yl_extract rfl rfl rfl (sd rfl (yl_alloc ty34 (cs := [.string (bs (([] : Str))), .string (bs (([] : Str))), .bool (false)]) rfl rfl ?_)))))))
  intro b77 w78 hs79 hz80 hB81 hE82
  refine SeqR.u rfl rfl (yl_store (vs := [.string (bs ((i_RowWrite ((s_DrawIdxKey p_0).1) ((s_DrawIdxKey p_0).2.2)).1.Key)), .string (bs ((i_RowWrite ((s_DrawIdxKey p_0).1) ((s_DrawIdxKey p_0).2.2)).1.Val)), .bool ((i_RowWrite ((s_DrawIdxKey p_0).1) ((s_DrawIdxKey p_0).2.2)).1.Gone)]) ty34 rfl rfl rfl rfl rfl rfl hB81 (Nat.le_of_ble_eq_true rfl) ?_)
  intro w83 hB84 hO85
  have hB84 : Box w83 b77 34 [.string (bs ((i_RowWrite ((s_DrawIdxKey p_0).1) ((s_DrawIdxKey p_0).2.2)).1.Key)), .string (bs ((i_RowWrite ((s_DrawIdxKey p_0).1) ((s_DrawIdxKey p_0).2.2)).1.Val)), .bool ((i_RowWrite ((s_DrawIdxKey p_0).1) ((s_DrawIdxKey p_0).2.2)).1.Gone)] := hB84
  have hO85z := hO85.size
  refine sd rfl (yl_assign rfl rfl (dn (CW.seq (CW.region ?_))))
  have q88 := Box.only (Box.ex (Box.ex q67 hE76) hE82) hO85 (by omega)
  refine sd rfl (yl_loadN ty26 rfl rfl (q88.cells (n := 3) rfl) rfl ?_)
  have q91 := Box.only (Box.ex (Box.ex q68 hE76) hE82) hO85 (by omega)
  refine sd rfl (yl_loadN ty28 rfl rfl (q91.cells (n := 1) rfl) rfl ?_)
  have q94 := RdS.only good_Str (RdS.ex good_Str (RdS.ex good_Str q69 hE76) hE82) hO85 (by simp only [Iv]; omega)
  have q98 := OwnL.only good_Idx (OwnL.ex good_Idx (OwnL.ex good_Idx q71 hE76) hE82) hO85 (by omega)
  have q102 := OwnL.only good_Str (OwnL.ex good_Str (OwnL.ex good_Str q73 hE76) hE82) hO85 (by omega)
  refine sd rfl (yl_call en8 rfl (oc rfl (oc rfl oz)) (Cal.mono (c_s_RowWrite ((s_DrawIdxKey p_0).1) ((s_DrawIdxKey p_0).2.2) (RdS.up q94 good_Str) (RdS.up (OwnL.rd good_Idx q98) good_Idx) (RdS.up (OwnL.rd good_Str q102) good_Str) ho9 ho11) ?_))
  rintro v105 w103 ⟨rfl, ho104, hE106⟩
  have hE106z := Ex.size hE106
  refine sd rfl (yl_move rfl rfl (sd rfl (yl_extract rfl rfl rfl (sd rfl (yl_extract rfl rfl rfl (sd rfl (yl_alloc ty34 (cs := [.string (bs (([] : Str))), .string (bs (([] : Str))), .bool (false)]) rfl rfl ?_)))))))
  intro b107 w108 hs109 hz110 hB111 hE112
  refine SeqR.u rfl rfl (yl_store (vs := [.string (bs ((s_RowWrite ((s_DrawIdxKey p_0).1) ((s_DrawIdxKey p_0).2.2)).1.Key)), .string (bs ((s_RowWrite ((s_DrawIdxKey p_0).1) ((s_DrawIdxKey p_0).2.2)).1.Val)), .bool ((s_RowWrite ((s_DrawIdxKey p_0).1) ((s_DrawIdxKey p_0).2.2)).1.Gone)]) ty34 rfl rfl rfl rfl rfl rfl hB111 (Nat.le_of_ble_eq_true rfl) ?_)
  intro w113 hB114 hO115
  have hB114 : Box w113 b107 34 [.string (bs ((s_RowWrite ((s_DrawIdxKey p_0).1) ((s_DrawIdxKey p_0).2.2)).1.Key)), .string (bs ((s_RowWrite ((s_DrawIdxKey p_0).1) ((s_DrawIdxKey p_0).2.2)).1.Val)), .bool ((s_RowWrite ((s_DrawIdxKey p_0).1) ((s_DrawIdxKey p_0).2.2)).1.Gone)] := hB114
  have hO115z := hO115.size
  refine sd rfl (yl_assign rfl rfl (dn (CW.seq (CW.seq (CW.region (sd rfl (yl_move rfl rfl (sd rfl (yl_move rfl rfl (sd rfl (yl_bneq un4 rfl rfl rfl ?_)))))))))))
  refine sd rfl (yl_move rfl rfl (bcase (((i_IdxKey ((s_DrawIdxKey p_0).1) ((s_DrawIdxKey p_0).2.1) ((s_DrawIdxKey p_0).2.2)).2) == ((s_IdxKey ((s_DrawIdxKey p_0).1) ((s_DrawIdxKey p_0).2.1) ((s_DrawIdxKey p_0).2.2)).2)) (fun hb116 => ?_) (fun hb116 => ?_)))
  ·refine sy rfl rfl (not_t hb116) (yl_move rfl rfl (sy rfl rfl (not_t hb116) (yl_move rfl rfl (sy rfl rfl (not_t hb116) (yl_sneq (a := ((i_IdxKey ((s_DrawIdxKey p_0).1) ((s_DrawIdxKey p_0).2.1) ((s_DrawIdxKey p_0).2.2)).1)) (b := ((s_IdxKey ((s_DrawIdxKey p_0).1) ((s_DrawIdxKey p_0).2.1) ((s_DrawIdxKey p_0).2.2)).1)) rfl rfl rfl (sd rfl (yl_pick_f rfl rfl (not_t hb116) rfl (sd rfl (yl_move rfl rfl (bcase (((i_IdxKey ((s_DrawIdxKey p_0).1) ((s_DrawIdxKey p_0).2.1) ((s_DrawIdxKey p_0).2.2)).1) == ((s_IdxKey ((s_DrawIdxKey p_0).1) ((s_DrawIdxKey p_0).2.1) ((s_DrawIdxKey p_0).2.2)).1)) (fun hb117 => ?_) (fun hb117 => ?_)))))))))))
   ·refine sy rfl rfl (not_t hb117) (yl_move rfl rfl (sy rfl rfl (not_t hb117) (yl_move rfl rfl (sy rfl rfl (not_t hb117) (yl_bneq un4 rfl rfl rfl (sd rfl (yl_pick_f rfl rfl (not_t hb117) rfl (sd rfl (yl_move rfl rfl (bcase (((i_RowWrite ((s_DrawIdxKey p_0).1) ((s_DrawIdxKey p_0).2.2)).2) == ((s_RowWrite ((s_DrawIdxKey p_0).1) ((s_DrawIdxKey p_0).2.2)).2)) (fun hb118 => ?_) (fun hb118 => ?_)))))))))))
    ·have q121 := Box.only (Box.ex (Box.ex hB84 hE106) hE112) hO115 (by omega)
     refine sy rfl rfl (not_t hb118) (yl_loadN ty34 rfl rfl (q121.cells (n := 3) rfl) rfl (sy rfl rfl (not_t hb118) (yl_loadN ty34 rfl rfl (hB114.cells (n := 3) rfl) rfl (sy rfl rfl (not_t hb118) (yl_aneq (xs := [.string (bs ((i_RowWrite ((s_DrawIdxKey p_0).1) ((s_DrawIdxKey p_0).2.2)).1.Key)), .string (bs ((i_RowWrite ((s_DrawIdxKey p_0).1) ((s_DrawIdxKey p_0).2.2)).1.Val)), .bool ((i_RowWrite ((s_DrawIdxKey p_0).1) ((s_DrawIdxKey p_0).2.2)).1.Gone)]) (ys := [.string (bs ((s_RowWrite ((s_DrawIdxKey p_0).1) ((s_DrawIdxKey p_0).2.2)).1.Key)), .string (bs ((s_RowWrite ((s_DrawIdxKey p_0).1) ((s_DrawIdxKey p_0).2.2)).1.Val)), .bool ((s_RowWrite ((s_DrawIdxKey p_0).1) ((s_DrawIdxKey p_0).2.2)).1.Gone)]) Tryd.ae34 rfl rfl rfl (sd rfl (yl_pick_f rfl rfl (not_t hb118) rfl (sd rfl (yl_move rfl rfl (bcase ((((i_RowWrite ((s_DrawIdxKey p_0).1) ((s_DrawIdxKey p_0).2.2)).1.Key) == ((s_RowWrite ((s_DrawIdxKey p_0).1) ((s_DrawIdxKey p_0).2.2)).1.Key)) && ((((i_RowWrite ((s_DrawIdxKey p_0).1) ((s_DrawIdxKey p_0).2.2)).1.Val) == ((s_RowWrite ((s_DrawIdxKey p_0).1) ((s_DrawIdxKey p_0).2.2)).1.Val)) && (((i_RowWrite ((s_DrawIdxKey p_0).1) ((s_DrawIdxKey p_0).2.2)).1.Gone) == ((s_RowWrite ((s_DrawIdxKey p_0).1) ((s_DrawIdxKey p_0).2.2)).1.Gone)))) (fun hb122 => ?_) (fun hb122 => ?_)))))))))))
     ·have q125 := Box.only (Box.ex (Box.ex q88 hE106) hE112) hO115 (by omega)
      refine sy rfl rfl (not_t hb122) (yl_loadN ty26 rfl rfl (q125.cells (n := 3) rfl) rfl ?_)
      have q128 := Box.only (Box.ex (Box.ex q91 hE106) hE112) hO115 (by omega)
      refine sy rfl rfl (not_t hb122) (yl_loadN ty28 rfl rfl (q128.cells (n := 1) rfl) rfl ?_)
      have q131 := RdS.only good_Str (RdS.ex good_Str (RdS.ex good_Str q94 hE106) hE112) hO115 (by simp only [Iv]; omega)
      have q135 := OwnL.only good_Idx (OwnL.ex good_Idx (OwnL.ex good_Idx q98 hE106) hE112) hO115 (by omega)
      have q139 := OwnL.only good_Str (OwnL.ex good_Str (OwnL.ex good_Str q102 hE106) hE112) hO115 (by omega)
      refine sy rfl rfl (not_t hb122) (yl_call en9 rfl (oc rfl (oc rfl oz)) (Cal.mono (c_i_GoodRow ((s_DrawIdxKey p_0).1) ((s_DrawIdxKey p_0).2.2) (RdS.up q131 good_Str) (RdS.up (OwnL.rd good_Idx q135) good_Idx) (RdS.up (OwnL.rd good_Str q139) good_Str) ho9 ho11) ?_))
      rintro v141 w140 ⟨rfl, hE142⟩
      have hE142z := Ex.size hE142
      refine sy rfl rfl (not_t hb122) (yl_move rfl rfl (sy rfl rfl (not_t hb122) (yl_bneq un4 rfl rfl rfl (sd rfl (yl_pick_f rfl rfl (not_t hb122) rfl (dn (bcase ((i_GoodRow ((s_DrawIdxKey p_0).1) ((s_DrawIdxKey p_0).2.2)) == ((i_RowWrite ((s_DrawIdxKey p_0).1) ((s_DrawIdxKey p_0).2.2)).2)) (fun hb143 => ?_) (fun hb143 => ?_))))))))
      ·refine CW.cond_f rfl (not_t hb143) (CW.skip (tn (CW.seq (CW.seq (CW.region (sd rfl (yl_move rfl rfl (dn ?_))))))))
       refine bcase ((i_RowWrite ((s_DrawIdxKey p_0).1) ((s_DrawIdxKey p_0).2.2)).2) (fun hb144 => ?_) (fun hb144 => ?_)
       ·refine CW.cond_t rfl hb144 (CW.seq (CW.region ?_))
        have q145 := Box.ex q125 hE142
        refine sd rfl (yl_loadN ty26 rfl rfl (q145.cells (n := 3) rfl) rfl (sd rfl (yl_loadN ty34 rfl rfl ((Box.ex q121 hE142).cells (n := 3) rfl) rfl ?_)))
        have q147 := RdS.ex good_Str q131 hE142
        have q149 := OwnL.ex good_Idx q135 hE142
        refine sd rfl (yl_call en10 rfl (oc rfl (oc rfl oz)) (Cal.mono (c_i_ReadRow ((s_DrawIdxKey p_0).1) ((i_RowWrite ((s_DrawIdxKey p_0).1) ((s_DrawIdxKey p_0).2.2)).1) (RdS.up q147 good_Str) (RdS.up (OwnL.rd good_Idx q149) good_Idx) ho9 (ok_RowWrite _ _)) ?_))
        rintro v153 w150 ⟨A151, c151, lo151, hi151, rfl, h151, ho152, hrn155, hE154⟩
        have hE154z := Ex.size hE154
        refine sd rfl (yl_move rfl rfl (sd rfl (yl_extract rfl rfl rfl (sd rfl (yl_extract rfl rfl rfl (sd rfl (yl_alloc ty28 (cs := [.slice none 0 0]) rfl rfl ?_)))))))
        intro b156 w157 hs158 hz159 hB160 hE161
        refine SeqR.u rfl rfl (yl_store (vs := [.slice A151 (((i_ReadRow ((s_DrawIdxKey p_0).1) ((i_RowWrite ((s_DrawIdxKey p_0).1) ((s_DrawIdxKey p_0).2.2)).1)).1.Vals).length) c151]) ty28 rfl rfl rfl rfl rfl rfl hB160 (Nat.le_of_ble_eq_true rfl) ?_)
        intro w162 hB163 hO164
        have hB163 : Box w162 b156 28 [.slice A151 (((i_ReadRow ((s_DrawIdxKey p_0).1) ((i_RowWrite ((s_DrawIdxKey p_0).1) ((s_DrawIdxKey p_0).2.2)).1)).1.Vals).length) c151] := hB163
        have hO164z := hO164.size
        refine sd rfl (yl_assign rfl rfl (dn (CW.seq (CW.region (sd rfl (yl_move rfl rfl (sd rfl (yl_not rfl rfl (sd rfl (yl_move rfl rfl (bcase ((i_ReadRow ((s_DrawIdxKey p_0).1) ((i_RowWrite ((s_DrawIdxKey p_0).1) ((s_DrawIdxKey p_0).2.2)).1)).2) (fun hb165 => ?_) (fun hb165 => ?_))))))))))))
        ·refine sy rfl rfl (not_t hb165) (yl_fieldAddr fd28_0 rfl rfl (sy rfl rfl (not_t hb165) (yl_load1 ty23 rfl rfl ((hB163.cell 0).trans rfl) (sy rfl rfl (not_t hb165) (yl_fieldAddr fd28_0 rfl rfl ?_)))))
         have q169 := Box.only (Box.ex (Box.ex (Box.ex q128 hE142) hE154) hE161) hO164 (by omega)
         refine sy rfl rfl (not_t hb165) (yl_load1 ty23 rfl rfl ((q169.cell 0).trans rfl) ?_)
         have q177 := OwnL.only good_Str (OwnL.ex good_Str (OwnL.ex good_Str (OwnL.ex good_Str q139 hE142) hE154) hE161) hO164 (by omega)
         refine sy rfl rfl (not_t hb165) (yl_call en11 rfl (oc rfl (oc rfl oz)) (Cal.mono (c_l_qSameS ((i_ReadRow ((s_DrawIdxKey p_0).1) ((i_RowWrite ((s_DrawIdxKey p_0).1) ((s_DrawIdxKey p_0).2.2)).1)).1.Vals) ((s_DrawIdxKey p_0).2.2.Vals) (RdS.up (OwnL.rd good_Str (OwnL.only good_Str (OwnL.ex good_Str h151 hE161) hO164 (by omega))) good_Str) (RdS.up (OwnL.rd good_Str q177) good_Str) ho152 ho11) ?_))
         rintro v179 w178 ⟨rfl, hE180⟩
         have hE180z := Ex.size hE180
         refine sy rfl rfl (not_t hb165) (yl_not rfl rfl (sd rfl (yl_pick_f rfl rfl (not_t hb165) rfl (dn (bcase (l_qSameS ((i_ReadRow ((s_DrawIdxKey p_0).1) ((i_RowWrite ((s_DrawIdxKey p_0).1) ((s_DrawIdxKey p_0).2.2)).1)).1.Vals) ((s_DrawIdxKey p_0).2.2.Vals)) (fun hb181 => ?_) (fun hb181 => ?_))))))
         ·refine CW.cond_f rfl (not_t hb181) (CW.skip (tn (CW.seq (CW.seq (CW.region (sd rfl (yl_move rfl rfl (dn ?_))))))))
          refine bcase ((i_IdxKey ((s_DrawIdxKey p_0).1) ((s_DrawIdxKey p_0).2.1) ((s_DrawIdxKey p_0).2.2)).2) (fun hb182 => ?_) (fun hb182 => ?_)
          ·refine CW.cond_t rfl hb182 (CW.seq (CW.region ?_))
           have q186 := Box.ex (Box.only (Box.ex (Box.ex q145 hE154) hE161) hO164 (by omega)) hE180
           refine sd rfl (yl_loadN ty26 rfl rfl (q186.cells (n := 3) rfl) rfl (sd rfl (yl_move rfl rfl ?_)))
           have q190 := RdS.ex good_Str (RdS.only good_Str (RdS.ex good_Str (RdS.ex good_Str q147 hE154) hE161) hO164 (by simp only [Iv]; omega)) hE180
           have q195 := OwnL.ex good_Idx (OwnL.only good_Idx (OwnL.ex good_Idx (OwnL.ex good_Idx q149 hE154) hE161) hO164 (by omega)) hE180
           refine sd rfl (yl_call en12 rfl (oc rfl (oc rfl oz)) (Cal.mono (c_i_IdxAt ((s_DrawIdxKey p_0).1) ((s_DrawIdxKey p_0).2.1) (RdS.up q190 good_Str) (RdS.up (OwnL.rd good_Idx q195) good_Idx) ho9 ho10) ?_))
           rintro v198 w196 ⟨rfl, ho197, hE199⟩
           have hE199z := Ex.size hE199
           refine sd rfl (yl_move rfl rfl (sd rfl (yl_extract rfl rfl rfl (sd rfl (yl_extract rfl rfl rfl (sd rfl (yl_alloc ty42 (cs := [.string (bs (([] : Str))), .int .i64 (0), .int .i64 (0)]) rfl rfl ?_)))))))
           intro b200 w201 hs202 hz203 hB204 hE205
           refine SeqR.u rfl rfl (yl_store (vs := [.string (bs ((i_IdxAt ((s_DrawIdxKey p_0).1) ((s_DrawIdxKey p_0).2.1)).1.Name)), .int .i64 ((i_IdxAt ((s_DrawIdxKey p_0).1) ((s_DrawIdxKey p_0).2.1)).1.Col), .int .i64 ((i_IdxAt ((s_DrawIdxKey p_0).1) ((s_DrawIdxKey p_0).2.1)).1.Stage)]) ty42 rfl rfl rfl rfl rfl rfl hB204 (Nat.le_of_ble_eq_true rfl) ?_)
           intro w206 hB207 hO208
           have hB207 : Box w206 b200 42 [.string (bs ((i_IdxAt ((s_DrawIdxKey p_0).1) ((s_DrawIdxKey p_0).2.1)).1.Name)), .int .i64 ((i_IdxAt ((s_DrawIdxKey p_0).1) ((s_DrawIdxKey p_0).2.1)).1.Col), .int .i64 ((i_IdxAt ((s_DrawIdxKey p_0).1) ((s_DrawIdxKey p_0).2.1)).1.Stage)] := hB207
           have hO208z := hO208.size
           refine sd rfl (yl_assign rfl rfl (dn (CW.seq (CW.region (sd rfl (yl_loadN ty26 rfl rfl ((Box.only (Box.ex (Box.ex q186 hE199) hE205) hO208 (by omega)).cells (n := 3) rfl) rfl (sd rfl (yl_move rfl rfl (sd rfl (yl_move rfl rfl (sd rfl (yl_call en13 rfl (oc rfl (oc rfl (oc rfl oz))) (Cal.mono (c_i_ReadIdxKey ((s_DrawIdxKey p_0).1) ((s_DrawIdxKey p_0).2.1) ((i_IdxKey ((s_DrawIdxKey p_0).1) ((s_DrawIdxKey p_0).2.1) ((s_DrawIdxKey p_0).2.2)).1) (RdS.up (RdS.only good_Str (RdS.ex good_Str (RdS.ex good_Str q190 hE199) hE205) hO208 (by simp only [Iv]; omega)) good_Str) (RdS.up (OwnL.rd good_Idx (OwnL.only good_Idx (OwnL.ex good_Idx (OwnL.ex good_Idx q195 hE199) hE205) hO208 (by omega))) good_Idx) ho9 ho10 ho53) ?_)))))))))))))
           rintro v222 w219 ⟨rfl, ho220, ho221, hE223⟩
           have hE223z := Ex.size hE223
           refine sd rfl (yl_move rfl rfl (sd rfl (yl_extract rfl rfl rfl (sd rfl (yl_extract rfl rfl rfl (sd rfl (yl_extract rfl rfl rfl (sd rfl (yl_assign rfl rfl (sd rfl (yl_assign rfl rfl (sd rfl (yl_assign rfl rfl (dn ?_))))))))))))))
           refine CW.seq (CW.region (sd rfl (yl_move rfl rfl (sd rfl (yl_not rfl rfl (sd rfl (yl_move rfl rfl (bcase ((i_IdxAt ((s_DrawIdxKey p_0).1) ((s_DrawIdxKey p_0).2.1)).2) (fun hb224 => ?_) (fun hb224 => ?_)))))))))
           ·refine sy rfl rfl (not_t hb224) (yl_move rfl rfl (sy rfl rfl (not_t hb224) (yl_not rfl rfl (sd rfl (yl_pick_f rfl rfl (not_t hb224) rfl (sd rfl (yl_move rfl rfl (bcase ((i_ReadIdxKey ((s_DrawIdxKey p_0).1) ((s_DrawIdxKey p_0).2.1) ((i_IdxKey ((s_DrawIdxKey p_0).1) ((s_DrawIdxKey p_0).2.1) ((s_DrawIdxKey p_0).2.2)).1)).2.2) (fun hb225 => ?_) (fun hb225 => ?_)))))))))
            ·refine sy rfl rfl (not_t hb225) (yl_fieldAddr fd28_0 rfl rfl ?_)
             have q230 := Box.ex (Box.only (Box.ex (Box.ex (Box.ex q169 hE180) hE199) hE205) hO208 (by omega)) hE223
             refine sy rfl rfl (not_t hb225) (yl_load1 ty23 rfl rfl ((q230.cell 0).trans rfl) (sy rfl rfl (not_t hb225) (yl_len un23 rfl rfl (sy rfl rfl (not_t hb225) (yl_fieldAddr fd42_1 rfl rfl ?_)))))
             have q231 := Box.ex hB207 hE223
             refine sy rfl rfl (not_t hb225) (yl_load1 ty3 rfl rfl ((q231.cell 1).trans rfl) (sy rfl rfl (not_t hb225) (yl_leq rfl rfl rfl (sd rfl (yl_pick_f rfl rfl (not_t hb225) rfl (sd rfl (yl_move rfl rfl (bcase (decide ((((s_DrawIdxKey p_0).2.2.Vals).length : Int) ≤ ((i_IdxAt ((s_DrawIdxKey p_0).1) ((s_DrawIdxKey p_0).2.1)).1.Col))) (fun hb232 => ?_) (fun hb232 => ?_)))))))))
             ·have hb232p := dec_t hb232
              refine sz rfl rfl hb232 (sz rfl rfl hb232 (sz rfl rfl hb232 (sd rfl (yl_pick_t rfl rfl hb232 rfl (sd rfl (yl_move rfl rfl (sz rfl rfl rfl (sz rfl rfl rfl (sz rfl rfl rfl (sz rfl rfl rfl ?_))))))))))
              refine sz rfl rfl rfl (sz rfl rfl rfl (sz rfl rfl rfl (sz rfl rfl rfl (sd rfl (yl_pick_t rfl rfl rfl rfl (sd rfl (yl_move rfl rfl (sz rfl rfl rfl (sz rfl rfl rfl (sz rfl rfl rfl ?_))))))))))
              refine sz rfl rfl rfl (sz rfl rfl rfl (sz rfl rfl rfl (sd rfl (yl_pick_t rfl rfl rfl rfl (dn (CW.cond_t rfl rfl (CW.seq (CW.region ?_))))))))
              refine sd rfl (yl_assign rfl rfl (dn (CW.ret (tr (rr rfl (.cons rfl .nil) ?_)))))
              have hM233 : (l_FnRows p_0 p_1) = (false) := by first | (simp only [l_FnRows, hb3, hb116, hb117, hb118, hb122, hb143, hb144, hb165, hb181, hb182, hb224, hb225, hb232, cL]; done) | (simp only [l_FnRows, hb116, hb118, hb143, cL] <;> simp only [hb3, hb117, hb122, hb144, hb165, hb181, hb182, hb224, hb225, hb232, cL])
              rw [hM233]
              have q253 := Ex.trans (Ex.trans (Ex.trans (Below.only (Ex.trans (Ex.trans (Ex.trans (Below.only (Ex.trans (Ex.trans (Below.only (Ex.trans (Ex.trans (Ex.trans (Ex.trans (Below.only (Below.only (Ex.trans (Ex.trans (Ex.trans (Ex.refl w) hE13) hE22) hE28) hO32 (by omega)) hO36 (by omega)) hE55) hE66) hE76) hE82) hO85 (by omega)) hE106) hE112) hO115 (by omega)) hE142) hE154) hE161) hO164 (by omega)) hE180) hE199) hE205
              exact ⟨rfl, (Ex.trans (Below.only q253 hO208 (by omega)) hE223)⟩
             ·have hb232p := dec_f hb232
              refine sy rfl rfl hb232 (yl_fieldAddr fd42_1 rfl rfl (sy rfl rfl hb232 (yl_load1 ty3 rfl rfl ((q231.cell 1).trans rfl) (sy rfl rfl hb232 (yl_lss rfl rfl rfl (sd rfl (yl_pick_f rfl rfl hb232 rfl (sd rfl (yl_move rfl rfl (bcase (decide (((i_IdxAt ((s_DrawIdxKey p_0).1) ((s_DrawIdxKey p_0).2.1)).1.Col) < 0)) (fun hb256 => ?_) (fun hb256 => ?_)))))))))))
              ·have hb256p := dec_t hb256
               refine sz rfl rfl hb256 (sz rfl rfl hb256 (sz rfl rfl hb256 (sz rfl rfl hb256 (sz rfl rfl hb256 (sz rfl rfl hb256 (sz rfl rfl hb256 (sz rfl rfl hb256 (sd rfl (yl_pick_t rfl rfl hb256 rfl ?_)))))))))
               refine sd rfl (yl_move rfl rfl (sz rfl rfl rfl (sz rfl rfl rfl (sz rfl rfl rfl (sz rfl rfl rfl (sz rfl rfl rfl (sz rfl rfl rfl (sd rfl (yl_pick_t rfl rfl rfl rfl (SeqR.done ?_))))))))))
               refine tn (CW.cond_t rfl rfl (CW.seq (CW.region (sd rfl (yl_assign rfl rfl (dn (CW.ret (tr ?_))))))))
               refine rr rfl (.cons rfl .nil) ?_
               have hM257 : (l_FnRows p_0 p_1) = (false) := by first | (simp only [l_FnRows, hb3, hb116, hb117, hb118, hb122, hb143, hb144, hb165, hb181, hb182, hb224, hb225, hb232, hb256, cL]; done) | (simp only [l_FnRows, hb116, hb118, hb143, cL] <;> simp only [hb3, hb117, hb122, hb144, hb165, hb181, hb182, hb224, hb225, hb232, hb256, cL])
               rw [hM257]
               have q277 := Ex.trans (Ex.trans (Ex.trans (Below.only (Ex.trans (Ex.trans (Ex.trans (Below.only (Ex.trans (Ex.trans (Below.only (Ex.trans (Ex.trans (Ex.trans (Ex.trans (Below.only (Below.only (Ex.trans (Ex.trans (Ex.trans (Ex.refl w) hE13) hE22) hE28) hO32 (by omega)) hO36 (by omega)) hE55) hE66) hE76) hE82) hO85 (by omega)) hE106) hE112) hO115 (by omega)) hE142) hE154) hE161) hO164 (by omega)) hE180) hE199) hE205
               exact ⟨rfl, (Ex.trans (Below.only q277 hO208 (by omega)) hE223)⟩
              ·have hb256p := dec_f hb256
               refine sy rfl rfl hb256 (yl_move rfl rfl (sy rfl rfl hb256 (yl_fieldAddr fd28_0 rfl rfl (sy rfl rfl hb256 (yl_load1 ty23 rfl rfl ((q230.cell 0).trans rfl) (sy rfl rfl hb256 (yl_fieldAddr fd42_1 rfl rfl (sy rfl rfl hb256 (yl_load1 ty3 rfl rfl ((q231.cell 1).trans rfl) ?_)))))))))
               have q285 := OwnL.ex good_Str (OwnL.only good_Str (OwnL.ex good_Str (OwnL.ex good_Str (OwnL.ex good_Str q177 hE180) hE199) hE205) hO208 (by omega)) hE223
               obtain ⟨eb286, eo286, _, eA286, _, ebl286, _, eR286, eC286⟩ := RdS.atD (OwnL.rd good_Str q285) d_Str (i := ((i_IdxAt ((s_DrawIdxKey p_0).1) ((s_DrawIdxKey p_0).2.1)).1.Col).toNat) (by first | omega | assumption | (simp only [wI] at *; omega))
               obtain rfl := eR286
               have eC286 : Cells w219 eb286 (eo286 + (((i_IdxAt ((s_DrawIdxKey p_0).1) ((s_DrawIdxKey p_0).2.1)).1.Col).toNat) * 1) [.string (bs ((((s_DrawIdxKey p_0).2.2.Vals).getD (((i_IdxAt ((s_DrawIdxKey p_0).1) ((s_DrawIdxKey p_0).2.1)).1.Col).toNat) d_Str)))] := eC286
               refine sy rfl rfl hb256 (yl_indexAddr un23 ty9 rfl rfl rfl eA286 (by first | omega | assumption | (simp only [wI] at *; omega)) (by first | omega | assumption | (simp only [wI] at *; omega)) (sy rfl rfl hb256 (yl_load1 ty9 rfl rfl (eC286 0 _ rfl) (sy rfl rfl hb256 (yl_sneq (a := ((i_ReadIdxKey ((s_DrawIdxKey p_0).1) ((s_DrawIdxKey p_0).2.1) ((i_IdxKey ((s_DrawIdxKey p_0).1) ((s_DrawIdxKey p_0).2.1) ((s_DrawIdxKey p_0).2.2)).1)).1)) (b := (((s_DrawIdxKey p_0).2.2.Vals).getD (((i_IdxAt ((s_DrawIdxKey p_0).1) ((s_DrawIdxKey p_0).2.1)).1.Col).toNat) d_Str)) rfl rfl rfl (sd rfl (yl_pick_f rfl rfl hb256 rfl (sd rfl (yl_move rfl rfl (bcase (((i_ReadIdxKey ((s_DrawIdxKey p_0).1) ((s_DrawIdxKey p_0).2.1) ((i_IdxKey ((s_DrawIdxKey p_0).1) ((s_DrawIdxKey p_0).2.1) ((s_DrawIdxKey p_0).2.2)).1)).1) == (((s_DrawIdxKey p_0).2.2.Vals).getD (((i_IdxAt ((s_DrawIdxKey p_0).1) ((s_DrawIdxKey p_0).2.1)).1.Col).toNat) d_Str)) (fun hb287 => ?_) (fun hb287 => ?_)))))))))))
               ·refine sy rfl rfl (not_t hb287) (yl_move rfl rfl (sy rfl rfl (not_t hb287) (yl_fieldAddr fd28_0 rfl rfl (sy rfl rfl (not_t hb287) (yl_load1 ty23 rfl rfl ((q230.cell 0).trans rfl) ?_)))))
                obtain ⟨eb289, eo289, _, eA289, _, ebl289, _, eR289, eC289⟩ := RdS.aD (OwnL.rd good_Str q285) d_Str (i := 0)
                obtain rfl := eR289
                have eC289 : Cells w219 eb289 (eo289 + 0 * 1) [.string (bs ((((s_DrawIdxKey p_0).2.2.Vals).getD 0 d_Str)))] := eC289
                refine sy rfl rfl (not_t hb287) (yl_ixN un23 ty9 rfl rfl rfl eA289 (sy rfl rfl (not_t hb287) (yl_load1 ty9 rfl rfl (eC289 0 _ rfl) (sy rfl rfl (not_t hb287) (yl_sneq (a := ((i_ReadIdxKey ((s_DrawIdxKey p_0).1) ((s_DrawIdxKey p_0).2.1) ((i_IdxKey ((s_DrawIdxKey p_0).1) ((s_DrawIdxKey p_0).2.1) ((s_DrawIdxKey p_0).2.2)).1)).2.1)) (b := (((s_DrawIdxKey p_0).2.2.Vals).getD 0 d_Str)) rfl rfl rfl (sd rfl (yl_pick_f rfl rfl (not_t hb287) rfl (dn (bcase (((i_ReadIdxKey ((s_DrawIdxKey p_0).1) ((s_DrawIdxKey p_0).2.1) ((i_IdxKey ((s_DrawIdxKey p_0).1) ((s_DrawIdxKey p_0).2.1) ((s_DrawIdxKey p_0).2.2)).1)).2.1) == (((s_DrawIdxKey p_0).2.2.Vals).getD 0 d_Str)) (fun hb290 => ?_) (fun hb290 => ?_))))))))))
                ·refine CW.cond_f rfl (not_t hb290) (CW.skip (tn (CW.seq (CW.region (sd rfl (yl_move rfl rfl ?_))))))
                 have q303 := RdS.only good_U8 (RdS.ex good_U8 (RdS.ex good_U8 (RdS.only good_U8 (RdS.ex good_U8 (RdS.ex good_U8 (RdS.ex good_U8 (RdS.ex good_U8 (RdS.only good_U8 (RdS.only good_U8 (RdS.ex good_U8 (RdS.ex good_U8 (RdS.ex good_U8 h2 hE13) hE22) hE28) hO32 (by simp only [Iv]; omega)) hO36 (by simp only [Iv]; omega)) hE55) hE66) hE76) hE82) hO85 (by simp only [Iv]; omega)) hE106) hE112) hO115 (by simp only [Iv]; omega)
                 have q312 := RdS.ex good_U8 (RdS.only good_U8 (RdS.ex good_U8 (RdS.ex good_U8 (RdS.ex good_U8 (RdS.only good_U8 (RdS.ex good_U8 (RdS.ex good_U8 (RdS.ex good_U8 q303 hE142) hE154) hE161) hO164 (by simp only [Iv]; omega)) hE180) hE199) hE205) hO208 (by simp only [Iv]; omega)) hE223
                 refine sd rfl (yl_call en14 rfl (oc rfl oz) (Cal.mono (c_s_DrawReadRow p_1 (RdS.up q312 good_U8) (okL.mk (xs := p_1) (by first | omega | (simp only [List.length_append, List.length_cons, List.length_nil, List.length_take, List.length_drop, List.length_replicate, List.length_set]; omega)) fun _ _ => trivial) (by assumption)) ?_))
                 rintro v318 w313 ⟨A314, c314, lo314, hi314, A315, c315, lo315, hi315, rfl, h314, h315, ho316, ho317, hrn320, hrn321, hrn322, hE319⟩
                 have hE319z := Ex.size hE319
                 refine sd rfl (yl_move rfl rfl (sd rfl (yl_extract rfl rfl rfl (sd rfl (yl_extract rfl rfl rfl (sd rfl (yl_alloc ty26 (cs := [.string (bs (([] : Str))), .slice none 0 0, .slice none 0 0]) rfl rfl ?_)))))))
                 intro b323 w324 hs325 hz326 hB327 hE328
                 refine sd rfl (yl_alloc ty34 (cs := [.string (bs (([] : Str))), .string (bs (([] : Str))), .bool (false)]) rfl rfl ?_)
                 intro b329 w330 hs331 hz332 hB333 hE334
                 refine SeqR.u rfl rfl (yl_store (vs := [.string (bs ((s_DrawReadRow p_1).1.Name)), .slice A314 (((s_DrawReadRow p_1).1.Cols).length) c314, .slice A315 (((s_DrawReadRow p_1).1.Idxs).length) c315]) ty26 rfl rfl rfl rfl rfl rfl (Box.ex hB327 hE334) (Nat.le_of_ble_eq_true rfl) ?_)
                 intro w336 hB337 hO338
                 have hB337 : Box w336 b323 26 [.string (bs ((s_DrawReadRow p_1).1.Name)), .slice A314 (((s_DrawReadRow p_1).1.Cols).length) c314, .slice A315 (((s_DrawReadRow p_1).1.Idxs).length) c315] := hB337
                 have hO338z := hO338.size
                 refine SeqR.u rfl rfl (yl_store (vs := [.string (bs ((s_DrawReadRow p_1).2.Key)), .string (bs ((s_DrawReadRow p_1).2.Val)), .bool ((s_DrawReadRow p_1).2.Gone)]) ty34 rfl rfl rfl rfl rfl rfl (Box.only hB333 hO338 (by omega)) (Nat.le_of_ble_eq_true rfl) ?_)
                 intro w340 hB341 hO342
                 have hB341 : Box w340 b329 34 [.string (bs ((s_DrawReadRow p_1).2.Key)), .string (bs ((s_DrawReadRow p_1).2.Val)), .bool ((s_DrawReadRow p_1).2.Gone)] := hB341
                 have hO342z := hO342.size
                 refine dn (CW.seq (CW.region ?_))
                 have q343 := Box.only hB337 hO342 (by omega)
                 refine sd rfl (yl_loadN ty26 rfl rfl (q343.cells (n := 3) rfl) rfl (sd rfl (yl_loadN ty34 rfl rfl (hB341.cells (n := 3) rfl) rfl ?_)))
                 have q348 := OwnL.only good_Str (OwnL.only good_Str (OwnL.ex good_Str (OwnL.ex good_Str h314 hE328) hE334) hO338 (by omega)) hO342 (by omega)
                 have q353 := OwnL.only good_Idx (OwnL.only good_Idx (OwnL.ex good_Idx (OwnL.ex good_Idx h315 hE328) hE334) hO338 (by omega)) hO342 (by omega)
                 refine sd rfl (yl_call en10 rfl (oc rfl (oc rfl oz)) (Cal.mono (c_i_ReadRow ((s_DrawReadRow p_1).1) ((s_DrawReadRow p_1).2) (RdS.up (OwnL.rd good_Str q348) good_Str) (RdS.up (OwnL.rd good_Idx q353) good_Idx) ho316 ho317) ?_))
                 rintro v357 w354 ⟨A355, c355, lo355, hi355, rfl, h355, ho356, hrn359, hE358⟩
                 have hE358z := Ex.size hE358
                 refine sd rfl (yl_move rfl rfl (sd rfl (yl_extract rfl rfl rfl (sd rfl (yl_extract rfl rfl rfl (sd rfl (yl_alloc ty28 (cs := [.slice none 0 0]) rfl rfl ?_)))))))
                 intro b360 w361 hs362 hz363 hB364 hE365
                 refine SeqR.u rfl rfl (yl_store (vs := [.slice A355 (((i_ReadRow ((s_DrawReadRow p_1).1) ((s_DrawReadRow p_1).2)).1.Vals).length) c355]) ty28 rfl rfl rfl rfl rfl rfl hB364 (Nat.le_of_ble_eq_true rfl) ?_)
                 intro w366 hB367 hO368
                 have hB367 : Box w366 b360 28 [.slice A355 (((i_ReadRow ((s_DrawReadRow p_1).1) ((s_DrawReadRow p_1).2)).1.Vals).length) c355] := hB367
                 have hO368z := hO368.size
                 refine sd rfl (yl_assign rfl rfl (dn (CW.seq (CW.region ?_))))
                 have q371 := Box.only (Box.ex (Box.ex q343 hE358) hE365) hO368 (by omega)
                 refine sd rfl (yl_loadN ty26 rfl rfl (q371.cells (n := 3) rfl) rfl ?_)
                 have q374 := Box.only (Box.ex (Box.ex hB341 hE358) hE365) hO368 (by omega)
                 refine sd rfl (yl_loadN ty34 rfl rfl (q374.cells (n := 3) rfl) rfl ?_)
                 have q378 := OwnL.only good_Str (OwnL.ex good_Str (OwnL.ex good_Str q348 hE358) hE365) hO368 (by omega)
                 have q382 := OwnL.only good_Idx (OwnL.ex good_Idx (OwnL.ex good_Idx q353 hE358) hE365) hO368 (by omega)
                 refine sd rfl (yl_call en15 rfl (oc rfl (oc rfl oz)) (Cal.mono (c_s_ReadRow ((s_DrawReadRow p_1).1) ((s_DrawReadRow p_1).2) (RdS.up (OwnL.rd good_Str q378) good_Str) (RdS.up (OwnL.rd good_Idx q382) good_Idx) ho316 ho317) ?_))
                 rintro v386 w383 ⟨A384, c384, lo384, hi384, rfl, h384, ho385, hrn388, hE387⟩
                 have hE387z := Ex.size hE387
                 refine sd rfl (yl_move rfl rfl (sd rfl (yl_extract rfl rfl rfl (sd rfl (yl_extract rfl rfl rfl (sd rfl (yl_alloc ty28 (cs := [.slice none 0 0]) rfl rfl ?_)))))))
                 intro b389 w390 hs391 hz392 hB393 hE394
                 refine SeqR.u rfl rfl (yl_store (vs := [.slice A384 (((s_ReadRow ((s_DrawReadRow p_1).1) ((s_DrawReadRow p_1).2)).1.Vals).length) c384]) ty28 rfl rfl rfl rfl rfl rfl hB393 (Nat.le_of_ble_eq_true rfl) ?_)
                 intro w395 hB396 hO397
                 have hB396 : Box w395 b389 28 [.slice A384 (((s_ReadRow ((s_DrawReadRow p_1).1) ((s_DrawReadRow p_1).2)).1.Vals).length) c384] := hB396
                 have hO397z := hO397.size
                 refine sd rfl (yl_assign rfl rfl (dn (CW.seq (CW.region (sd rfl (yl_move rfl rfl (sd rfl (yl_call en16 rfl (oc rfl oz) (Cal.mono (c_s_DrawReadIdxKey p_1 (RdS.up (RdS.only good_U8 (RdS.ex good_U8 (RdS.ex good_U8 (RdS.only good_U8 (RdS.ex good_U8 (RdS.ex good_U8 (RdS.only good_U8 (RdS.only good_U8 (RdS.ex good_U8 (RdS.ex good_U8 (RdS.ex good_U8 q312 hE319) hE328) hE334) hO338 (by simp only [Iv]; omega)) hO342 (by simp only [Iv]; omega)) hE358) hE365) hO368 (by simp only [Iv]; omega)) hE387) hE394) hO397 (by simp only [Iv]; omega)) good_U8) (okL.mk (xs := p_1) (by first | omega | (simp only [List.length_append, List.length_cons, List.length_nil, List.length_take, List.length_drop, List.length_replicate, List.length_set]; omega)) fun _ _ => trivial) (by assumption)) ?_)))))))))
                 rintro v415 w409 ⟨A410, c410, lo410, hi410, A411, c411, lo411, hi411, rfl, h410, h411, ho412, ho413, ho414, hrn417, hrn418, hrn419, hE416⟩
                 have hE416z := Ex.size hE416
                 refine sd rfl (yl_move rfl rfl (sd rfl (yl_extract rfl rfl rfl (sd rfl (yl_extract rfl rfl rfl (sd rfl (yl_extract rfl rfl rfl (sd rfl (yl_alloc ty26 (cs := [.string (bs (([] : Str))), .slice none 0 0, .slice none 0 0]) rfl rfl ?_)))))))))
                 intro b420 w421 hs422 hz423 hB424 hE425
                 refine SeqR.u rfl rfl (yl_store (vs := [.string (bs ((s_DrawReadIdxKey p_1).1.Name)), .slice A410 (((s_DrawReadIdxKey p_1).1.Cols).length) c410, .slice A411 (((s_DrawReadIdxKey p_1).1.Idxs).length) c411]) ty26 rfl rfl rfl rfl rfl rfl hB424 (Nat.le_of_ble_eq_true rfl) ?_)
                 intro w426 hB427 hO428
                 have hB427 : Box w426 b420 26 [.string (bs ((s_DrawReadIdxKey p_1).1.Name)), .slice A410 (((s_DrawReadIdxKey p_1).1.Cols).length) c410, .slice A411 (((s_DrawReadIdxKey p_1).1.Idxs).length) c411] := hB427
                 have hO428z := hO428.size
                 refine sd rfl (yl_assign rfl rfl (sd rfl (yl_assign rfl rfl (dn (CW.seq (CW.region (sd rfl (yl_loadN ty26 rfl rfl (hB427.cells (n := 3) rfl) rfl (sd rfl (yl_move rfl rfl (sd rfl (yl_move rfl rfl ?_))))))))))))
                 have q431 := OwnL.only good_Str (OwnL.ex good_Str h410 hE425) hO428 (by omega)
                 have q434 := OwnL.only good_Idx (OwnL.ex good_Idx h411 hE425) hO428 (by omega)
                 refine sd rfl (yl_call en13 rfl (oc rfl (oc rfl (oc rfl oz))) (Cal.mono (c_i_ReadIdxKey ((s_DrawReadIdxKey p_1).1) ((s_DrawReadIdxKey p_1).2.1) ((s_DrawReadIdxKey p_1).2.2) (RdS.up (OwnL.rd good_Str q431) good_Str) (RdS.up (OwnL.rd good_Idx q434) good_Idx) ho412 ho413 ho414) ?_))
                 rintro v438 w435 ⟨rfl, ho436, ho437, hE439⟩
                 have hE439z := Ex.size hE439
                 refine sd rfl (yl_move rfl rfl (sd rfl (yl_extract rfl rfl rfl (sd rfl (yl_extract rfl rfl rfl (sd rfl (yl_extract rfl rfl rfl (sd rfl (yl_assign rfl rfl (sd rfl (yl_assign rfl rfl (sd rfl (yl_assign rfl rfl (dn ?_))))))))))))))
                 refine CW.seq (CW.region (sd rfl (yl_loadN ty26 rfl rfl ((Box.ex hB427 hE439).cells (n := 3) rfl) rfl (sd rfl (yl_move rfl rfl (sd rfl (yl_move rfl rfl (sd rfl (yl_call en17 rfl (oc rfl (oc rfl (oc rfl oz))) (Cal.mono (c_s_ReadIdxKey ((s_DrawReadIdxKey p_1).1) ((s_DrawReadIdxKey p_1).2.1) ((s_DrawReadIdxKey p_1).2.2) (RdS.up (OwnL.rd good_Str (OwnL.ex good_Str q431 hE439)) good_Str) (RdS.up (OwnL.rd good_Idx (OwnL.ex good_Idx q434 hE439)) good_Idx) ho412 ho413 ho414) ?_))))))))))
                 rintro v448 w445 ⟨rfl, ho446, ho447, hE449⟩
                 have hE449z := Ex.size hE449
                 refine sd rfl (yl_move rfl rfl (sd rfl (yl_extract rfl rfl rfl (sd rfl (yl_extract rfl rfl rfl (sd rfl (yl_extract rfl rfl rfl (sd rfl (yl_assign rfl rfl (sd rfl (yl_assign rfl rfl (sd rfl (yl_assign rfl rfl (dn ?_))))))))))))))
                 refine CW.seq (CW.seq (CW.region (sd rfl (yl_move rfl rfl (sd rfl (yl_move rfl rfl (sd rfl (yl_bneq un4 rfl rfl rfl (sd rfl (yl_move rfl rfl (bcase (((i_ReadRow ((s_DrawReadRow p_1).1) ((s_DrawReadRow p_1).2)).2) == ((s_ReadRow ((s_DrawReadRow p_1).1) ((s_DrawReadRow p_1).2)).2)) (fun hb450 => ?_) (fun hb450 => ?_))))))))))))
                 ·refine sy rfl rfl (not_t hb450) (yl_fieldAddr fd28_0 rfl rfl ?_)
                  have q458 := Box.ex (Box.ex (Box.only (Box.ex (Box.ex (Box.only (Box.ex (Box.ex hB367 hE387) hE394) hO397 (by omega)) hE416) hE425) hO428 (by omega)) hE439) hE449
                  refine sy rfl rfl (not_t hb450) (yl_load1 ty23 rfl rfl ((q458.cell 0).trans rfl) (sy rfl rfl (not_t hb450) (yl_fieldAddr fd28_0 rfl rfl (sy rfl rfl (not_t hb450) (yl_load1 ty23 rfl rfl (((Box.ex (Box.ex (Box.only (Box.ex (Box.ex hB396 hE416) hE425) hO428 (by omega)) hE439) hE449).cell 0).trans rfl) ?_)))))
                  have q474 := OwnL.ex good_Str (OwnL.ex good_Str (OwnL.only good_Str (OwnL.ex good_Str (OwnL.ex good_Str (OwnL.only good_Str (OwnL.ex good_Str (OwnL.ex good_Str (OwnL.only good_Str (OwnL.ex good_Str h355 hE365) hO368 (by omega)) hE387) hE394) hO397 (by omega)) hE416) hE425) hO428 (by omega)) hE439) hE449
                  refine sy rfl rfl (not_t hb450) (yl_call en11 rfl (oc rfl (oc rfl oz)) (Cal.mono (c_l_qSameS ((i_ReadRow ((s_DrawReadRow p_1).1) ((s_DrawReadRow p_1).2)).1.Vals) ((s_ReadRow ((s_DrawReadRow p_1).1) ((s_DrawReadRow p_1).2)).1.Vals) (RdS.up (OwnL.rd good_Str q474) good_Str) (RdS.up (OwnL.rd good_Str (OwnL.ex good_Str (OwnL.ex good_Str (OwnL.only good_Str (OwnL.ex good_Str (OwnL.ex good_Str (OwnL.only good_Str (OwnL.ex good_Str h384 hE394) hO397 (by omega)) hE416) hE425) hO428 (by omega)) hE439) hE449)) good_Str) ho356 ho385) ?_))
                  rintro v484 w483 ⟨rfl, hE485⟩
                  have hE485z := Ex.size hE485
                  refine sy rfl rfl (not_t hb450) (yl_not rfl rfl (sd rfl (yl_pick_f rfl rfl (not_t hb450) rfl (sd rfl (yl_move rfl rfl (bcase (l_qSameS ((i_ReadRow ((s_DrawReadRow p_1).1) ((s_DrawReadRow p_1).2)).1.Vals) ((s_ReadRow ((s_DrawReadRow p_1).1) ((s_DrawReadRow p_1).2)).1.Vals)) (fun hb486 => ?_) (fun hb486 => ?_)))))))
                  ·refine sy rfl rfl (not_t hb486) (yl_move rfl rfl (sy rfl rfl (not_t hb486) (yl_move rfl rfl (sy rfl rfl (not_t hb486) (yl_bneq un4 rfl rfl rfl (sd rfl (yl_pick_f rfl rfl (not_t hb486) rfl (sd rfl (yl_move rfl rfl (bcase (((i_ReadIdxKey ((s_DrawReadIdxKey p_1).1) ((s_DrawReadIdxKey p_1).2.1) ((s_DrawReadIdxKey p_1).2.2)).2.2) == ((s_ReadIdxKey ((s_DrawReadIdxKey p_1).1) ((s_DrawReadIdxKey p_1).2.1) ((s_DrawReadIdxKey p_1).2.2)).2.2)) (fun hb487 => ?_) (fun hb487 => ?_)))))))))))
                   ·refine sy rfl rfl (not_t hb487) (yl_move rfl rfl (sy rfl rfl (not_t hb487) (yl_move rfl rfl (sy rfl rfl (not_t hb487) (yl_sneq (a := ((i_ReadIdxKey ((s_DrawReadIdxKey p_1).1) ((s_DrawReadIdxKey p_1).2.1) ((s_DrawReadIdxKey p_1).2.2)).1)) (b := ((s_ReadIdxKey ((s_DrawReadIdxKey p_1).1) ((s_DrawReadIdxKey p_1).2.1) ((s_DrawReadIdxKey p_1).2.2)).1)) rfl rfl rfl (sd rfl (yl_pick_f rfl rfl (not_t hb487) rfl (sd rfl (yl_move rfl rfl (bcase (((i_ReadIdxKey ((s_DrawReadIdxKey p_1).1) ((s_DrawReadIdxKey p_1).2.1) ((s_DrawReadIdxKey p_1).2.2)).1) == ((s_ReadIdxKey ((s_DrawReadIdxKey p_1).1) ((s_DrawReadIdxKey p_1).2.1) ((s_DrawReadIdxKey p_1).2.2)).1)) (fun hb488 => ?_) (fun hb488 => ?_)))))))))))
                    ·refine sy rfl rfl (not_t hb488) (yl_move rfl rfl (sy rfl rfl (not_t hb488) (yl_move rfl rfl (sy rfl rfl (not_t hb488) (yl_sneq (a := ((i_ReadIdxKey ((s_DrawReadIdxKey p_1).1) ((s_DrawReadIdxKey p_1).2.1) ((s_DrawReadIdxKey p_1).2.2)).2.1)) (b := ((s_ReadIdxKey ((s_DrawReadIdxKey p_1).1) ((s_DrawReadIdxKey p_1).2.1) ((s_DrawReadIdxKey p_1).2.2)).2.1)) rfl rfl rfl (sd rfl (yl_pick_f rfl rfl (not_t hb488) rfl (dn (bcase (((i_ReadIdxKey ((s_DrawReadIdxKey p_1).1) ((s_DrawReadIdxKey p_1).2.1) ((s_DrawReadIdxKey p_1).2.2)).2.1) == ((s_ReadIdxKey ((s_DrawReadIdxKey p_1).1) ((s_DrawReadIdxKey p_1).2.1) ((s_DrawReadIdxKey p_1).2.2)).2.1)) (fun hb489 => ?_) (fun hb489 => ?_))))))))))
                     ·refine CW.cond_f rfl (not_t hb489) (CW.skip (tn (CW.seq (CW.seq (CW.region (sd rfl (yl_move rfl rfl (dn ?_))))))))
                      refine bcase ((i_ReadRow ((s_DrawReadRow p_1).1) ((s_DrawReadRow p_1).2)).2) (fun hb490 => ?_) (fun hb490 => ?_)
                      ·refine CW.cond_t rfl hb490 (CW.seq (CW.region (sd rfl (yl_loadN ty26 rfl rfl ((Box.ex (Box.ex (Box.ex (Box.only (Box.ex (Box.ex (Box.only (Box.ex (Box.ex q371 hE387) hE394) hO397 (by omega)) hE416) hE425) hO428 (by omega)) hE439) hE449) hE485).cells (n := 3) rfl) rfl (sd rfl (yl_loadN ty28 rfl rfl ((Box.ex q458 hE485).cells (n := 1) rfl) rfl (sd rfl (yl_call en7 rfl (oc rfl (oc rfl oz)) (Cal.mono (c_i_RowWrite ((s_DrawReadRow p_1).1) ((i_ReadRow ((s_DrawReadRow p_1).1) ((s_DrawReadRow p_1).2)).1) (RdS.up (OwnL.rd good_Str (OwnL.ex good_Str (OwnL.ex good_Str (OwnL.ex good_Str (OwnL.only good_Str (OwnL.ex good_Str (OwnL.ex good_Str (OwnL.only good_Str (OwnL.ex good_Str (OwnL.ex good_Str q378 hE387) hE394) hO397 (by omega)) hE416) hE425) hO428 (by omega)) hE439) hE449) hE485)) good_Str) (RdS.up (OwnL.rd good_Idx (OwnL.ex good_Idx (OwnL.ex good_Idx (OwnL.ex good_Idx (OwnL.only good_Idx (OwnL.ex good_Idx (OwnL.ex good_Idx (OwnL.only good_Idx (OwnL.ex good_Idx (OwnL.ex good_Idx q382 hE387) hE394) hO397 (by omega)) hE416) hE425) hO428 (by omega)) hE439) hE449) hE485)) good_Idx) (RdS.up (OwnL.rd good_Str (OwnL.ex good_Str q474 hE485)) good_Str) ho316 ho356) ?_)))))))))
                       rintro v524 w523 ⟨rfl, hE525⟩
                       have hE525z := Ex.size hE525
                       refine sd rfl (yl_move rfl rfl (sd rfl (yl_extract rfl rfl rfl (sd rfl (yl_extract rfl rfl rfl (sd rfl (yl_alloc ty34 (cs := [.string (bs (([] : Str))), .string (bs (([] : Str))), .bool (false)]) rfl rfl ?_)))))))
                       intro b526 w527 hs528 hz529 hB530 hE531
                       refine SeqR.u rfl rfl (yl_store (vs := [.string (bs ((i_RowWrite ((s_DrawReadRow p_1).1) ((i_ReadRow ((s_DrawReadRow p_1).1) ((s_DrawReadRow p_1).2)).1)).1.Key)), .string (bs ((i_RowWrite ((s_DrawReadRow p_1).1) ((i_ReadRow ((s_DrawReadRow p_1).1) ((s_DrawReadRow p_1).2)).1)).1.Val)), .bool ((i_RowWrite ((s_DrawReadRow p_1).1) ((i_ReadRow ((s_DrawReadRow p_1).1) ((s_DrawReadRow p_1).2)).1)).1.Gone)]) ty34 rfl rfl rfl rfl rfl rfl hB530 (Nat.le_of_ble_eq_true rfl) ?_)
                       intro w532 hB533 hO534
                       have hB533 : Box w532 b526 34 [.string (bs ((i_RowWrite ((s_DrawReadRow p_1).1) ((i_ReadRow ((s_DrawReadRow p_1).1) ((s_DrawReadRow p_1).2)).1)).1.Key)), .string (bs ((i_RowWrite ((s_DrawReadRow p_1).1) ((i_ReadRow ((s_DrawReadRow p_1).1) ((s_DrawReadRow p_1).2)).1)).1.Val)), .bool ((i_RowWrite ((s_DrawReadRow p_1).1) ((i_ReadRow ((s_DrawReadRow p_1).1) ((s_DrawReadRow p_1).2)).1)).1.Gone)] := hB533
                       have hO534z := hO534.size
                       refine sd rfl (yl_assign rfl rfl (dn (CW.seq (CW.region (sd rfl (yl_move rfl rfl (sd rfl (yl_move rfl rfl (bcase ((i_RowWrite ((s_DrawReadRow p_1).1) ((i_ReadRow ((s_DrawReadRow p_1).1) ((s_DrawReadRow p_1).2)).1)).2) (fun hb535 => ?_) (fun hb535 => ?_))))))))))
                       ·refine sy rfl rfl hb535 (yl_loadN ty34 rfl rfl (hB533.cells (n := 3) rfl) rfl (sy rfl rfl hb535 (yl_loadN ty34 rfl rfl ((Box.only (Box.ex (Box.ex (Box.ex (Box.ex (Box.ex (Box.only (Box.ex (Box.ex (Box.only (Box.ex (Box.ex q374 hE387) hE394) hO397 (by omega)) hE416) hE425) hO428 (by omega)) hE439) hE449) hE485) hE525) hE531) hO534 (by omega)).cells (n := 3) rfl) rfl (sy rfl rfl hb535 (yl_aeql (xs := [.string (bs ((i_RowWrite ((s_DrawReadRow p_1).1) ((i_ReadRow ((s_DrawReadRow p_1).1) ((s_DrawReadRow p_1).2)).1)).1.Key)), .string (bs ((i_RowWrite ((s_DrawReadRow p_1).1) ((i_ReadRow ((s_DrawReadRow p_1).1) ((s_DrawReadRow p_1).2)).1)).1.Val)), .bool ((i_RowWrite ((s_DrawReadRow p_1).1) ((i_ReadRow ((s_DrawReadRow p_1).1) ((s_DrawReadRow p_1).2)).1)).1.Gone)]) (ys := [.string (bs ((s_DrawReadRow p_1).2.Key)), .string (bs ((s_DrawReadRow p_1).2.Val)), .bool ((s_DrawReadRow p_1).2.Gone)]) Tryd.ae34 rfl rfl rfl (sd rfl (yl_pick_t rfl rfl hb535 rfl (sd rfl (yl_assign rfl rfl (SeqR.done ?_))))))))))
                        refine tn (CW.ret (tr (rr rfl (.cons rfl .nil) ?_)))
                        have hM548 : (l_FnRows p_0 p_1) = (((((i_RowWrite ((s_DrawReadRow p_1).1) ((i_ReadRow ((s_DrawReadRow p_1).1) ((s_DrawReadRow p_1).2)).1)).1.Key) == ((s_DrawReadRow p_1).2.Key)) && ((((i_RowWrite ((s_DrawReadRow p_1).1) ((i_ReadRow ((s_DrawReadRow p_1).1) ((s_DrawReadRow p_1).2)).1)).1.Val) == ((s_DrawReadRow p_1).2.Val)) && (((i_RowWrite ((s_DrawReadRow p_1).1) ((i_ReadRow ((s_DrawReadRow p_1).1) ((s_DrawReadRow p_1).2)).1)).1.Gone) == ((s_DrawReadRow p_1).2.Gone))))) := by first | (simp only [l_FnRows, hb3, hb116, hb117, hb118, hb122, hb143, hb144, hb165, hb181, hb182, hb224, hb225, hb232, hb256, hb287, hb290, hb450, hb486, hb487, hb488, hb489, hb490, hb535, cL]; done) | (simp only [l_FnRows, hb116, hb118, hb143, hb450, cL] <;> simp only [hb3, hb117, hb122, hb144, hb165, hb181, hb182, hb224, hb225, hb232, hb256, hb287, hb290, hb486, hb487, hb488, hb489, hb490, hb535, cL])
                        rw [hM548]
                        have q568 := Ex.trans (Ex.trans (Ex.trans (Below.only (Ex.trans (Ex.trans (Ex.trans (Below.only (Ex.trans (Ex.trans (Below.only (Ex.trans (Ex.trans (Ex.trans (Ex.trans (Below.only (Below.only (Ex.trans (Ex.trans (Ex.trans (Ex.refl w) hE13) hE22) hE28) hO32 (by omega)) hO36 (by omega)) hE55) hE66) hE76) hE82) hO85 (by omega)) hE106) hE112) hO115 (by omega)) hE142) hE154) hE161) hO164 (by omega)) hE180) hE199) hE205
                        have q587 := Ex.trans (Ex.trans (Ex.trans (Below.only (Ex.trans (Ex.trans (Below.only (Ex.trans (Ex.trans (Below.only (Ex.trans (Ex.trans (Below.only (Below.only (Ex.trans (Ex.trans (Ex.trans (Ex.trans (Below.only q568 hO208 (by omega)) hE223) hE319) hE328) hE334) hO338 (by omega)) hO342 (by omega)) hE358) hE365) hO368 (by omega)) hE387) hE394) hO397 (by omega)) hE416) hE425) hO428 (by omega)) hE439) hE449) hE485
                        exact ⟨rfl, (Below.only (Ex.trans (Ex.trans q587 hE525) hE531) hO534 (by omega))⟩
                       ·refine sz rfl rfl hb535 (sz rfl rfl hb535 (sz rfl rfl hb535 (sd rfl (yl_pick_f rfl rfl hb535 rfl (sd rfl (yl_assign rfl rfl (dn (CW.ret (tr ?_)))))))))
                        refine rr rfl (.cons rfl .nil) ?_
                        have hM591 : (l_FnRows p_0 p_1) = (false) := by first | (simp only [l_FnRows, hb3, hb116, hb117, hb118, hb122, hb143, hb144, hb165, hb181, hb182, hb224, hb225, hb232, hb256, hb287, hb290, hb450, hb486, hb487, hb488, hb489, hb490, hb535, cL]; done) | (simp only [l_FnRows, hb116, hb118, hb143, hb450, cL] <;> simp only [hb3, hb117, hb122, hb144, hb165, hb181, hb182, hb224, hb225, hb232, hb256, hb287, hb290, hb486, hb487, hb488, hb489, hb490, hb535, cL])
                        rw [hM591]
                        have q611 := Ex.trans (Ex.trans (Ex.trans (Below.only (Ex.trans (Ex.trans (Ex.trans (Below.only (Ex.trans (Ex.trans (Below.only (Ex.trans (Ex.trans (Ex.trans (Ex.trans (Below.only (Below.only (Ex.trans (Ex.trans (Ex.trans (Ex.refl w) hE13) hE22) hE28) hO32 (by omega)) hO36 (by omega)) hE55) hE66) hE76) hE82) hO85 (by omega)) hE106) hE112) hO115 (by omega)) hE142) hE154) hE161) hO164 (by omega)) hE180) hE199) hE205
                        have q630 := Ex.trans (Ex.trans (Ex.trans (Below.only (Ex.trans (Ex.trans (Below.only (Ex.trans (Ex.trans (Below.only (Ex.trans (Ex.trans (Below.only (Below.only (Ex.trans (Ex.trans (Ex.trans (Ex.trans (Below.only q611 hO208 (by omega)) hE223) hE319) hE328) hE334) hO338 (by omega)) hO342 (by omega)) hE358) hE365) hO368 (by omega)) hE387) hE394) hO397 (by omega)) hE416) hE425) hO428 (by omega)) hE439) hE449) hE485
                        exact ⟨rfl, (Below.only (Ex.trans (Ex.trans q630 hE525) hE531) hO534 (by omega))⟩
                      ·refine CW.cond_f rfl hb490 (CW.skip (tn (CW.seq (CW.region (sd rfl (yl_assign rfl rfl (dn (CW.ret ?_))))))))
                       refine rr rfl (.cons rfl .nil) ?_
                       have hM634 : (l_FnRows p_0 p_1) = (true) := by first | (simp only [l_FnRows, hb3, hb116, hb117, hb118, hb122, hb143, hb144, hb165, hb181, hb182, hb224, hb225, hb232, hb256, hb287, hb290, hb450, hb486, hb487, hb488, hb489, hb490, cL]; done) | (simp only [l_FnRows, hb116, hb118, hb143, hb450, cL] <;> simp only [hb3, hb117, hb122, hb144, hb165, hb181, hb182, hb224, hb225, hb232, hb256, hb287, hb290, hb486, hb487, hb488, hb489, hb490, cL])
                       rw [hM634]
                       have q654 := Ex.trans (Ex.trans (Ex.trans (Below.only (Ex.trans (Ex.trans (Ex.trans (Below.only (Ex.trans (Ex.trans (Below.only (Ex.trans (Ex.trans (Ex.trans (Ex.trans (Below.only (Below.only (Ex.trans (Ex.trans (Ex.trans (Ex.refl w) hE13) hE22) hE28) hO32 (by omega)) hO36 (by omega)) hE55) hE66) hE76) hE82) hO85 (by omega)) hE106) hE112) hO115 (by omega)) hE142) hE154) hE161) hO164 (by omega)) hE180) hE199) hE205
                       have q673 := Ex.trans (Ex.trans (Ex.trans (Below.only (Ex.trans (Ex.trans (Below.only (Ex.trans (Ex.trans (Below.only (Ex.trans (Ex.trans (Below.only (Below.only (Ex.trans (Ex.trans (Ex.trans (Ex.trans (Below.only q654 hO208 (by omega)) hE223) hE319) hE328) hE334) hO338 (by omega)) hO342 (by omega)) hE358) hE365) hO368 (by omega)) hE387) hE394) hO397 (by omega)) hE416) hE425) hO428 (by omega)) hE439) hE449) hE485
                       exact ⟨rfl, q673⟩
                     ·refine CW.cond_t rfl (not_f hb489) (CW.seq (CW.region (sd rfl (yl_assign rfl rfl (dn (CW.ret (tr (rr rfl (.cons rfl .nil) ?_))))))))
                      have hM674 : (l_FnRows p_0 p_1) = (false) := by first | (simp only [l_FnRows, hb3, hb116, hb117, hb118, hb122, hb143, hb144, hb165, hb181, hb182, hb224, hb225, hb232, hb256, hb287, hb290, hb450, hb486, hb487, hb488, hb489, cL]; done) | (simp only [l_FnRows, hb116, hb118, hb143, cL] <;> simp only [hb3, hb117, hb122, hb144, hb165, hb181, hb182, hb224, hb225, hb232, hb256, hb287, hb290, hb450, hb486, hb487, hb488, hb489, cL])
                      rw [hM674]
                      have q694 := Ex.trans (Ex.trans (Ex.trans (Below.only (Ex.trans (Ex.trans (Ex.trans (Below.only (Ex.trans (Ex.trans (Below.only (Ex.trans (Ex.trans (Ex.trans (Ex.trans (Below.only (Below.only (Ex.trans (Ex.trans (Ex.trans (Ex.refl w) hE13) hE22) hE28) hO32 (by omega)) hO36 (by omega)) hE55) hE66) hE76) hE82) hO85 (by omega)) hE106) hE112) hO115 (by omega)) hE142) hE154) hE161) hO164 (by omega)) hE180) hE199) hE205
                      have q713 := Ex.trans (Ex.trans (Ex.trans (Below.only (Ex.trans (Ex.trans (Below.only (Ex.trans (Ex.trans (Below.only (Ex.trans (Ex.trans (Below.only (Below.only (Ex.trans (Ex.trans (Ex.trans (Ex.trans (Below.only q694 hO208 (by omega)) hE223) hE319) hE328) hE334) hO338 (by omega)) hO342 (by omega)) hE358) hE365) hO368 (by omega)) hE387) hE394) hO397 (by omega)) hE416) hE425) hO428 (by omega)) hE439) hE449) hE485
                      exact ⟨rfl, q713⟩
                    ·refine sz rfl rfl (not_f hb488) (sz rfl rfl (not_f hb488) (sz rfl rfl (not_f hb488) (sd rfl (yl_pick_t rfl rfl (not_f hb488) rfl (dn (CW.cond_t rfl rfl (CW.seq (CW.region ?_))))))))
                     refine sd rfl (yl_assign rfl rfl (dn (CW.ret (tr (rr rfl (.cons rfl .nil) ?_)))))
                     have hM714 : (l_FnRows p_0 p_1) = (false) := by first | (simp only [l_FnRows, hb3, hb116, hb117, hb118, hb122, hb143, hb144, hb165, hb181, hb182, hb224, hb225, hb232, hb256, hb287, hb290, hb450, hb486, hb487, hb488, cL]; done) | (simp only [l_FnRows, hb116, hb118, hb143, cL] <;> simp only [hb3, hb117, hb122, hb144, hb165, hb181, hb182, hb224, hb225, hb232, hb256, hb287, hb290, hb450, hb486, hb487, hb488, cL])
                     rw [hM714]
                     have q734 := Ex.trans (Ex.trans (Ex.trans (Below.only (Ex.trans (Ex.trans (Ex.trans (Below.only (Ex.trans (Ex.trans (Below.only (Ex.trans (Ex.trans (Ex.trans (Ex.trans (Below.only (Below.only (Ex.trans (Ex.trans (Ex.trans (Ex.refl w) hE13) hE22) hE28) hO32 (by omega)) hO36 (by omega)) hE55) hE66) hE76) hE82) hO85 (by omega)) hE106) hE112) hO115 (by omega)) hE142) hE154) hE161) hO164 (by omega)) hE180) hE199) hE205
                     have q753 := Ex.trans (Ex.trans (Ex.trans (Below.only (Ex.trans (Ex.trans (Below.only (Ex.trans (Ex.trans (Below.only (Ex.trans (Ex.trans (Below.only (Below.only (Ex.trans (Ex.trans (Ex.trans (Ex.trans (Below.only q734 hO208 (by omega)) hE223) hE319) hE328) hE334) hO338 (by omega)) hO342 (by omega)) hE358) hE365) hO368 (by omega)) hE387) hE394) hO397 (by omega)) hE416) hE425) hO428 (by omega)) hE439) hE449) hE485
                     exact ⟨rfl, q753⟩
                   ·refine sz rfl rfl (not_f hb487) (sz rfl rfl (not_f hb487) (sz rfl rfl (not_f hb487) (sd rfl (yl_pick_t rfl rfl (not_f hb487) rfl (sd rfl (yl_move rfl rfl (sz rfl rfl rfl (sz rfl rfl rfl (sz rfl rfl rfl (sd rfl (yl_pick_t rfl rfl rfl rfl ?_)))))))))))
                    refine dn (CW.cond_t rfl rfl (CW.seq (CW.region (sd rfl (yl_assign rfl rfl (dn (CW.ret ?_)))))))
                    refine tr (rr rfl (.cons rfl .nil) ?_)
                    have hM754 : (l_FnRows p_0 p_1) = (false) := by first | (simp only [l_FnRows, hb3, hb116, hb117, hb118, hb122, hb143, hb144, hb165, hb181, hb182, hb224, hb225, hb232, hb256, hb287, hb290, hb450, hb486, hb487, cL]; done) | (simp only [l_FnRows, hb116, hb118, hb143, cL] <;> simp only [hb3, hb117, hb122, hb144, hb165, hb181, hb182, hb224, hb225, hb232, hb256, hb287, hb290, hb450, hb486, hb487, cL])
                    rw [hM754]
                    have q774 := Ex.trans (Ex.trans (Ex.trans (Below.only (Ex.trans (Ex.trans (Ex.trans (Below.only (Ex.trans (Ex.trans (Below.only (Ex.trans (Ex.trans (Ex.trans (Ex.trans (Below.only (Below.only (Ex.trans (Ex.trans (Ex.trans (Ex.refl w) hE13) hE22) hE28) hO32 (by omega)) hO36 (by omega)) hE55) hE66) hE76) hE82) hO85 (by omega)) hE106) hE112) hO115 (by omega)) hE142) hE154) hE161) hO164 (by omega)) hE180) hE199) hE205
                    have q793 := Ex.trans (Ex.trans (Ex.trans (Below.only (Ex.trans (Ex.trans (Below.only (Ex.trans (Ex.trans (Below.only (Ex.trans (Ex.trans (Below.only (Below.only (Ex.trans (Ex.trans (Ex.trans (Ex.trans (Below.only q774 hO208 (by omega)) hE223) hE319) hE328) hE334) hO338 (by omega)) hO342 (by omega)) hE358) hE365) hO368 (by omega)) hE387) hE394) hO397 (by omega)) hE416) hE425) hO428 (by omega)) hE439) hE449) hE485
                    exact ⟨rfl, q793⟩
                  ·refine sz rfl rfl (not_f hb486) (sz rfl rfl (not_f hb486) (sz rfl rfl (not_f hb486) (sd rfl (yl_pick_t rfl rfl (not_f hb486) rfl (sd rfl (yl_move rfl rfl (sz rfl rfl rfl (sz rfl rfl rfl (sz rfl rfl rfl (sd rfl (yl_pick_t rfl rfl rfl rfl ?_)))))))))))
                   refine sd rfl (yl_move rfl rfl (sz rfl rfl rfl (sz rfl rfl rfl (sz rfl rfl rfl (sd rfl (yl_pick_t rfl rfl rfl rfl (dn (CW.cond_t rfl rfl (CW.seq ?_)))))))))
                   refine CW.region (sd rfl (yl_assign rfl rfl (dn (CW.ret (tr (rr rfl (.cons rfl .nil) ?_))))))
                   have hM794 : (l_FnRows p_0 p_1) = (false) := by first | (simp only [l_FnRows, hb3, hb116, hb117, hb118, hb122, hb143, hb144, hb165, hb181, hb182, hb224, hb225, hb232, hb256, hb287, hb290, hb450, hb486, cL]; done) | (simp only [l_FnRows, hb116, hb118, hb143, cL] <;> simp only [hb3, hb117, hb122, hb144, hb165, hb181, hb182, hb224, hb225, hb232, hb256, hb287, hb290, hb450, hb486, cL])
                   rw [hM794]
                   have q814 := Ex.trans (Ex.trans (Ex.trans (Below.only (Ex.trans (Ex.trans (Ex.trans (Below.only (Ex.trans (Ex.trans (Below.only (Ex.trans (Ex.trans (Ex.trans (Ex.trans (Below.only (Below.only (Ex.trans (Ex.trans (Ex.trans (Ex.refl w) hE13) hE22) hE28) hO32 (by omega)) hO36 (by omega)) hE55) hE66) hE76) hE82) hO85 (by omega)) hE106) hE112) hO115 (by omega)) hE142) hE154) hE161) hO164 (by omega)) hE180) hE199) hE205
                   have q833 := Ex.trans (Ex.trans (Ex.trans (Below.only (Ex.trans (Ex.trans (Below.only (Ex.trans (Ex.trans (Below.only (Ex.trans (Ex.trans (Below.only (Below.only (Ex.trans (Ex.trans (Ex.trans (Ex.trans (Below.only q814 hO208 (by omega)) hE223) hE319) hE328) hE334) hO338 (by omega)) hO342 (by omega)) hE358) hE365) hO368 (by omega)) hE387) hE394) hO397 (by omega)) hE416) hE425) hO428 (by omega)) hE439) hE449) hE485
                   exact ⟨rfl, q833⟩
                 ·refine sz rfl rfl (not_f hb450) (sz rfl rfl (not_f hb450) (sz rfl rfl (not_f hb450) (sz rfl rfl (not_f hb450) (sz rfl rfl (not_f hb450) (sz rfl rfl (not_f hb450) (sd rfl (yl_pick_t rfl rfl (not_f hb450) rfl (sd rfl (yl_move rfl rfl (sz rfl rfl rfl ?_))))))))))
                  refine sz rfl rfl rfl (sz rfl rfl rfl (sd rfl (yl_pick_t rfl rfl rfl rfl (sd rfl (yl_move rfl rfl (sz rfl rfl rfl (sz rfl rfl rfl (sz rfl rfl rfl (sd rfl (yl_pick_t rfl rfl rfl rfl (sd rfl (yl_move rfl rfl ?_))))))))))))
                  refine sz rfl rfl rfl (sz rfl rfl rfl (sz rfl rfl rfl (sd rfl (yl_pick_t rfl rfl rfl rfl (dn (CW.cond_t rfl rfl (CW.seq (CW.region ?_))))))))
                  refine sd rfl (yl_assign rfl rfl (dn (CW.ret (tr (rr rfl (.cons rfl .nil) ?_)))))
                  have hM834 : (l_FnRows p_0 p_1) = (false) := by first | (simp only [l_FnRows, hb3, hb116, hb117, hb118, hb122, hb143, hb144, hb165, hb181, hb182, hb224, hb225, hb232, hb256, hb287, hb290, hb450, cL]; done) | (simp only [l_FnRows, hb116, hb118, hb143, cL] <;> simp only [hb3, hb117, hb122, hb144, hb165, hb181, hb182, hb224, hb225, hb232, hb256, hb287, hb290, hb450, cL])
                  rw [hM834]
                  have q854 := Ex.trans (Ex.trans (Ex.trans (Below.only (Ex.trans (Ex.trans (Ex.trans (Below.only (Ex.trans (Ex.trans (Below.only (Ex.trans (Ex.trans (Ex.trans (Ex.trans (Below.only (Below.only (Ex.trans (Ex.trans (Ex.trans (Ex.refl w) hE13) hE22) hE28) hO32 (by omega)) hO36 (by omega)) hE55) hE66) hE76) hE82) hO85 (by omega)) hE106) hE112) hO115 (by omega)) hE142) hE154) hE161) hO164 (by omega)) hE180) hE199) hE205
                  exact ⟨rfl, (Ex.trans (Ex.trans (Below.only (Ex.trans (Ex.trans (Below.only (Ex.trans (Ex.trans (Below.only (Ex.trans (Ex.trans (Below.only (Below.only (Ex.trans (Ex.trans (Ex.trans (Ex.trans (Below.only q854 hO208 (by omega)) hE223) hE319) hE328) hE334) hO338 (by omega)) hO342 (by omega)) hE358) hE365) hO368 (by omega)) hE387) hE394) hO397 (by omega)) hE416) hE425) hO428 (by omega)) hE439) hE449)⟩
                ·refine CW.cond_t rfl (not_f hb290) (CW.seq (CW.region (sd rfl (yl_assign rfl rfl (dn (CW.ret (tr (rr rfl (.cons rfl .nil) ?_))))))))
                 have hM873 : (l_FnRows p_0 p_1) = (false) := by first | (simp only [l_FnRows, hb3, hb116, hb117, hb118, hb122, hb143, hb144, hb165, hb181, hb182, hb224, hb225, hb232, hb256, hb287, hb290, cL]; done) | (simp only [l_FnRows, hb116, hb118, hb143, cL] <;> simp only [hb3, hb117, hb122, hb144, hb165, hb181, hb182, hb224, hb225, hb232, hb256, hb287, hb290, cL])
                 rw [hM873]
                 have q893 := Ex.trans (Ex.trans (Ex.trans (Below.only (Ex.trans (Ex.trans (Ex.trans (Below.only (Ex.trans (Ex.trans (Below.only (Ex.trans (Ex.trans (Ex.trans (Ex.trans (Below.only (Below.only (Ex.trans (Ex.trans (Ex.trans (Ex.refl w) hE13) hE22) hE28) hO32 (by omega)) hO36 (by omega)) hE55) hE66) hE76) hE82) hO85 (by omega)) hE106) hE112) hO115 (by omega)) hE142) hE154) hE161) hO164 (by omega)) hE180) hE199) hE205
                 exact ⟨rfl, (Ex.trans (Below.only q893 hO208 (by omega)) hE223)⟩
               ·refine sz rfl rfl (not_f hb287) (sz rfl rfl (not_f hb287) (sz rfl rfl (not_f hb287) (sz rfl rfl (not_f hb287) (sz rfl rfl (not_f hb287) (sz rfl rfl (not_f hb287) (sd rfl (yl_pick_t rfl rfl (not_f hb287) rfl (dn ?_))))))))
                refine CW.cond_t rfl rfl (CW.seq (CW.region (sd rfl (yl_assign rfl rfl (dn (CW.ret (tr (rr rfl (.cons rfl .nil) ?_))))))))
                have hM896 : (l_FnRows p_0 p_1) = (false) := by first | (simp only [l_FnRows, hb3, hb116, hb117, hb118, hb122, hb143, hb144, hb165, hb181, hb182, hb224, hb225, hb232, hb256, hb287, cL]; done) | (simp only [l_FnRows, hb116, hb118, hb143, cL] <;> simp only [hb3, hb117, hb122, hb144, hb165, hb181, hb182, hb224, hb225, hb232, hb256, hb287, cL])
                rw [hM896]
                have q916 := Ex.trans (Ex.trans (Ex.trans (Below.only (Ex.trans (Ex.trans (Ex.trans (Below.only (Ex.trans (Ex.trans (Below.only (Ex.trans (Ex.trans (Ex.trans (Ex.trans (Below.only (Below.only (Ex.trans (Ex.trans (Ex.trans (Ex.refl w) hE13) hE22) hE28) hO32 (by omega)) hO36 (by omega)) hE55) hE66) hE76) hE82) hO85 (by omega)) hE106) hE112) hO115 (by omega)) hE142) hE154) hE161) hO164 (by omega)) hE180) hE199) hE205
                exact ⟨rfl, (Ex.trans (Below.only q916 hO208 (by omega)) hE223)⟩
            ·refine sz rfl rfl (not_f hb225) (sz rfl rfl (not_f hb225) (sz rfl rfl (not_f hb225) (sz rfl rfl (not_f hb225) (sz rfl rfl (not_f hb225) (sz rfl rfl (not_f hb225) (sd rfl (yl_pick_t rfl rfl (not_f hb225) rfl (sd rfl (yl_move rfl rfl (sz rfl rfl rfl ?_))))))))))
             refine sz rfl rfl rfl (sz rfl rfl rfl (sd rfl (yl_pick_t rfl rfl rfl rfl (sd rfl (yl_move rfl rfl (sz rfl rfl rfl (sz rfl rfl rfl (sz rfl rfl rfl (sz rfl rfl rfl (sz rfl rfl rfl ?_))))))))))
             refine sz rfl rfl rfl (sz rfl rfl rfl (sz rfl rfl rfl (sd rfl (yl_pick_t rfl rfl rfl rfl (sd rfl (yl_move rfl rfl (sz rfl rfl rfl (sz rfl rfl rfl (sz rfl rfl rfl (sz rfl rfl rfl ?_))))))))))
             refine sz rfl rfl rfl (sz rfl rfl rfl (sd rfl (yl_pick_t rfl rfl rfl rfl (dn (CW.cond_t rfl rfl (CW.seq (CW.region (sd rfl (yl_assign rfl rfl ?_)))))))))
             refine dn (CW.ret (tr (rr rfl (.cons rfl .nil) ?_)))
             have hM919 : (l_FnRows p_0 p_1) = (false) := by first | (simp only [l_FnRows, hb3, hb116, hb117, hb118, hb122, hb143, hb144, hb165, hb181, hb182, hb224, hb225, cL]; done) | (simp only [l_FnRows, hb116, hb118, hb143, cL] <;> simp only [hb3, hb117, hb122, hb144, hb165, hb181, hb182, hb224, hb225, cL])
             rw [hM919]
             have q939 := Ex.trans (Ex.trans (Ex.trans (Below.only (Ex.trans (Ex.trans (Ex.trans (Below.only (Ex.trans (Ex.trans (Below.only (Ex.trans (Ex.trans (Ex.trans (Ex.trans (Below.only (Below.only (Ex.trans (Ex.trans (Ex.trans (Ex.refl w) hE13) hE22) hE28) hO32 (by omega)) hO36 (by omega)) hE55) hE66) hE76) hE82) hO85 (by omega)) hE106) hE112) hO115 (by omega)) hE142) hE154) hE161) hO164 (by omega)) hE180) hE199) hE205
             exact ⟨rfl, (Ex.trans (Below.only q939 hO208 (by omega)) hE223)⟩
           ·refine sz rfl rfl (not_f hb224) (sz rfl rfl (not_f hb224) (sd rfl (yl_pick_t rfl rfl (not_f hb224) rfl (sd rfl (yl_move rfl rfl (sz rfl rfl rfl (sz rfl rfl rfl (sz rfl rfl rfl (sz rfl rfl rfl (sz rfl rfl rfl ?_))))))))))
            refine sz rfl rfl rfl (sd rfl (yl_pick_t rfl rfl rfl rfl (sd rfl (yl_move rfl rfl (sz rfl rfl rfl (sz rfl rfl rfl (sz rfl rfl rfl (sd rfl (yl_pick_t rfl rfl rfl rfl (sd rfl (yl_move rfl rfl (sz rfl rfl rfl ?_))))))))))))
            refine sz rfl rfl rfl (sz rfl rfl rfl (sz rfl rfl rfl (sz rfl rfl rfl (sz rfl rfl rfl (sz rfl rfl rfl (sz rfl rfl rfl (sd rfl (yl_pick_t rfl rfl rfl rfl (sd rfl (yl_move rfl rfl ?_))))))))))
            refine sz rfl rfl rfl (sz rfl rfl rfl (sz rfl rfl rfl (sz rfl rfl rfl (sz rfl rfl rfl (sz rfl rfl rfl (sd rfl (yl_pick_t rfl rfl rfl rfl (dn ?_))))))))
            refine CW.cond_t rfl rfl (CW.seq (CW.region (sd rfl (yl_assign rfl rfl (dn (CW.ret (tr (rr rfl (.cons rfl .nil) ?_))))))))
            have hM942 : (l_FnRows p_0 p_1) = (false) := by first | (simp only [l_FnRows, hb3, hb116, hb117, hb118, hb122, hb143, hb144, hb165, hb181, hb182, hb224, cL]; done) | (simp only [l_FnRows, hb116, hb118, hb143, cL] <;> simp only [hb3, hb117, hb122, hb144, hb165, hb181, hb182, hb224, cL])
            rw [hM942]
            have q962 := Ex.trans (Ex.trans (Ex.trans (Below.only (Ex.trans (Ex.trans (Ex.trans (Below.only (Ex.trans (Ex.trans (Below.only (Ex.trans (Ex.trans (Ex.trans (Ex.trans (Below.only (Below.only (Ex.trans (Ex.trans (Ex.trans (Ex.refl w) hE13) hE22) hE28) hO32 (by omega)) hO36 (by omega)) hE55) hE66) hE76) hE82) hO85 (by omega)) hE106) hE112) hO115 (by omega)) hE142) hE154) hE161) hO164 (by omega)) hE180) hE199) hE205
            exact ⟨rfl, (Ex.trans (Below.only q962 hO208 (by omega)) hE223)⟩
          ·refine CW.cond_f rfl hb182 (CW.skip (tn (CW.seq (CW.region (sd rfl (yl_move rfl rfl ?_))))))
           have q977 := RdS.only good_U8 (RdS.ex good_U8 (RdS.ex good_U8 (RdS.only good_U8 (RdS.ex good_U8 (RdS.ex good_U8 (RdS.ex good_U8 (RdS.ex good_U8 (RdS.only good_U8 (RdS.only good_U8 (RdS.ex good_U8 (RdS.ex good_U8 (RdS.ex good_U8 h2 hE13) hE22) hE28) hO32 (by simp only [Iv]; omega)) hO36 (by simp only [Iv]; omega)) hE55) hE66) hE76) hE82) hO85 (by simp only [Iv]; omega)) hE106) hE112) hO115 (by simp only [Iv]; omega)
           have q982 := RdS.ex good_U8 (RdS.only good_U8 (RdS.ex good_U8 (RdS.ex good_U8 (RdS.ex good_U8 q977 hE142) hE154) hE161) hO164 (by simp only [Iv]; omega)) hE180
           refine sd rfl (yl_call en14 rfl (oc rfl oz) (Cal.mono (c_s_DrawReadRow p_1 (RdS.up q982 good_U8) (okL.mk (xs := p_1) (by first | omega | (simp only [List.length_append, List.length_cons, List.length_nil, List.length_take, List.length_drop, List.length_replicate, List.length_set]; omega)) fun _ _ => trivial) (by assumption)) ?_))
           rintro v988 w983 ⟨A984, c984, lo984, hi984, A985, c985, lo985, hi985, rfl, h984, h985, ho986, ho987, hrn990, hrn991, hrn992, hE989⟩
           have hE989z := Ex.size hE989
           refine sd rfl (yl_move rfl rfl (sd rfl (yl_extract rfl rfl rfl (sd rfl (yl_extract rfl rfl rfl (sd rfl (yl_alloc ty26 (cs := [.string (bs (([] : Str))), .slice none 0 0, .slice none 0 0]) rfl rfl ?_)))))))
           intro b993 w994 hs995 hz996 hB997 hE998
           refine sd rfl (yl_alloc ty34 (cs := [.string (bs (([] : Str))), .string (bs (([] : Str))), .bool (false)]) rfl rfl ?_)
           intro b999 w1000 hs1001 hz1002 hB1003 hE1004
           refine SeqR.u rfl rfl (yl_store (vs := [.string (bs ((s_DrawReadRow p_1).1.Name)), .slice A984 (((s_DrawReadRow p_1).1.Cols).length) c984, .slice A985 (((s_DrawReadRow p_1).1.Idxs).length) c985]) ty26 rfl rfl rfl rfl rfl rfl (Box.ex hB997 hE1004) (Nat.le_of_ble_eq_true rfl) ?_)
           intro w1006 hB1007 hO1008
           have hB1007 : Box w1006 b993 26 [.string (bs ((s_DrawReadRow p_1).1.Name)), .slice A984 (((s_DrawReadRow p_1).1.Cols).length) c984, .slice A985 (((s_DrawReadRow p_1).1.Idxs).length) c985] := hB1007
           have hO1008z := hO1008.size
           refine SeqR.u rfl rfl (yl_store (vs := [.string (bs ((s_DrawReadRow p_1).2.Key)), .string (bs ((s_DrawReadRow p_1).2.Val)), .bool ((s_DrawReadRow p_1).2.Gone)]) ty34 rfl rfl rfl rfl rfl rfl (Box.only hB1003 hO1008 (by omega)) (Nat.le_of_ble_eq_true rfl) ?_)
           intro w1010 hB1011 hO1012
           have hB1011 : Box w1010 b999 34 [.string (bs ((s_DrawReadRow p_1).2.Key)), .string (bs ((s_DrawReadRow p_1).2.Val)), .bool ((s_DrawReadRow p_1).2.Gone)] := hB1011
           have hO1012z := hO1012.size
           refine dn (CW.seq (CW.region ?_))
           have q1013 := Box.only hB1007 hO1012 (by omega)
           refine sd rfl (yl_loadN ty26 rfl rfl (q1013.cells (n := 3) rfl) rfl (sd rfl (yl_loadN ty34 rfl rfl (hB1011.cells (n := 3) rfl) rfl ?_)))
           have q1018 := OwnL.only good_Str (OwnL.only good_Str (OwnL.ex good_Str (OwnL.ex good_Str h984 hE998) hE1004) hO1008 (by omega)) hO1012 (by omega)
           have q1023 := OwnL.only good_Idx (OwnL.only good_Idx (OwnL.ex good_Idx (OwnL.ex good_Idx h985 hE998) hE1004) hO1008 (by omega)) hO1012 (by omega)
           refine sd rfl (yl_call en10 rfl (oc rfl (oc rfl oz)) (Cal.mono (c_i_ReadRow ((s_DrawReadRow p_1).1) ((s_DrawReadRow p_1).2) (RdS.up (OwnL.rd good_Str q1018) good_Str) (RdS.up (OwnL.rd good_Idx q1023) good_Idx) ho986 ho987) ?_))
           rintro v1027 w1024 ⟨A1025, c1025, lo1025, hi1025, rfl, h1025, ho1026, hrn1029, hE1028⟩
           have hE1028z := Ex.size hE1028
           refine sd rfl (yl_move rfl rfl (sd rfl (yl_extract rfl rfl rfl (sd rfl (yl_extract rfl rfl rfl (sd rfl (yl_alloc ty28 (cs := [.slice none 0 0]) rfl rfl ?_)))))))
           intro b1030 w1031 hs1032 hz1033 hB1034 hE1035
           refine SeqR.u rfl rfl (yl_store (vs := [.slice A1025 (((i_ReadRow ((s_DrawReadRow p_1).1) ((s_DrawReadRow p_1).2)).1.Vals).length) c1025]) ty28 rfl rfl rfl rfl rfl rfl hB1034 (Nat.le_of_ble_eq_true rfl) ?_)
           intro w1036 hB1037 hO1038
           have hB1037 : Box w1036 b1030 28 [.slice A1025 (((i_ReadRow ((s_DrawReadRow p_1).1) ((s_DrawReadRow p_1).2)).1.Vals).length) c1025] := hB1037
           have hO1038z := hO1038.size
           refine sd rfl (yl_assign rfl rfl (dn (CW.seq (CW.region ?_))))
           have q1041 := Box.only (Box.ex (Box.ex q1013 hE1028) hE1035) hO1038 (by omega)
           refine sd rfl (yl_loadN ty26 rfl rfl (q1041.cells (n := 3) rfl) rfl ?_)
           have q1044 := Box.only (Box.ex (Box.ex hB1011 hE1028) hE1035) hO1038 (by omega)
           refine sd rfl (yl_loadN ty34 rfl rfl (q1044.cells (n := 3) rfl) rfl ?_)
           have q1048 := OwnL.only good_Str (OwnL.ex good_Str (OwnL.ex good_Str q1018 hE1028) hE1035) hO1038 (by omega)
           have q1052 := OwnL.only good_Idx (OwnL.ex good_Idx (OwnL.ex good_Idx q1023 hE1028) hE1035) hO1038 (by omega)
           refine sd rfl (yl_call en15 rfl (oc rfl (oc rfl oz)) (Cal.mono (c_s_ReadRow ((s_DrawReadRow p_1).1) ((s_DrawReadRow p_1).2) (RdS.up (OwnL.rd good_Str q1048) good_Str) (RdS.up (OwnL.rd good_Idx q1052) good_Idx) ho986 ho987) ?_))
           rintro v1056 w1053 ⟨A1054, c1054, lo1054, hi1054, rfl, h1054, ho1055, hrn1058, hE1057⟩
           have hE1057z := Ex.size hE1057
           refine sd rfl (yl_move rfl rfl (sd rfl (yl_extract rfl rfl rfl (sd rfl (yl_extract rfl rfl rfl (sd rfl (yl_alloc ty28 (cs := [.slice none 0 0]) rfl rfl ?_)))))))
           intro b1059 w1060 hs1061 hz1062 hB1063 hE1064
           refine SeqR.u rfl rfl (yl_store (vs := [.slice A1054 (((s_ReadRow ((s_DrawReadRow p_1).1) ((s_DrawReadRow p_1).2)).1.Vals).length) c1054]) ty28 rfl rfl rfl rfl rfl rfl hB1063 (Nat.le_of_ble_eq_true rfl) ?_)
           intro w1065 hB1066 hO1067
           have hB1066 : Box w1065 b1059 28 [.slice A1054 (((s_ReadRow ((s_DrawReadRow p_1).1) ((s_DrawReadRow p_1).2)).1.Vals).length) c1054] := hB1066
           have hO1067z := hO1067.size
           refine sd rfl (yl_assign rfl rfl (dn (CW.seq (CW.region (sd rfl (yl_move rfl rfl (sd rfl (yl_call en16 rfl (oc rfl oz) (Cal.mono (c_s_DrawReadIdxKey p_1 (RdS.up (RdS.only good_U8 (RdS.ex good_U8 (RdS.ex good_U8 (RdS.only good_U8 (RdS.ex good_U8 (RdS.ex good_U8 (RdS.only good_U8 (RdS.only good_U8 (RdS.ex good_U8 (RdS.ex good_U8 (RdS.ex good_U8 q982 hE989) hE998) hE1004) hO1008 (by simp only [Iv]; omega)) hO1012 (by simp only [Iv]; omega)) hE1028) hE1035) hO1038 (by simp only [Iv]; omega)) hE1057) hE1064) hO1067 (by simp only [Iv]; omega)) good_U8) (okL.mk (xs := p_1) (by first | omega | (simp only [List.length_append, List.length_cons, List.length_nil, List.length_take, List.length_drop, List.length_replicate, List.length_set]; omega)) fun _ _ => trivial) (by assumption)) ?_)))))))))
           rintro v1085 w1079 ⟨A1080, c1080, lo1080, hi1080, A1081, c1081, lo1081, hi1081, rfl, h1080, h1081, ho1082, ho1083, ho1084, hrn1087, hrn1088, hrn1089, hE1086⟩
           have hE1086z := Ex.size hE1086
           refine sd rfl (yl_move rfl rfl (sd rfl (yl_extract rfl rfl rfl (sd rfl (yl_extract rfl rfl rfl (sd rfl (yl_extract rfl rfl rfl (sd rfl (yl_alloc ty26 (cs := [.string (bs (([] : Str))), .slice none 0 0, .slice none 0 0]) rfl rfl ?_)))))))))
           intro b1090 w1091 hs1092 hz1093 hB1094 hE1095
           refine SeqR.u rfl rfl (yl_store (vs := [.string (bs ((s_DrawReadIdxKey p_1).1.Name)), .slice A1080 (((s_DrawReadIdxKey p_1).1.Cols).length) c1080, .slice A1081 (((s_DrawReadIdxKey p_1).1.Idxs).length) c1081]) ty26 rfl rfl rfl rfl rfl rfl hB1094 (Nat.le_of_ble_eq_true rfl) ?_)
           intro w1096 hB1097 hO1098
           have hB1097 : Box w1096 b1090 26 [.string (bs ((s_DrawReadIdxKey p_1).1.Name)), .slice A1080 (((s_DrawReadIdxKey p_1).1.Cols).length) c1080, .slice A1081 (((s_DrawReadIdxKey p_1).1.Idxs).length) c1081] := hB1097
           have hO1098z := hO1098.size
           refine sd rfl (yl_assign rfl rfl (sd rfl (yl_assign rfl rfl (dn (CW.seq (CW.region (sd rfl (yl_loadN ty26 rfl rfl (hB1097.cells (n := 3) rfl) rfl (sd rfl (yl_move rfl rfl (sd rfl (yl_move rfl rfl ?_))))))))))))
           have q1101 := OwnL.only good_Str (OwnL.ex good_Str h1080 hE1095) hO1098 (by omega)
           have q1104 := OwnL.only good_Idx (OwnL.ex good_Idx h1081 hE1095) hO1098 (by omega)
           refine sd rfl (yl_call en13 rfl (oc rfl (oc rfl (oc rfl oz))) (Cal.mono (c_i_ReadIdxKey ((s_DrawReadIdxKey p_1).1) ((s_DrawReadIdxKey p_1).2.1) ((s_DrawReadIdxKey p_1).2.2) (RdS.up (OwnL.rd good_Str q1101) good_Str) (RdS.up (OwnL.rd good_Idx q1104) good_Idx) ho1082 ho1083 ho1084) ?_))
           rintro v1108 w1105 ⟨rfl, ho1106, ho1107, hE1109⟩
           have hE1109z := Ex.size hE1109
           refine sd rfl (yl_move rfl rfl (sd rfl (yl_extract rfl rfl rfl (sd rfl (yl_extract rfl rfl rfl (sd rfl (yl_extract rfl rfl rfl (sd rfl (yl_assign rfl rfl (sd rfl (yl_assign rfl rfl (sd rfl (yl_assign rfl rfl (dn ?_))))))))))))))
           refine CW.seq (CW.region (sd rfl (yl_loadN ty26 rfl rfl ((Box.ex hB1097 hE1109).cells (n := 3) rfl) rfl (sd rfl (yl_move rfl rfl (sd rfl (yl_move rfl rfl (sd rfl (yl_call en17 rfl (oc rfl (oc rfl (oc rfl oz))) (Cal.mono (c_s_ReadIdxKey ((s_DrawReadIdxKey p_1).1) ((s_DrawReadIdxKey p_1).2.1) ((s_DrawReadIdxKey p_1).2.2) (RdS.up (OwnL.rd good_Str (OwnL.ex good_Str q1101 hE1109)) good_Str) (RdS.up (OwnL.rd good_Idx (OwnL.ex good_Idx q1104 hE1109)) good_Idx) ho1082 ho1083 ho1084) ?_))))))))))
           rintro v1118 w1115 ⟨rfl, ho1116, ho1117, hE1119⟩
           have hE1119z := Ex.size hE1119
           refine sd rfl (yl_move rfl rfl (sd rfl (yl_extract rfl rfl rfl (sd rfl (yl_extract rfl rfl rfl (sd rfl (yl_extract rfl rfl rfl (sd rfl (yl_assign rfl rfl (sd rfl (yl_assign rfl rfl (sd rfl (yl_assign rfl rfl (dn ?_))))))))))))))
           refine CW.seq (CW.seq (CW.region (sd rfl (yl_move rfl rfl (sd rfl (yl_move rfl rfl (sd rfl (yl_bneq un4 rfl rfl rfl (sd rfl (yl_move rfl rfl (bcase (((i_ReadRow ((s_DrawReadRow p_1).1) ((s_DrawReadRow p_1).2)).2) == ((s_ReadRow ((s_DrawReadRow p_1).1) ((s_DrawReadRow p_1).2)).2)) (fun hb1120 => ?_) (fun hb1120 => ?_))))))))))))
           ·refine sy rfl rfl (not_t hb1120) (yl_fieldAddr fd28_0 rfl rfl ?_)
            have q1128 := Box.ex (Box.ex (Box.only (Box.ex (Box.ex (Box.only (Box.ex (Box.ex hB1037 hE1057) hE1064) hO1067 (by omega)) hE1086) hE1095) hO1098 (by omega)) hE1109) hE1119
            refine sy rfl rfl (not_t hb1120) (yl_load1 ty23 rfl rfl ((q1128.cell 0).trans rfl) (sy rfl rfl (not_t hb1120) (yl_fieldAddr fd28_0 rfl rfl (sy rfl rfl (not_t hb1120) (yl_load1 ty23 rfl rfl (((Box.ex (Box.ex (Box.only (Box.ex (Box.ex hB1066 hE1086) hE1095) hO1098 (by omega)) hE1109) hE1119).cell 0).trans rfl) ?_)))))
            have q1144 := OwnL.ex good_Str (OwnL.ex good_Str (OwnL.only good_Str (OwnL.ex good_Str (OwnL.ex good_Str (OwnL.only good_Str (OwnL.ex good_Str (OwnL.ex good_Str (OwnL.only good_Str (OwnL.ex good_Str h1025 hE1035) hO1038 (by omega)) hE1057) hE1064) hO1067 (by omega)) hE1086) hE1095) hO1098 (by omega)) hE1109) hE1119
            refine sy rfl rfl (not_t hb1120) (yl_call en11 rfl (oc rfl (oc rfl oz)) (Cal.mono (c_l_qSameS ((i_ReadRow ((s_DrawReadRow p_1).1) ((s_DrawReadRow p_1).2)).1.Vals) ((s_ReadRow ((s_DrawReadRow p_1).1) ((s_DrawReadRow p_1).2)).1.Vals) (RdS.up (OwnL.rd good_Str q1144) good_Str) (RdS.up (OwnL.rd good_Str (OwnL.ex good_Str (OwnL.ex good_Str (OwnL.only good_Str (OwnL.ex good_Str (OwnL.ex good_Str (OwnL.only good_Str (OwnL.ex good_Str h1054 hE1064) hO1067 (by omega)) hE1086) hE1095) hO1098 (by omega)) hE1109) hE1119)) good_Str) ho1026 ho1055) ?_))
            rintro v1154 w1153 ⟨rfl, hE1155⟩
            have hE1155z := Ex.size hE1155
            refine sy rfl rfl (not_t hb1120) (yl_not rfl rfl (sd rfl (yl_pick_f rfl rfl (not_t hb1120) rfl (sd rfl (yl_move rfl rfl (bcase (l_qSameS ((i_ReadRow ((s_DrawReadRow p_1).1) ((s_DrawReadRow p_1).2)).1.Vals) ((s_ReadRow ((s_DrawReadRow p_1).1) ((s_DrawReadRow p_1).2)).1.Vals)) (fun hb1156 => ?_) (fun hb1156 => ?_)))))))
            ·refine sy rfl rfl (not_t hb1156) (yl_move rfl rfl (sy rfl rfl (not_t hb1156) (yl_move rfl rfl (sy rfl rfl (not_t hb1156) (yl_bneq un4 rfl rfl rfl (sd rfl (yl_pick_f rfl rfl (not_t hb1156) rfl (sd rfl (yl_move rfl rfl (bcase (((i_ReadIdxKey ((s_DrawReadIdxKey p_1).1) ((s_DrawReadIdxKey p_1).2.1) ((s_DrawReadIdxKey p_1).2.2)).2.2) == ((s_ReadIdxKey ((s_DrawReadIdxKey p_1).1) ((s_DrawReadIdxKey p_1).2.1) ((s_DrawReadIdxKey p_1).2.2)).2.2)) (fun hb1157 => ?_) (fun hb1157 => ?_)))))))))))
             ·refine sy rfl rfl (not_t hb1157) (yl_move rfl rfl (sy rfl rfl (not_t hb1157) (yl_move rfl rfl (sy rfl rfl (not_t hb1157) (yl_sneq (a := ((i_ReadIdxKey ((s_DrawReadIdxKey p_1).1) ((s_DrawReadIdxKey p_1).2.1) ((s_DrawReadIdxKey p_1).2.2)).1)) (b := ((s_ReadIdxKey ((s_DrawReadIdxKey p_1).1) ((s_DrawReadIdxKey p_1).2.1) ((s_DrawReadIdxKey p_1).2.2)).1)) rfl rfl rfl (sd rfl (yl_pick_f rfl rfl (not_t hb1157) rfl (sd rfl (yl_move rfl rfl (bcase (((i_ReadIdxKey ((s_DrawReadIdxKey p_1).1) ((s_DrawReadIdxKey p_1).2.1) ((s_DrawReadIdxKey p_1).2.2)).1) == ((s_ReadIdxKey ((s_DrawReadIdxKey p_1).1) ((s_DrawReadIdxKey p_1).2.1) ((s_DrawReadIdxKey p_1).2.2)).1)) (fun hb1158 => ?_) (fun hb1158 => ?_)))))))))))
              ·refine sy rfl rfl (not_t hb1158) (yl_move rfl rfl (sy rfl rfl (not_t hb1158) (yl_move rfl rfl (sy rfl rfl (not_t hb1158) (yl_sneq (a := ((i_ReadIdxKey ((s_DrawReadIdxKey p_1).1) ((s_DrawReadIdxKey p_1).2.1) ((s_DrawReadIdxKey p_1).2.2)).2.1)) (b := ((s_ReadIdxKey ((s_DrawReadIdxKey p_1).1) ((s_DrawReadIdxKey p_1).2.1) ((s_DrawReadIdxKey p_1).2.2)).2.1)) rfl rfl rfl (sd rfl (yl_pick_f rfl rfl (not_t hb1158) rfl (dn (bcase (((i_ReadIdxKey ((s_DrawReadIdxKey p_1).1) ((s_DrawReadIdxKey p_1).2.1) ((s_DrawReadIdxKey p_1).2.2)).2.1) == ((s_ReadIdxKey ((s_DrawReadIdxKey p_1).1) ((s_DrawReadIdxKey p_1).2.1) ((s_DrawReadIdxKey p_1).2.2)).2.1)) (fun hb1159 => ?_) (fun hb1159 => ?_))))))))))
               ·refine CW.cond_f rfl (not_t hb1159) (CW.skip (tn (CW.seq (CW.seq (CW.region (sd rfl (yl_move rfl rfl (dn ?_))))))))
                refine bcase ((i_ReadRow ((s_DrawReadRow p_1).1) ((s_DrawReadRow p_1).2)).2) (fun hb1160 => ?_) (fun hb1160 => ?_)
                ·refine CW.cond_t rfl hb1160 (CW.seq (CW.region (sd rfl (yl_loadN ty26 rfl rfl ((Box.ex (Box.ex (Box.ex (Box.only (Box.ex (Box.ex (Box.only (Box.ex (Box.ex q1041 hE1057) hE1064) hO1067 (by omega)) hE1086) hE1095) hO1098 (by omega)) hE1109) hE1119) hE1155).cells (n := 3) rfl) rfl (sd rfl (yl_loadN ty28 rfl rfl ((Box.ex q1128 hE1155).cells (n := 1) rfl) rfl (sd rfl (yl_call en7 rfl (oc rfl (oc rfl oz)) (Cal.mono (c_i_RowWrite ((s_DrawReadRow p_1).1) ((i_ReadRow ((s_DrawReadRow p_1).1) ((s_DrawReadRow p_1).2)).1) (RdS.up (OwnL.rd good_Str (OwnL.ex good_Str (OwnL.ex good_Str (OwnL.ex good_Str (OwnL.only good_Str (OwnL.ex good_Str (OwnL.ex good_Str (OwnL.only good_Str (OwnL.ex good_Str (OwnL.ex good_Str q1048 hE1057) hE1064) hO1067 (by omega)) hE1086) hE1095) hO1098 (by omega)) hE1109) hE1119) hE1155)) good_Str) (RdS.up (OwnL.rd good_Idx (OwnL.ex good_Idx (OwnL.ex good_Idx (OwnL.ex good_Idx (OwnL.only good_Idx (OwnL.ex good_Idx (OwnL.ex good_Idx (OwnL.only good_Idx (OwnL.ex good_Idx (OwnL.ex good_Idx q1052 hE1057) hE1064) hO1067 (by omega)) hE1086) hE1095) hO1098 (by omega)) hE1109) hE1119) hE1155)) good_Idx) (RdS.up (OwnL.rd good_Str (OwnL.ex good_Str q1144 hE1155)) good_Str) ho986 ho1026) ?_)))))))))
                 rintro v1194 w1193 ⟨rfl, hE1195⟩
                 have hE1195z := Ex.size hE1195
                 refine sd rfl (yl_move rfl rfl (sd rfl (yl_extract rfl rfl rfl (sd rfl (yl_extract rfl rfl rfl (sd rfl (yl_alloc ty34 (cs := [.string (bs (([] : Str))), .string (bs (([] : Str))), .bool (false)]) rfl rfl ?_)))))))
                 intro b1196 w1197 hs1198 hz1199 hB1200 hE1201
                 refine SeqR.u rfl rfl (yl_store (vs := [.string (bs ((i_RowWrite ((s_DrawReadRow p_1).1) ((i_ReadRow ((s_DrawReadRow p_1).1) ((s_DrawReadRow p_1).2)).1)).1.Key)), .string (bs ((i_RowWrite ((s_DrawReadRow p_1).1) ((i_ReadRow ((s_DrawReadRow p_1).1) ((s_DrawReadRow p_1).2)).1)).1.Val)), .bool ((i_RowWrite ((s_DrawReadRow p_1).1) ((i_ReadRow ((s_DrawReadRow p_1).1) ((s_DrawReadRow p_1).2)).1)).1.Gone)]) ty34 rfl rfl rfl rfl rfl rfl hB1200 (Nat.le_of_ble_eq_true rfl) ?_)
                 intro w1202 hB1203 hO1204
                 have hB1203 : Box w1202 b1196 34 [.string (bs ((i_RowWrite ((s_DrawReadRow p_1).1) ((i_ReadRow ((s_DrawReadRow p_1).1) ((s_DrawReadRow p_1).2)).1)).1.Key)), .string (bs ((i_RowWrite ((s_DrawReadRow p_1).1) ((i_ReadRow ((s_DrawReadRow p_1).1) ((s_DrawReadRow p_1).2)).1)).1.Val)), .bool ((i_RowWrite ((s_DrawReadRow p_1).1) ((i_ReadRow ((s_DrawReadRow p_1).1) ((s_DrawReadRow p_1).2)).1)).1.Gone)] := hB1203
                 have hO1204z := hO1204.size
                 refine sd rfl (yl_assign rfl rfl (dn (CW.seq (CW.region (sd rfl (yl_move rfl rfl (sd rfl (yl_move rfl rfl (bcase ((i_RowWrite ((s_DrawReadRow p_1).1) ((i_ReadRow ((s_DrawReadRow p_1).1) ((s_DrawReadRow p_1).2)).1)).2) (fun hb1205 => ?_) (fun hb1205 => ?_))))))))))
                 ·refine sy rfl rfl hb1205 (yl_loadN ty34 rfl rfl (hB1203.cells (n := 3) rfl) rfl (sy rfl rfl hb1205 (yl_loadN ty34 rfl rfl ((Box.only (Box.ex (Box.ex (Box.ex (Box.ex (Box.ex (Box.only (Box.ex (Box.ex (Box.only (Box.ex (Box.ex q1044 hE1057) hE1064) hO1067 (by omega)) hE1086) hE1095) hO1098 (by omega)) hE1109) hE1119) hE1155) hE1195) hE1201) hO1204 (by omega)).cells (n := 3) rfl) rfl (sy rfl rfl hb1205 (yl_aeql (xs := [.string (bs ((i_RowWrite ((s_DrawReadRow p_1).1) ((i_ReadRow ((s_DrawReadRow p_1).1) ((s_DrawReadRow p_1).2)).1)).1.Key)), .string (bs ((i_RowWrite ((s_DrawReadRow p_1).1) ((i_ReadRow ((s_DrawReadRow p_1).1) ((s_DrawReadRow p_1).2)).1)).1.Val)), .bool ((i_RowWrite ((s_DrawReadRow p_1).1) ((i_ReadRow ((s_DrawReadRow p_1).1) ((s_DrawReadRow p_1).2)).1)).1.Gone)]) (ys := [.string (bs ((s_DrawReadRow p_1).2.Key)), .string (bs ((s_DrawReadRow p_1).2.Val)), .bool ((s_DrawReadRow p_1).2.Gone)]) Tryd.ae34 rfl rfl rfl (sd rfl (yl_pick_t rfl rfl hb1205 rfl (sd rfl (yl_assign rfl rfl ?_)))))))))
                  refine dn (CW.ret (tr (rr rfl (.cons rfl .nil) ?_)))
                  have hM1218 : (l_FnRows p_0 p_1) = (((((i_RowWrite ((s_DrawReadRow p_1).1) ((i_ReadRow ((s_DrawReadRow p_1).1) ((s_DrawReadRow p_1).2)).1)).1.Key) == ((s_DrawReadRow p_1).2.Key)) && ((((i_RowWrite ((s_DrawReadRow p_1).1) ((i_ReadRow ((s_DrawReadRow p_1).1) ((s_DrawReadRow p_1).2)).1)).1.Val) == ((s_DrawReadRow p_1).2.Val)) && (((i_RowWrite ((s_DrawReadRow p_1).1) ((i_ReadRow ((s_DrawReadRow p_1).1) ((s_DrawReadRow p_1).2)).1)).1.Gone) == ((s_DrawReadRow p_1).2.Gone))))) := by first | (simp only [l_FnRows, hb3, hb116, hb117, hb118, hb122, hb143, hb144, hb165, hb181, hb182, hb1120, hb1156, hb1157, hb1158, hb1159, hb1160, hb1205, cL]; done) | (simp only [l_FnRows, hb116, hb118, hb143, hb1120, cL] <;> simp only [hb3, hb117, hb122, hb144, hb165, hb181, hb182, hb1156, hb1157, hb1158, hb1159, hb1160, hb1205, cL])
                  rw [hM1218]
                  have q1238 := Ex.trans (Ex.trans (Ex.trans (Below.only (Ex.trans (Ex.trans (Ex.trans (Below.only (Ex.trans (Ex.trans (Below.only (Ex.trans (Ex.trans (Ex.trans (Ex.trans (Below.only (Below.only (Ex.trans (Ex.trans (Ex.trans (Ex.refl w) hE13) hE22) hE28) hO32 (by omega)) hO36 (by omega)) hE55) hE66) hE76) hE82) hO85 (by omega)) hE106) hE112) hO115 (by omega)) hE142) hE154) hE161) hO164 (by omega)) hE180) hE989) hE998
                  have q1256 := Below.only (Ex.trans (Ex.trans (Ex.trans (Ex.trans (Ex.trans (Below.only (Ex.trans (Ex.trans (Below.only (Ex.trans (Ex.trans (Below.only (Ex.trans (Ex.trans (Below.only (Below.only (Ex.trans q1238 hE1004) hO1008 (by omega)) hO1012 (by omega)) hE1028) hE1035) hO1038 (by omega)) hE1057) hE1064) hO1067 (by omega)) hE1086) hE1095) hO1098 (by omega)) hE1109) hE1119) hE1155) hE1195) hE1201) hO1204 (by omega)
                  exact ⟨rfl, q1256⟩
                 ·refine sz rfl rfl hb1205 (sz rfl rfl hb1205 (sz rfl rfl hb1205 (sd rfl (yl_pick_f rfl rfl hb1205 rfl (sd rfl (yl_assign rfl rfl (dn (CW.ret (tr ?_)))))))))
                  refine rr rfl (.cons rfl .nil) ?_
                  have hM1257 : (l_FnRows p_0 p_1) = (false) := by first | (simp only [l_FnRows, hb3, hb116, hb117, hb118, hb122, hb143, hb144, hb165, hb181, hb182, hb1120, hb1156, hb1157, hb1158, hb1159, hb1160, hb1205, cL]; done) | (simp only [l_FnRows, hb116, hb118, hb143, hb1120, cL] <;> simp only [hb3, hb117, hb122, hb144, hb165, hb181, hb182, hb1156, hb1157, hb1158, hb1159, hb1160, hb1205, cL])
                  rw [hM1257]
                  have q1277 := Ex.trans (Ex.trans (Ex.trans (Below.only (Ex.trans (Ex.trans (Ex.trans (Below.only (Ex.trans (Ex.trans (Below.only (Ex.trans (Ex.trans (Ex.trans (Ex.trans (Below.only (Below.only (Ex.trans (Ex.trans (Ex.trans (Ex.refl w) hE13) hE22) hE28) hO32 (by omega)) hO36 (by omega)) hE55) hE66) hE76) hE82) hO85 (by omega)) hE106) hE112) hO115 (by omega)) hE142) hE154) hE161) hO164 (by omega)) hE180) hE989) hE998
                  have q1295 := Below.only (Ex.trans (Ex.trans (Ex.trans (Ex.trans (Ex.trans (Below.only (Ex.trans (Ex.trans (Below.only (Ex.trans (Ex.trans (Below.only (Ex.trans (Ex.trans (Below.only (Below.only (Ex.trans q1277 hE1004) hO1008 (by omega)) hO1012 (by omega)) hE1028) hE1035) hO1038 (by omega)) hE1057) hE1064) hO1067 (by omega)) hE1086) hE1095) hO1098 (by omega)) hE1109) hE1119) hE1155) hE1195) hE1201) hO1204 (by omega)
                  exact ⟨rfl, q1295⟩
                ·refine CW.cond_f rfl hb1160 (CW.skip (tn (CW.seq (CW.region (sd rfl (yl_assign rfl rfl (dn (CW.ret ?_))))))))
                 refine rr rfl (.cons rfl .nil) ?_
                 have hM1296 : (l_FnRows p_0 p_1) = (true) := by first | (simp only [l_FnRows, hb3, hb116, hb117, hb118, hb122, hb143, hb144, hb165, hb181, hb182, hb1120, hb1156, hb1157, hb1158, hb1159, hb1160, cL]; done) | (simp only [l_FnRows, hb116, hb118, hb143, hb1120, cL] <;> simp only [hb3, hb117, hb122, hb144, hb165, hb181, hb182, hb1156, hb1157, hb1158, hb1159, hb1160, cL])
                 rw [hM1296]
                 have q1316 := Ex.trans (Ex.trans (Ex.trans (Below.only (Ex.trans (Ex.trans (Ex.trans (Below.only (Ex.trans (Ex.trans (Below.only (Ex.trans (Ex.trans (Ex.trans (Ex.trans (Below.only (Below.only (Ex.trans (Ex.trans (Ex.trans (Ex.refl w) hE13) hE22) hE28) hO32 (by omega)) hO36 (by omega)) hE55) hE66) hE76) hE82) hO85 (by omega)) hE106) hE112) hO115 (by omega)) hE142) hE154) hE161) hO164 (by omega)) hE180) hE989) hE998
                 exact ⟨rfl, (Ex.trans (Ex.trans (Ex.trans (Below.only (Ex.trans (Ex.trans (Below.only (Ex.trans (Ex.trans (Below.only (Ex.trans (Ex.trans (Below.only (Below.only (Ex.trans q1316 hE1004) hO1008 (by omega)) hO1012 (by omega)) hE1028) hE1035) hO1038 (by omega)) hE1057) hE1064) hO1067 (by omega)) hE1086) hE1095) hO1098 (by omega)) hE1109) hE1119) hE1155)⟩
               ·refine CW.cond_t rfl (not_f hb1159) (CW.seq (CW.region (sd rfl (yl_assign rfl rfl (dn (CW.ret (tr (rr rfl (.cons rfl .nil) ?_))))))))
                have hM1332 : (l_FnRows p_0 p_1) = (false) := by first | (simp only [l_FnRows, hb3, hb116, hb117, hb118, hb122, hb143, hb144, hb165, hb181, hb182, hb1120, hb1156, hb1157, hb1158, hb1159, cL]; done) | (simp only [l_FnRows, hb116, hb118, hb143, cL] <;> simp only [hb3, hb117, hb122, hb144, hb165, hb181, hb182, hb1120, hb1156, hb1157, hb1158, hb1159, cL])
                rw [hM1332]
                have q1352 := Ex.trans (Ex.trans (Ex.trans (Below.only (Ex.trans (Ex.trans (Ex.trans (Below.only (Ex.trans (Ex.trans (Below.only (Ex.trans (Ex.trans (Ex.trans (Ex.trans (Below.only (Below.only (Ex.trans (Ex.trans (Ex.trans (Ex.refl w) hE13) hE22) hE28) hO32 (by omega)) hO36 (by omega)) hE55) hE66) hE76) hE82) hO85 (by omega)) hE106) hE112) hO115 (by omega)) hE142) hE154) hE161) hO164 (by omega)) hE180) hE989) hE998
                exact ⟨rfl, (Ex.trans (Ex.trans (Ex.trans (Below.only (Ex.trans (Ex.trans (Below.only (Ex.trans (Ex.trans (Below.only (Ex.trans (Ex.trans (Below.only (Below.only (Ex.trans q1352 hE1004) hO1008 (by omega)) hO1012 (by omega)) hE1028) hE1035) hO1038 (by omega)) hE1057) hE1064) hO1067 (by omega)) hE1086) hE1095) hO1098 (by omega)) hE1109) hE1119) hE1155)⟩
              ·refine sz rfl rfl (not_f hb1158) (sz rfl rfl (not_f hb1158) (sz rfl rfl (not_f hb1158) (sd rfl (yl_pick_t rfl rfl (not_f hb1158) rfl (dn (CW.cond_t rfl rfl (CW.seq (CW.region ?_))))))))
               refine sd rfl (yl_assign rfl rfl (dn (CW.ret (tr (rr rfl (.cons rfl .nil) ?_)))))
               have hM1368 : (l_FnRows p_0 p_1) = (false) := by first | (simp only [l_FnRows, hb3, hb116, hb117, hb118, hb122, hb143, hb144, hb165, hb181, hb182, hb1120, hb1156, hb1157, hb1158, cL]; done) | (simp only [l_FnRows, hb116, hb118, hb143, cL] <;> simp only [hb3, hb117, hb122, hb144, hb165, hb181, hb182, hb1120, hb1156, hb1157, hb1158, cL])
               rw [hM1368]
               have q1388 := Ex.trans (Ex.trans (Ex.trans (Below.only (Ex.trans (Ex.trans (Ex.trans (Below.only (Ex.trans (Ex.trans (Below.only (Ex.trans (Ex.trans (Ex.trans (Ex.trans (Below.only (Below.only (Ex.trans (Ex.trans (Ex.trans (Ex.refl w) hE13) hE22) hE28) hO32 (by omega)) hO36 (by omega)) hE55) hE66) hE76) hE82) hO85 (by omega)) hE106) hE112) hO115 (by omega)) hE142) hE154) hE161) hO164 (by omega)) hE180) hE989) hE998
               exact ⟨rfl, (Ex.trans (Ex.trans (Ex.trans (Below.only (Ex.trans (Ex.trans (Below.only (Ex.trans (Ex.trans (Below.only (Ex.trans (Ex.trans (Below.only (Below.only (Ex.trans q1388 hE1004) hO1008 (by omega)) hO1012 (by omega)) hE1028) hE1035) hO1038 (by omega)) hE1057) hE1064) hO1067 (by omega)) hE1086) hE1095) hO1098 (by omega)) hE1109) hE1119) hE1155)⟩
             ·refine sz rfl rfl (not_f hb1157) (sz rfl rfl (not_f hb1157) (sz rfl rfl (not_f hb1157) (sd rfl (yl_pick_t rfl rfl (not_f hb1157) rfl (sd rfl (yl_move rfl rfl (sz rfl rfl rfl (sz rfl rfl rfl (sz rfl rfl rfl (sd rfl (yl_pick_t rfl rfl rfl rfl ?_)))))))))))
              refine dn (CW.cond_t rfl rfl (CW.seq (CW.region (sd rfl (yl_assign rfl rfl (dn (CW.ret ?_)))))))
              refine tr (rr rfl (.cons rfl .nil) ?_)
              have hM1404 : (l_FnRows p_0 p_1) = (false) := by first | (simp only [l_FnRows, hb3, hb116, hb117, hb118, hb122, hb143, hb144, hb165, hb181, hb182, hb1120, hb1156, hb1157, cL]; done) | (simp only [l_FnRows, hb116, hb118, hb143, cL] <;> simp only [hb3, hb117, hb122, hb144, hb165, hb181, hb182, hb1120, hb1156, hb1157, cL])
              rw [hM1404]
              have q1424 := Ex.trans (Ex.trans (Ex.trans (Below.only (Ex.trans (Ex.trans (Ex.trans (Below.only (Ex.trans (Ex.trans (Below.only (Ex.trans (Ex.trans (Ex.trans (Ex.trans (Below.only (Below.only (Ex.trans (Ex.trans (Ex.trans (Ex.refl w) hE13) hE22) hE28) hO32 (by omega)) hO36 (by omega)) hE55) hE66) hE76) hE82) hO85 (by omega)) hE106) hE112) hO115 (by omega)) hE142) hE154) hE161) hO164 (by omega)) hE180) hE989) hE998
              exact ⟨rfl, (Ex.trans (Ex.trans (Ex.trans (Below.only (Ex.trans (Ex.trans (Below.only (Ex.trans (Ex.trans (Below.only (Ex.trans (Ex.trans (Below.only (Below.only (Ex.trans q1424 hE1004) hO1008 (by omega)) hO1012 (by omega)) hE1028) hE1035) hO1038 (by omega)) hE1057) hE1064) hO1067 (by omega)) hE1086) hE1095) hO1098 (by omega)) hE1109) hE1119) hE1155)⟩
            ·refine sz rfl rfl (not_f hb1156) (sz rfl rfl (not_f hb1156) (sz rfl rfl (not_f hb1156) (sd rfl (yl_pick_t rfl rfl (not_f hb1156) rfl (sd rfl (yl_move rfl rfl (sz rfl rfl rfl (sz rfl rfl rfl (sz rfl rfl rfl (sd rfl (yl_pick_t rfl rfl rfl rfl ?_)))))))))))
             refine sd rfl (yl_move rfl rfl (sz rfl rfl rfl (sz rfl rfl rfl (sz rfl rfl rfl (sd rfl (yl_pick_t rfl rfl rfl rfl (dn (CW.cond_t rfl rfl (CW.seq ?_)))))))))
             refine CW.region (sd rfl (yl_assign rfl rfl (dn (CW.ret (tr (rr rfl (.cons rfl .nil) ?_))))))
             have hM1440 : (l_FnRows p_0 p_1) = (false) := by first | (simp only [l_FnRows, hb3, hb116, hb117, hb118, hb122, hb143, hb144, hb165, hb181, hb182, hb1120, hb1156, cL]; done) | (simp only [l_FnRows, hb116, hb118, hb143, cL] <;> simp only [hb3, hb117, hb122, hb144, hb165, hb181, hb182, hb1120, hb1156, cL])
             rw [hM1440]
             have q1460 := Ex.trans (Ex.trans (Ex.trans (Below.only (Ex.trans (Ex.trans (Ex.trans (Below.only (Ex.trans (Ex.trans (Below.only (Ex.trans (Ex.trans (Ex.trans (Ex.trans (Below.only (Below.only (Ex.trans (Ex.trans (Ex.trans (Ex.refl w) hE13) hE22) hE28) hO32 (by omega)) hO36 (by omega)) hE55) hE66) hE76) hE82) hO85 (by omega)) hE106) hE112) hO115 (by omega)) hE142) hE154) hE161) hO164 (by omega)) hE180) hE989) hE998
             exact ⟨rfl, (Ex.trans (Ex.trans (Ex.trans (Below.only (Ex.trans (Ex.trans (Below.only (Ex.trans (Ex.trans (Below.only (Ex.trans (Ex.trans (Below.only (Below.only (Ex.trans q1460 hE1004) hO1008 (by omega)) hO1012 (by omega)) hE1028) hE1035) hO1038 (by omega)) hE1057) hE1064) hO1067 (by omega)) hE1086) hE1095) hO1098 (by omega)) hE1109) hE1119) hE1155)⟩
           ·refine sz rfl rfl (not_f hb1120) (sz rfl rfl (not_f hb1120) (sz rfl rfl (not_f hb1120) (sz rfl rfl (not_f hb1120) (sz rfl rfl (not_f hb1120) (sz rfl rfl (not_f hb1120) (sd rfl (yl_pick_t rfl rfl (not_f hb1120) rfl (sd rfl (yl_move rfl rfl (sz rfl rfl rfl ?_))))))))))
            refine sz rfl rfl rfl (sz rfl rfl rfl (sd rfl (yl_pick_t rfl rfl rfl rfl (sd rfl (yl_move rfl rfl (sz rfl rfl rfl (sz rfl rfl rfl (sz rfl rfl rfl (sd rfl (yl_pick_t rfl rfl rfl rfl (sd rfl (yl_move rfl rfl ?_))))))))))))
            refine sz rfl rfl rfl (sz rfl rfl rfl (sz rfl rfl rfl (sd rfl (yl_pick_t rfl rfl rfl rfl (dn (CW.cond_t rfl rfl (CW.seq (CW.region ?_))))))))
            refine sd rfl (yl_assign rfl rfl (dn (CW.ret (tr (rr rfl (.cons rfl .nil) ?_)))))
            have hM1476 : (l_FnRows p_0 p_1) = (false) := by first | (simp only [l_FnRows, hb3, hb116, hb117, hb118, hb122, hb143, hb144, hb165, hb181, hb182, hb1120, cL]; done) | (simp only [l_FnRows, hb116, hb118, hb143, cL] <;> simp only [hb3, hb117, hb122, hb144, hb165, hb181, hb182, hb1120, cL])
            rw [hM1476]
            have q1496 := Ex.trans (Ex.trans (Ex.trans (Below.only (Ex.trans (Ex.trans (Ex.trans (Below.only (Ex.trans (Ex.trans (Below.only (Ex.trans (Ex.trans (Ex.trans (Ex.trans (Below.only (Below.only (Ex.trans (Ex.trans (Ex.trans (Ex.refl w) hE13) hE22) hE28) hO32 (by omega)) hO36 (by omega)) hE55) hE66) hE76) hE82) hO85 (by omega)) hE106) hE112) hO115 (by omega)) hE142) hE154) hE161) hO164 (by omega)) hE180) hE989) hE998
            exact ⟨rfl, (Ex.trans (Ex.trans (Below.only (Ex.trans (Ex.trans (Below.only (Ex.trans (Ex.trans (Below.only (Ex.trans (Ex.trans (Below.only (Below.only (Ex.trans q1496 hE1004) hO1008 (by omega)) hO1012 (by omega)) hE1028) hE1035) hO1038 (by omega)) hE1057) hE1064) hO1067 (by omega)) hE1086) hE1095) hO1098 (by omega)) hE1109) hE1119)⟩
         ·refine CW.cond_t rfl (not_f hb181) (CW.seq (CW.region (sd rfl (yl_assign rfl rfl (dn (CW.ret (tr (rr rfl (.cons rfl .nil) ?_))))))))
          have hM1511 : (l_FnRows p_0 p_1) = (false) := by first | (simp only [l_FnRows, hb3, hb116, hb117, hb118, hb122, hb143, hb144, hb165, hb181, cL]; done) | (simp only [l_FnRows, hb118, hb143, cL] <;> simp only [hb3, hb116, hb117, hb122, hb144, hb165, hb181, cL])
          rw [hM1511]
          exact ⟨rfl, (Ex.trans (Below.only (Ex.trans (Ex.trans (Ex.trans (Below.only (Ex.trans (Ex.trans (Below.only (Ex.trans (Ex.trans (Ex.trans (Ex.trans (Below.only (Below.only (Ex.trans (Ex.trans (Ex.trans (Ex.refl w) hE13) hE22) hE28) hO32 (by omega)) hO36 (by omega)) hE55) hE66) hE76) hE82) hO85 (by omega)) hE106) hE112) hO115 (by omega)) hE142) hE154) hE161) hO164 (by omega)) hE180)⟩
        ·refine sz rfl rfl (not_f hb165) (sz rfl rfl (not_f hb165) (sz rfl rfl (not_f hb165) (sz rfl rfl (not_f hb165) (sz rfl rfl (not_f hb165) (sz rfl rfl (not_f hb165) (sd rfl (yl_pick_t rfl rfl (not_f hb165) rfl (dn ?_))))))))
         refine CW.cond_t rfl rfl (CW.seq (CW.region (sd rfl (yl_assign rfl rfl (dn (CW.ret (tr (rr rfl (.cons rfl .nil) ?_))))))))
         have hM1530 : (l_FnRows p_0 p_1) = (false) := by first | (simp only [l_FnRows, hb3, hb116, hb117, hb118, hb122, hb143, hb144, hb165, cL]; done) | (simp only [l_FnRows, hb118, hb143, cL] <;> simp only [hb3, hb116, hb117, hb122, hb144, hb165, cL])
         rw [hM1530]
         exact ⟨rfl, (Below.only (Ex.trans (Ex.trans (Ex.trans (Below.only (Ex.trans (Ex.trans (Below.only (Ex.trans (Ex.trans (Ex.trans (Ex.trans (Below.only (Below.only (Ex.trans (Ex.trans (Ex.trans (Ex.refl w) hE13) hE22) hE28) hO32 (by omega)) hO36 (by omega)) hE55) hE66) hE76) hE82) hO85 (by omega)) hE106) hE112) hO115 (by omega)) hE142) hE154) hE161) hO164 (by omega))⟩
       ·refine CW.cond_f rfl hb144 (CW.skip (tn (CW.seq (CW.seq (CW.region (sd rfl (yl_move rfl rfl (dn ?_))))))))
        refine bcase ((i_IdxKey ((s_DrawIdxKey p_0).1) ((s_DrawIdxKey p_0).2.1) ((s_DrawIdxKey p_0).2.2)).2) (fun hb1548 => ?_) (fun hb1548 => ?_)
        ·refine CW.cond_t rfl hb1548 (CW.seq (CW.region ?_))
         have q1549 := Box.ex q125 hE142
         refine sd rfl (yl_loadN ty26 rfl rfl (q1549.cells (n := 3) rfl) rfl (sd rfl (yl_move rfl rfl ?_)))
         have q1550 := RdS.ex good_Str q131 hE142
         have q1552 := OwnL.ex good_Idx q135 hE142
         refine sd rfl (yl_call en12 rfl (oc rfl (oc rfl oz)) (Cal.mono (c_i_IdxAt ((s_DrawIdxKey p_0).1) ((s_DrawIdxKey p_0).2.1) (RdS.up q1550 good_Str) (RdS.up (OwnL.rd good_Idx q1552) good_Idx) ho9 ho10) ?_))
         rintro v1555 w1553 ⟨rfl, ho1554, hE1556⟩
         have hE1556z := Ex.size hE1556
         refine sd rfl (yl_move rfl rfl (sd rfl (yl_extract rfl rfl rfl (sd rfl (yl_extract rfl rfl rfl (sd rfl (yl_alloc ty42 (cs := [.string (bs (([] : Str))), .int .i64 (0), .int .i64 (0)]) rfl rfl ?_)))))))
         intro b1557 w1558 hs1559 hz1560 hB1561 hE1562
         refine SeqR.u rfl rfl (yl_store (vs := [.string (bs ((i_IdxAt ((s_DrawIdxKey p_0).1) ((s_DrawIdxKey p_0).2.1)).1.Name)), .int .i64 ((i_IdxAt ((s_DrawIdxKey p_0).1) ((s_DrawIdxKey p_0).2.1)).1.Col), .int .i64 ((i_IdxAt ((s_DrawIdxKey p_0).1) ((s_DrawIdxKey p_0).2.1)).1.Stage)]) ty42 rfl rfl rfl rfl rfl rfl hB1561 (Nat.le_of_ble_eq_true rfl) ?_)
         intro w1563 hB1564 hO1565
         have hB1564 : Box w1563 b1557 42 [.string (bs ((i_IdxAt ((s_DrawIdxKey p_0).1) ((s_DrawIdxKey p_0).2.1)).1.Name)), .int .i64 ((i_IdxAt ((s_DrawIdxKey p_0).1) ((s_DrawIdxKey p_0).2.1)).1.Col), .int .i64 ((i_IdxAt ((s_DrawIdxKey p_0).1) ((s_DrawIdxKey p_0).2.1)).1.Stage)] := hB1564
         have hO1565z := hO1565.size
         refine sd rfl (yl_assign rfl rfl (dn (CW.seq (CW.region (sd rfl (yl_loadN ty26 rfl rfl ((Box.only (Box.ex (Box.ex q1549 hE1556) hE1562) hO1565 (by omega)).cells (n := 3) rfl) rfl (sd rfl (yl_move rfl rfl (sd rfl (yl_move rfl rfl (sd rfl (yl_call en13 rfl (oc rfl (oc rfl (oc rfl oz))) (Cal.mono (c_i_ReadIdxKey ((s_DrawIdxKey p_0).1) ((s_DrawIdxKey p_0).2.1) ((i_IdxKey ((s_DrawIdxKey p_0).1) ((s_DrawIdxKey p_0).2.1) ((s_DrawIdxKey p_0).2.2)).1) (RdS.up (RdS.only good_Str (RdS.ex good_Str (RdS.ex good_Str q1550 hE1556) hE1562) hO1565 (by simp only [Iv]; omega)) good_Str) (RdS.up (OwnL.rd good_Idx (OwnL.only good_Idx (OwnL.ex good_Idx (OwnL.ex good_Idx q1552 hE1556) hE1562) hO1565 (by omega))) good_Idx) ho9 ho10 ho53) ?_)))))))))))))
         rintro v1579 w1576 ⟨rfl, ho1577, ho1578, hE1580⟩
         have hE1580z := Ex.size hE1580
         refine sd rfl (yl_move rfl rfl (sd rfl (yl_extract rfl rfl rfl (sd rfl (yl_extract rfl rfl rfl (sd rfl (yl_extract rfl rfl rfl (sd rfl (yl_assign rfl rfl (sd rfl (yl_assign rfl rfl (sd rfl (yl_assign rfl rfl (dn ?_))))))))))))))
         refine CW.seq (CW.region (sd rfl (yl_move rfl rfl (sd rfl (yl_not rfl rfl (sd rfl (yl_move rfl rfl (bcase ((i_IdxAt ((s_DrawIdxKey p_0).1) ((s_DrawIdxKey p_0).2.1)).2) (fun hb1581 => ?_) (fun hb1581 => ?_)))))))))
         ·refine sy rfl rfl (not_t hb1581) (yl_move rfl rfl (sy rfl rfl (not_t hb1581) (yl_not rfl rfl (sd rfl (yl_pick_f rfl rfl (not_t hb1581) rfl (sd rfl (yl_move rfl rfl (bcase ((i_ReadIdxKey ((s_DrawIdxKey p_0).1) ((s_DrawIdxKey p_0).2.1) ((i_IdxKey ((s_DrawIdxKey p_0).1) ((s_DrawIdxKey p_0).2.1) ((s_DrawIdxKey p_0).2.2)).1)).2.2) (fun hb1582 => ?_) (fun hb1582 => ?_)))))))))
          ·refine sy rfl rfl (not_t hb1582) (yl_fieldAddr fd28_0 rfl rfl ?_)
           have q1587 := Box.ex (Box.only (Box.ex (Box.ex (Box.ex q128 hE142) hE1556) hE1562) hO1565 (by omega)) hE1580
           refine sy rfl rfl (not_t hb1582) (yl_load1 ty23 rfl rfl ((q1587.cell 0).trans rfl) (sy rfl rfl (not_t hb1582) (yl_len un23 rfl rfl (sy rfl rfl (not_t hb1582) (yl_fieldAddr fd42_1 rfl rfl ?_)))))
           have q1588 := Box.ex hB1564 hE1580
           refine sy rfl rfl (not_t hb1582) (yl_load1 ty3 rfl rfl ((q1588.cell 1).trans rfl) (sy rfl rfl (not_t hb1582) (yl_leq rfl rfl rfl (sd rfl (yl_pick_f rfl rfl (not_t hb1582) rfl (sd rfl (yl_move rfl rfl (bcase (decide ((((s_DrawIdxKey p_0).2.2.Vals).length : Int) ≤ ((i_IdxAt ((s_DrawIdxKey p_0).1) ((s_DrawIdxKey p_0).2.1)).1.Col))) (fun hb1589 => ?_) (fun hb1589 => ?_)))))))))
           ·have hb1589p := dec_t hb1589
            refine sz rfl rfl hb1589 (sz rfl rfl hb1589 (sz rfl rfl hb1589 (sd rfl (yl_pick_t rfl rfl hb1589 rfl (sd rfl (yl_move rfl rfl (sz rfl rfl rfl (sz rfl rfl rfl (sz rfl rfl rfl (sz rfl rfl rfl ?_))))))))))
            refine sz rfl rfl rfl (sz rfl rfl rfl (sz rfl rfl rfl (sz rfl rfl rfl (sd rfl (yl_pick_t rfl rfl rfl rfl (sd rfl (yl_move rfl rfl (sz rfl rfl rfl (sz rfl rfl rfl (sz rfl rfl rfl ?_))))))))))
            refine sz rfl rfl rfl (sz rfl rfl rfl (sz rfl rfl rfl (sd rfl (yl_pick_t rfl rfl rfl rfl (dn (CW.cond_t rfl rfl (CW.seq (CW.region ?_))))))))
            refine sd rfl (yl_assign rfl rfl (dn (CW.ret (tr (rr rfl (.cons rfl .nil) ?_)))))
            have hM1590 : (l_FnRows p_0 p_1) = (false) := by first | (simp only [l_FnRows, hb3, hb116, hb117, hb118, hb122, hb143, hb144, hb1548, hb1581, hb1582, hb1589, cL]; done) | (simp only [l_FnRows, hb116, hb118, hb143, cL] <;> simp only [hb3, hb117, hb122, hb144, hb1548, hb1581, hb1582, hb1589, cL])
            rw [hM1590]
            exact ⟨rfl, (Ex.trans (Below.only (Ex.trans (Ex.trans (Ex.trans (Below.only (Ex.trans (Ex.trans (Below.only (Ex.trans (Ex.trans (Ex.trans (Ex.trans (Below.only (Below.only (Ex.trans (Ex.trans (Ex.trans (Ex.refl w) hE13) hE22) hE28) hO32 (by omega)) hO36 (by omega)) hE55) hE66) hE76) hE82) hO85 (by omega)) hE106) hE112) hO115 (by omega)) hE142) hE1556) hE1562) hO1565 (by omega)) hE1580)⟩
           ·have hb1589p := dec_f hb1589
            refine sy rfl rfl hb1589 (yl_fieldAddr fd42_1 rfl rfl (sy rfl rfl hb1589 (yl_load1 ty3 rfl rfl ((q1588.cell 1).trans rfl) (sy rfl rfl hb1589 (yl_lss rfl rfl rfl (sd rfl (yl_pick_f rfl rfl hb1589 rfl (sd rfl (yl_move rfl rfl (bcase (decide (((i_IdxAt ((s_DrawIdxKey p_0).1) ((s_DrawIdxKey p_0).2.1)).1.Col) < 0)) (fun hb1609 => ?_) (fun hb1609 => ?_)))))))))))
            ·have hb1609p := dec_t hb1609
             refine sz rfl rfl hb1609 (sz rfl rfl hb1609 (sz rfl rfl hb1609 (sz rfl rfl hb1609 (sz rfl rfl hb1609 (sz rfl rfl hb1609 (sz rfl rfl hb1609 (sz rfl rfl hb1609 (sd rfl (yl_pick_t rfl rfl hb1609 rfl ?_)))))))))
             refine sd rfl (yl_move rfl rfl (sz rfl rfl rfl (sz rfl rfl rfl (sz rfl rfl rfl (sz rfl rfl rfl (sz rfl rfl rfl (sz rfl rfl rfl (sd rfl (yl_pick_t rfl rfl rfl rfl (SeqR.done ?_))))))))))
             refine tn (CW.cond_t rfl rfl (CW.seq (CW.region (sd rfl (yl_assign rfl rfl (dn (CW.ret (tr ?_))))))))
             refine rr rfl (.cons rfl .nil) ?_
             have hM1610 : (l_FnRows p_0 p_1) = (false) := by first | (simp only [l_FnRows, hb3, hb116, hb117, hb118, hb122, hb143, hb144, hb1548, hb1581, hb1582, hb1589, hb1609, cL]; done) | (simp only [l_FnRows, hb116, hb118, hb143, cL] <;> simp only [hb3, hb117, hb122, hb144, hb1548, hb1581, hb1582, hb1589, hb1609, cL])
             rw [hM1610]
             exact ⟨rfl, (Ex.trans (Below.only (Ex.trans (Ex.trans (Ex.trans (Below.only (Ex.trans (Ex.trans (Below.only (Ex.trans (Ex.trans (Ex.trans (Ex.trans (Below.only (Below.only (Ex.trans (Ex.trans (Ex.trans (Ex.refl w) hE13) hE22) hE28) hO32 (by omega)) hO36 (by omega)) hE55) hE66) hE76) hE82) hO85 (by omega)) hE106) hE112) hO115 (by omega)) hE142) hE1556) hE1562) hO1565 (by omega)) hE1580)⟩
            ·have hb1609p := dec_f hb1609
             refine sy rfl rfl hb1609 (yl_move rfl rfl (sy rfl rfl hb1609 (yl_fieldAddr fd28_0 rfl rfl (sy rfl rfl hb1609 (yl_load1 ty23 rfl rfl ((q1587.cell 0).trans rfl) (sy rfl rfl hb1609 (yl_fieldAddr fd42_1 rfl rfl (sy rfl rfl hb1609 (yl_load1 ty3 rfl rfl ((q1588.cell 1).trans rfl) ?_)))))))))
             have q1634 := OwnL.ex good_Str (OwnL.only good_Str (OwnL.ex good_Str (OwnL.ex good_Str (OwnL.ex good_Str q139 hE142) hE1556) hE1562) hO1565 (by omega)) hE1580
             obtain ⟨eb1635, eo1635, _, eA1635, _, ebl1635, _, eR1635, eC1635⟩ := RdS.atD (OwnL.rd good_Str q1634) d_Str (i := ((i_IdxAt ((s_DrawIdxKey p_0).1) ((s_DrawIdxKey p_0).2.1)).1.Col).toNat) (by first | omega | assumption | (simp only [wI] at *; omega))
             obtain rfl := eR1635
             have eC1635 : Cells w1576 eb1635 (eo1635 + (((i_IdxAt ((s_DrawIdxKey p_0).1) ((s_DrawIdxKey p_0).2.1)).1.Col).toNat) * 1) [.string (bs ((((s_DrawIdxKey p_0).2.2.Vals).getD (((i_IdxAt ((s_DrawIdxKey p_0).1) ((s_DrawIdxKey p_0).2.1)).1.Col).toNat) d_Str)))] := eC1635
             refine sy rfl rfl hb1609 (yl_indexAddr un23 ty9 rfl rfl rfl eA1635 (by first | omega | assumption | (simp only [wI] at *; omega)) (by first | omega | assumption | (simp only [wI] at *; omega)) (sy rfl rfl hb1609 (yl_load1 ty9 rfl rfl (eC1635 0 _ rfl) (sy rfl rfl hb1609 (yl_sneq (a := ((i_ReadIdxKey ((s_DrawIdxKey p_0).1) ((s_DrawIdxKey p_0).2.1) ((i_IdxKey ((s_DrawIdxKey p_0).1) ((s_DrawIdxKey p_0).2.1) ((s_DrawIdxKey p_0).2.2)).1)).1)) (b := (((s_DrawIdxKey p_0).2.2.Vals).getD (((i_IdxAt ((s_DrawIdxKey p_0).1) ((s_DrawIdxKey p_0).2.1)).1.Col).toNat) d_Str)) rfl rfl rfl (sd rfl (yl_pick_f rfl rfl hb1609 rfl (sd rfl (yl_move rfl rfl (bcase (((i_ReadIdxKey ((s_DrawIdxKey p_0).1) ((s_DrawIdxKey p_0).2.1) ((i_IdxKey ((s_DrawIdxKey p_0).1) ((s_DrawIdxKey p_0).2.1) ((s_DrawIdxKey p_0).2.2)).1)).1) == (((s_DrawIdxKey p_0).2.2.Vals).getD (((i_IdxAt ((s_DrawIdxKey p_0).1) ((s_DrawIdxKey p_0).2.1)).1.Col).toNat) d_Str)) (fun hb1636 => ?_) (fun hb1636 => ?_)))))))))))
             ·refine sy rfl rfl (not_t hb1636) (yl_move rfl rfl (sy rfl rfl (not_t hb1636) (yl_fieldAddr fd28_0 rfl rfl (sy rfl rfl (not_t hb1636) (yl_load1 ty23 rfl rfl ((q1587.cell 0).trans rfl) ?_)))))
              obtain ⟨eb1638, eo1638, _, eA1638, _, ebl1638, _, eR1638, eC1638⟩ := RdS.aD (OwnL.rd good_Str q1634) d_Str (i := 0)
              obtain rfl := eR1638
              have eC1638 : Cells w1576 eb1638 (eo1638 + 0 * 1) [.string (bs ((((s_DrawIdxKey p_0).2.2.Vals).getD 0 d_Str)))] := eC1638
              refine sy rfl rfl (not_t hb1636) (yl_ixN un23 ty9 rfl rfl rfl eA1638 (sy rfl rfl (not_t hb1636) (yl_load1 ty9 rfl rfl (eC1638 0 _ rfl) (sy rfl rfl (not_t hb1636) (yl_sneq (a := ((i_ReadIdxKey ((s_DrawIdxKey p_0).1) ((s_DrawIdxKey p_0).2.1) ((i_IdxKey ((s_DrawIdxKey p_0).1) ((s_DrawIdxKey p_0).2.1) ((s_DrawIdxKey p_0).2.2)).1)).2.1)) (b := (((s_DrawIdxKey p_0).2.2.Vals).getD 0 d_Str)) rfl rfl rfl (sd rfl (yl_pick_f rfl rfl (not_t hb1636) rfl (dn (bcase (((i_ReadIdxKey ((s_DrawIdxKey p_0).1) ((s_DrawIdxKey p_0).2.1) ((i_IdxKey ((s_DrawIdxKey p_0).1) ((s_DrawIdxKey p_0).2.1) ((s_DrawIdxKey p_0).2.2)).1)).2.1) == (((s_DrawIdxKey p_0).2.2.Vals).getD 0 d_Str)) (fun hb1639 => ?_) (fun hb1639 => ?_))))))))))
              ·refine CW.cond_f rfl (not_t hb1639) (CW.skip (tn (CW.seq (CW.region (sd rfl (yl_move rfl rfl ?_))))))
               have q1652 := RdS.only good_U8 (RdS.ex good_U8 (RdS.ex good_U8 (RdS.only good_U8 (RdS.ex good_U8 (RdS.ex good_U8 (RdS.ex good_U8 (RdS.ex good_U8 (RdS.only good_U8 (RdS.only good_U8 (RdS.ex good_U8 (RdS.ex good_U8 (RdS.ex good_U8 h2 hE13) hE22) hE28) hO32 (by simp only [Iv]; omega)) hO36 (by simp only [Iv]; omega)) hE55) hE66) hE76) hE82) hO85 (by simp only [Iv]; omega)) hE106) hE112) hO115 (by simp only [Iv]; omega)
               have q1657 := RdS.ex good_U8 (RdS.only good_U8 (RdS.ex good_U8 (RdS.ex good_U8 (RdS.ex good_U8 q1652 hE142) hE1556) hE1562) hO1565 (by simp only [Iv]; omega)) hE1580
               refine sd rfl (yl_call en14 rfl (oc rfl oz) (Cal.mono (c_s_DrawReadRow p_1 (RdS.up q1657 good_U8) (okL.mk (xs := p_1) (by first | omega | (simp only [List.length_append, List.length_cons, List.length_nil, List.length_take, List.length_drop, List.length_replicate, List.length_set]; omega)) fun _ _ => trivial) (by assumption)) ?_))
               rintro v1663 w1658 ⟨A1659, c1659, lo1659, hi1659, A1660, c1660, lo1660, hi1660, rfl, h1659, h1660, ho1661, ho1662, hrn1665, hrn1666, hrn1667, hE1664⟩
               have hE1664z := Ex.size hE1664
               refine sd rfl (yl_move rfl rfl (sd rfl (yl_extract rfl rfl rfl (sd rfl (yl_extract rfl rfl rfl (sd rfl (yl_alloc ty26 (cs := [.string (bs (([] : Str))), .slice none 0 0, .slice none 0 0]) rfl rfl ?_)))))))
               intro b1668 w1669 hs1670 hz1671 hB1672 hE1673
               refine sd rfl (yl_alloc ty34 (cs := [.string (bs (([] : Str))), .string (bs (([] : Str))), .bool (false)]) rfl rfl ?_)
               intro b1674 w1675 hs1676 hz1677 hB1678 hE1679
               refine SeqR.u rfl rfl (yl_store (vs := [.string (bs ((s_DrawReadRow p_1).1.Name)), .slice A1659 (((s_DrawReadRow p_1).1.Cols).length) c1659, .slice A1660 (((s_DrawReadRow p_1).1.Idxs).length) c1660]) ty26 rfl rfl rfl rfl rfl rfl (Box.ex hB1672 hE1679) (Nat.le_of_ble_eq_true rfl) ?_)
               intro w1681 hB1682 hO1683
               have hB1682 : Box w1681 b1668 26 [.string (bs ((s_DrawReadRow p_1).1.Name)), .slice A1659 (((s_DrawReadRow p_1).1.Cols).length) c1659, .slice A1660 (((s_DrawReadRow p_1).1.Idxs).length) c1660] := hB1682
               have hO1683z := hO1683.size
               refine SeqR.u rfl rfl (yl_store (vs := [.string (bs ((s_DrawReadRow p_1).2.Key)), .string (bs ((s_DrawReadRow p_1).2.Val)), .bool ((s_DrawReadRow p_1).2.Gone)]) ty34 rfl rfl rfl rfl rfl rfl (Box.only hB1678 hO1683 (by omega)) (Nat.le_of_ble_eq_true rfl) ?_)
               intro w1685 hB1686 hO1687
               have hB1686 : Box w1685 b1674 34 [.string (bs ((s_DrawReadRow p_1).2.Key)), .string (bs ((s_DrawReadRow p_1).2.Val)), .bool ((s_DrawReadRow p_1).2.Gone)] := hB1686
               have hO1687z := hO1687.size
               refine dn (CW.seq (CW.region ?_))
               have q1688 := Box.only hB1682 hO1687 (by omega)
               refine sd rfl (yl_loadN ty26 rfl rfl (q1688.cells (n := 3) rfl) rfl (sd rfl (yl_loadN ty34 rfl rfl (hB1686.cells (n := 3) rfl) rfl ?_)))
               have q1693 := OwnL.only good_Str (OwnL.only good_Str (OwnL.ex good_Str (OwnL.ex good_Str h1659 hE1673) hE1679) hO1683 (by omega)) hO1687 (by omega)
               have q1698 := OwnL.only good_Idx (OwnL.only good_Idx (OwnL.ex good_Idx (OwnL.ex good_Idx h1660 hE1673) hE1679) hO1683 (by omega)) hO1687 (by omega)
               refine sd rfl (yl_call en10 rfl (oc rfl (oc rfl oz)) (Cal.mono (c_i_ReadRow ((s_DrawReadRow p_1).1) ((s_DrawReadRow p_1).2) (RdS.up (OwnL.rd good_Str q1693) good_Str) (RdS.up (OwnL.rd good_Idx q1698) good_Idx) ho1661 ho1662) ?_))
               rintro v1702 w1699 ⟨A1700, c1700, lo1700, hi1700, rfl, h1700, ho1701, hrn1704, hE1703⟩
               have hE1703z := Ex.size hE1703
               refine sd rfl (yl_move rfl rfl (sd rfl (yl_extract rfl rfl rfl (sd rfl (yl_extract rfl rfl rfl (sd rfl (yl_alloc ty28 (cs := [.slice none 0 0]) rfl rfl ?_)))))))
               intro b1705 w1706 hs1707 hz1708 hB1709 hE1710
               refine SeqR.u rfl rfl (yl_store (vs := [.slice A1700 (((i_ReadRow ((s_DrawReadRow p_1).1) ((s_DrawReadRow p_1).2)).1.Vals).length) c1700]) ty28 rfl rfl rfl rfl rfl rfl hB1709 (Nat.le_of_ble_eq_true rfl) ?_)
               intro w1711 hB1712 hO1713
               have hB1712 : Box w1711 b1705 28 [.slice A1700 (((i_ReadRow ((s_DrawReadRow p_1).1) ((s_DrawReadRow p_1).2)).1.Vals).length) c1700] := hB1712
               have hO1713z := hO1713.size
               refine sd rfl (yl_assign rfl rfl (dn (CW.seq (CW.region ?_))))
               have q1716 := Box.only (Box.ex (Box.ex q1688 hE1703) hE1710) hO1713 (by omega)
               refine sd rfl (yl_loadN ty26 rfl rfl (q1716.cells (n := 3) rfl) rfl ?_)
               have q1719 := Box.only (Box.ex (Box.ex hB1686 hE1703) hE1710) hO1713 (by omega)
               refine sd rfl (yl_loadN ty34 rfl rfl (q1719.cells (n := 3) rfl) rfl ?_)
               have q1723 := OwnL.only good_Str (OwnL.ex good_Str (OwnL.ex good_Str q1693 hE1703) hE1710) hO1713 (by omega)
               have q1727 := OwnL.only good_Idx (OwnL.ex good_Idx (OwnL.ex good_Idx q1698 hE1703) hE1710) hO1713 (by omega)
               refine sd rfl (yl_call en15 rfl (oc rfl (oc rfl oz)) (Cal.mono (c_s_ReadRow ((s_DrawReadRow p_1).1) ((s_DrawReadRow p_1).2) (RdS.up (OwnL.rd good_Str q1723) good_Str) (RdS.up (OwnL.rd good_Idx q1727) good_Idx) ho1661 ho1662) ?_))
               rintro v1731 w1728 ⟨A1729, c1729, lo1729, hi1729, rfl, h1729, ho1730, hrn1733, hE1732⟩
               have hE1732z := Ex.size hE1732
               refine sd rfl (yl_move rfl rfl (sd rfl (yl_extract rfl rfl rfl (sd rfl (yl_extract rfl rfl rfl (sd rfl (yl_alloc ty28 (cs := [.slice none 0 0]) rfl rfl ?_)))))))
               intro b1734 w1735 hs1736 hz1737 hB1738 hE1739
               refine SeqR.u rfl rfl (yl_store (vs := [.slice A1729 (((s_ReadRow ((s_DrawReadRow p_1).1) ((s_DrawReadRow p_1).2)).1.Vals).length) c1729]) ty28 rfl rfl rfl rfl rfl rfl hB1738 (Nat.le_of_ble_eq_true rfl) ?_)
               intro w1740 hB1741 hO1742
               have hB1741 : Box w1740 b1734 28 [.slice A1729 (((s_ReadRow ((s_DrawReadRow p_1).1) ((s_DrawReadRow p_1).2)).1.Vals).length) c1729] := hB1741
               have hO1742z := hO1742.size
               refine sd rfl (yl_assign rfl rfl (dn (CW.seq (CW.region (sd rfl (yl_move rfl rfl (sd rfl (yl_call en16 rfl (oc rfl oz) (Cal.mono (c_s_DrawReadIdxKey p_1 (RdS.up (RdS.only good_U8 (RdS.ex good_U8 (RdS.ex good_U8 (RdS.only good_U8 (RdS.ex good_U8 (RdS.ex good_U8 (RdS.only good_U8 (RdS.only good_U8 (RdS.ex good_U8 (RdS.ex good_U8 (RdS.ex good_U8 q1657 hE1664) hE1673) hE1679) hO1683 (by simp only [Iv]; omega)) hO1687 (by simp only [Iv]; omega)) hE1703) hE1710) hO1713 (by simp only [Iv]; omega)) hE1732) hE1739) hO1742 (by simp only [Iv]; omega)) good_U8) (okL.mk (xs := p_1) (by first | omega | (simp only [List.length_append, List.length_cons, List.length_nil, List.length_take, List.length_drop, List.length_replicate, List.length_set]; omega)) fun _ _ => trivial) (by assumption)) ?_)))))))))
               rintro v1760 w1754 ⟨A1755, c1755, lo1755, hi1755, A1756, c1756, lo1756, hi1756, rfl, h1755, h1756, ho1757, ho1758, ho1759, hrn1762, hrn1763, hrn1764, hE1761⟩
               have hE1761z := Ex.size hE1761
               refine sd rfl (yl_move rfl rfl (sd rfl (yl_extract rfl rfl rfl (sd rfl (yl_extract rfl rfl rfl (sd rfl (yl_extract rfl rfl rfl (sd rfl (yl_alloc ty26 (cs := [.string (bs (([] : Str))), .slice none 0 0, .slice none 0 0]) rfl rfl ?_)))))))))
               intro b1765 w1766 hs1767 hz1768 hB1769 hE1770
               refine SeqR.u rfl rfl (yl_store (vs := [.string (bs ((s_DrawReadIdxKey p_1).1.Name)), .slice A1755 (((s_DrawReadIdxKey p_1).1.Cols).length) c1755, .slice A1756 (((s_DrawReadIdxKey p_1).1.Idxs).length) c1756]) ty26 rfl rfl rfl rfl rfl rfl hB1769 (Nat.le_of_ble_eq_true rfl) ?_)
               intro w1771 hB1772 hO1773
               have hB1772 : Box w1771 b1765 26 [.string (bs ((s_DrawReadIdxKey p_1).1.Name)), .slice A1755 (((s_DrawReadIdxKey p_1).1.Cols).length) c1755, .slice A1756 (((s_DrawReadIdxKey p_1).1.Idxs).length) c1756] := hB1772
               have hO1773z := hO1773.size
               refine sd rfl (yl_assign rfl rfl (sd rfl (yl_assign rfl rfl (dn (CW.seq (CW.region (sd rfl (yl_loadN ty26 rfl rfl (hB1772.cells (n := 3) rfl) rfl (sd rfl (yl_move rfl rfl (sd rfl (yl_move rfl rfl ?_))))))))))))
               have q1776 := OwnL.only good_Str (OwnL.ex good_Str h1755 hE1770) hO1773 (by omega)
               have q1779 := OwnL.only good_Idx (OwnL.ex good_Idx h1756 hE1770) hO1773 (by omega)
               refine sd rfl (yl_call en13 rfl (oc rfl (oc rfl (oc rfl oz))) (Cal.mono (c_i_ReadIdxKey ((s_DrawReadIdxKey p_1).1) ((s_DrawReadIdxKey p_1).2.1) ((s_DrawReadIdxKey p_1).2.2) (RdS.up (OwnL.rd good_Str q1776) good_Str) (RdS.up (OwnL.rd good_Idx q1779) good_Idx) ho1757 ho1758 ho1759) ?_))
               rintro v1783 w1780 ⟨rfl, ho1781, ho1782, hE1784⟩
               have hE1784z := Ex.size hE1784
               refine sd rfl (yl_move rfl rfl (sd rfl (yl_extract rfl rfl rfl (sd rfl (yl_extract rfl rfl rfl (sd rfl (yl_extract rfl rfl rfl (sd rfl (yl_assign rfl rfl (sd rfl (yl_assign rfl rfl (sd rfl (yl_assign rfl rfl (dn ?_))))))))))))))
               refine CW.seq (CW.region (sd rfl (yl_loadN ty26 rfl rfl ((Box.ex hB1772 hE1784).cells (n := 3) rfl) rfl (sd rfl (yl_move rfl rfl (sd rfl (yl_move rfl rfl (sd rfl (yl_call en17 rfl (oc rfl (oc rfl (oc rfl oz))) (Cal.mono (c_s_ReadIdxKey ((s_DrawReadIdxKey p_1).1) ((s_DrawReadIdxKey p_1).2.1) ((s_DrawReadIdxKey p_1).2.2) (RdS.up (OwnL.rd good_Str (OwnL.ex good_Str q1776 hE1784)) good_Str) (RdS.up (OwnL.rd good_Idx (OwnL.ex good_Idx q1779 hE1784)) good_Idx) ho1757 ho1758 ho1759) ?_))))))))))
               rintro v1793 w1790 ⟨rfl, ho1791, ho1792, hE1794⟩
               have hE1794z := Ex.size hE1794
               refine sd rfl (yl_move rfl rfl (sd rfl (yl_extract rfl rfl rfl (sd rfl (yl_extract rfl rfl rfl (sd rfl (yl_extract rfl rfl rfl (sd rfl (yl_assign rfl rfl (sd rfl (yl_assign rfl rfl (sd rfl (yl_assign rfl rfl (dn ?_))))))))))))))
               refine CW.seq (CW.seq (CW.region (sd rfl (yl_move rfl rfl (sd rfl (yl_move rfl rfl (sd rfl (yl_bneq un4 rfl rfl rfl (sd rfl (yl_move rfl rfl (bcase (((i_ReadRow ((s_DrawReadRow p_1).1) ((s_DrawReadRow p_1).2)).2) == ((s_ReadRow ((s_DrawReadRow p_1).1) ((s_DrawReadRow p_1).2)).2)) (fun hb1795 => ?_) (fun hb1795 => ?_))))))))))))
               ·refine sy rfl rfl (not_t hb1795) (yl_fieldAddr fd28_0 rfl rfl ?_)
                have q1803 := Box.ex (Box.ex (Box.only (Box.ex (Box.ex (Box.only (Box.ex (Box.ex hB1712 hE1732) hE1739) hO1742 (by omega)) hE1761) hE1770) hO1773 (by omega)) hE1784) hE1794
                refine sy rfl rfl (not_t hb1795) (yl_load1 ty23 rfl rfl ((q1803.cell 0).trans rfl) (sy rfl rfl (not_t hb1795) (yl_fieldAddr fd28_0 rfl rfl (sy rfl rfl (not_t hb1795) (yl_load1 ty23 rfl rfl (((Box.ex (Box.ex (Box.only (Box.ex (Box.ex hB1741 hE1761) hE1770) hO1773 (by omega)) hE1784) hE1794).cell 0).trans rfl) ?_)))))
                have q1819 := OwnL.ex good_Str (OwnL.ex good_Str (OwnL.only good_Str (OwnL.ex good_Str (OwnL.ex good_Str (OwnL.only good_Str (OwnL.ex good_Str (OwnL.ex good_Str (OwnL.only good_Str (OwnL.ex good_Str h1700 hE1710) hO1713 (by omega)) hE1732) hE1739) hO1742 (by omega)) hE1761) hE1770) hO1773 (by omega)) hE1784) hE1794
                refine sy rfl rfl (not_t hb1795) (yl_call en11 rfl (oc rfl (oc rfl oz)) (Cal.mono (c_l_qSameS ((i_ReadRow ((s_DrawReadRow p_1).1) ((s_DrawReadRow p_1).2)).1.Vals) ((s_ReadRow ((s_DrawReadRow p_1).1) ((s_DrawReadRow p_1).2)).1.Vals) (RdS.up (OwnL.rd good_Str q1819) good_Str) (RdS.up (OwnL.rd good_Str (OwnL.ex good_Str (OwnL.ex good_Str (OwnL.only good_Str (OwnL.ex good_Str (OwnL.ex good_Str (OwnL.only good_Str (OwnL.ex good_Str h1729 hE1739) hO1742 (by omega)) hE1761) hE1770) hO1773 (by omega)) hE1784) hE1794)) good_Str) ho1701 ho1730) ?_))
                rintro v1829 w1828 ⟨rfl, hE1830⟩
                have hE1830z := Ex.size hE1830
                refine sy rfl rfl (not_t hb1795) (yl_not rfl rfl (sd rfl (yl_pick_f rfl rfl (not_t hb1795) rfl (sd rfl (yl_move rfl rfl (bcase (l_qSameS ((i_ReadRow ((s_DrawReadRow p_1).1) ((s_DrawReadRow p_1).2)).1.Vals) ((s_ReadRow ((s_DrawReadRow p_1).1) ((s_DrawReadRow p_1).2)).1.Vals)) (fun hb1831 => ?_) (fun hb1831 => ?_)))))))
                ·refine sy rfl rfl (not_t hb1831) (yl_move rfl rfl (sy rfl rfl (not_t hb1831) (yl_move rfl rfl (sy rfl rfl (not_t hb1831) (yl_bneq un4 rfl rfl rfl (sd rfl (yl_pick_f rfl rfl (not_t hb1831) rfl (sd rfl (yl_move rfl rfl (bcase (((i_ReadIdxKey ((s_DrawReadIdxKey p_1).1) ((s_DrawReadIdxKey p_1).2.1) ((s_DrawReadIdxKey p_1).2.2)).2.2) == ((s_ReadIdxKey ((s_DrawReadIdxKey p_1).1) ((s_DrawReadIdxKey p_1).2.1) ((s_DrawReadIdxKey p_1).2.2)).2.2)) (fun hb1832 => ?_) (fun hb1832 => ?_)))))))))))
                 ·refine sy rfl rfl (not_t hb1832) (yl_move rfl rfl (sy rfl rfl (not_t hb1832) (yl_move rfl rfl (sy rfl rfl (not_t hb1832) (yl_sneq (a := ((i_ReadIdxKey ((s_DrawReadIdxKey p_1).1) ((s_DrawReadIdxKey p_1).2.1) ((s_DrawReadIdxKey p_1).2.2)).1)) (b := ((s_ReadIdxKey ((s_DrawReadIdxKey p_1).1) ((s_DrawReadIdxKey p_1).2.1) ((s_DrawReadIdxKey p_1).2.2)).1)) rfl rfl rfl (sd rfl (yl_pick_f rfl rfl (not_t hb1832) rfl (sd rfl (yl_move rfl rfl (bcase (((i_ReadIdxKey ((s_DrawReadIdxKey p_1).1) ((s_DrawReadIdxKey p_1).2.1) ((s_DrawReadIdxKey p_1).2.2)).1) == ((s_ReadIdxKey ((s_DrawReadIdxKey p_1).1) ((s_DrawReadIdxKey p_1).2.1) ((s_DrawReadIdxKey p_1).2.2)).1)) (fun hb1833 => ?_) (fun hb1833 => ?_)))))))))))
                  ·refine sy rfl rfl (not_t hb1833) (yl_move rfl rfl (sy rfl rfl (not_t hb1833) (yl_move rfl rfl (sy rfl rfl (not_t hb1833) (yl_sneq (a := ((i_ReadIdxKey ((s_DrawReadIdxKey p_1).1) ((s_DrawReadIdxKey p_1).2.1) ((s_DrawReadIdxKey p_1).2.2)).2.1)) (b := ((s_ReadIdxKey ((s_DrawReadIdxKey p_1).1) ((s_DrawReadIdxKey p_1).2.1) ((s_DrawReadIdxKey p_1).2.2)).2.1)) rfl rfl rfl (sd rfl (yl_pick_f rfl rfl (not_t hb1833) rfl (dn (bcase (((i_ReadIdxKey ((s_DrawReadIdxKey p_1).1) ((s_DrawReadIdxKey p_1).2.1) ((s_DrawReadIdxKey p_1).2.2)).2.1) == ((s_ReadIdxKey ((s_DrawReadIdxKey p_1).1) ((s_DrawReadIdxKey p_1).2.1) ((s_DrawReadIdxKey p_1).2.2)).2.1)) (fun hb1834 => ?_) (fun hb1834 => ?_))))))))))
                   ·refine CW.cond_f rfl (not_t hb1834) (CW.skip (tn (CW.seq (CW.seq (CW.region (sd rfl (yl_move rfl rfl (dn ?_))))))))
                    refine bcase ((i_ReadRow ((s_DrawReadRow p_1).1) ((s_DrawReadRow p_1).2)).2) (fun hb1835 => ?_) (fun hb1835 => ?_)
                    ·refine CW.cond_t rfl hb1835 (CW.seq (CW.region (sd rfl (yl_loadN ty26 rfl rfl ((Box.ex (Box.ex (Box.ex (Box.only (Box.ex (Box.ex (Box.only (Box.ex (Box.ex q1716 hE1732) hE1739) hO1742 (by omega)) hE1761) hE1770) hO1773 (by omega)) hE1784) hE1794) hE1830).cells (n := 3) rfl) rfl (sd rfl (yl_loadN ty28 rfl rfl ((Box.ex q1803 hE1830).cells (n := 1) rfl) rfl (sd rfl (yl_call en7 rfl (oc rfl (oc rfl oz)) (Cal.mono (c_i_RowWrite ((s_DrawReadRow p_1).1) ((i_ReadRow ((s_DrawReadRow p_1).1) ((s_DrawReadRow p_1).2)).1) (RdS.up (OwnL.rd good_Str (OwnL.ex good_Str (OwnL.ex good_Str (OwnL.ex good_Str (OwnL.only good_Str (OwnL.ex good_Str (OwnL.ex good_Str (OwnL.only good_Str (OwnL.ex good_Str (OwnL.ex good_Str q1723 hE1732) hE1739) hO1742 (by omega)) hE1761) hE1770) hO1773 (by omega)) hE1784) hE1794) hE1830)) good_Str) (RdS.up (OwnL.rd good_Idx (OwnL.ex good_Idx (OwnL.ex good_Idx (OwnL.ex good_Idx (OwnL.only good_Idx (OwnL.ex good_Idx (OwnL.ex good_Idx (OwnL.only good_Idx (OwnL.ex good_Idx (OwnL.ex good_Idx q1727 hE1732) hE1739) hO1742 (by omega)) hE1761) hE1770) hO1773 (by omega)) hE1784) hE1794) hE1830)) good_Idx) (RdS.up (OwnL.rd good_Str (OwnL.ex good_Str q1819 hE1830)) good_Str) ho1661 ho1701) ?_)))))))))
                     rintro v1869 w1868 ⟨rfl, hE1870⟩
                     have hE1870z := Ex.size hE1870
                     refine sd rfl (yl_move rfl rfl (sd rfl (yl_extract rfl rfl rfl (sd rfl (yl_extract rfl rfl rfl (sd rfl (yl_alloc ty34 (cs := [.string (bs (([] : Str))), .string (bs (([] : Str))), .bool (false)]) rfl rfl ?_)))))))
                     intro b1871 w1872 hs1873 hz1874 hB1875 hE1876
                     refine SeqR.u rfl rfl (yl_store (vs := [.string (bs ((i_RowWrite ((s_DrawReadRow p_1).1) ((i_ReadRow ((s_DrawReadRow p_1).1) ((s_DrawReadRow p_1).2)).1)).1.Key)), .string (bs ((i_RowWrite ((s_DrawReadRow p_1).1) ((i_ReadRow ((s_DrawReadRow p_1).1) ((s_DrawReadRow p_1).2)).1)).1.Val)), .bool ((i_RowWrite ((s_DrawReadRow p_1).1) ((i_ReadRow ((s_DrawReadRow p_1).1) ((s_DrawReadRow p_1).2)).1)).1.Gone)]) ty34 rfl rfl rfl rfl rfl rfl hB1875 (Nat.le_of_ble_eq_true rfl) ?_)
                     intro w1877 hB1878 hO1879
                     have hB1878 : Box w1877 b1871 34 [.string (bs ((i_RowWrite ((s_DrawReadRow p_1).1) ((i_ReadRow ((s_DrawReadRow p_1).1) ((s_DrawReadRow p_1).2)).1)).1.Key)), .string (bs ((i_RowWrite ((s_DrawReadRow p_1).1) ((i_ReadRow ((s_DrawReadRow p_1).1) ((s_DrawReadRow p_1).2)).1)).1.Val)), .bool ((i_RowWrite ((s_DrawReadRow p_1).1) ((i_ReadRow ((s_DrawReadRow p_1).1) ((s_DrawReadRow p_1).2)).1)).1.Gone)] := hB1878
                     have hO1879z := hO1879.size
                     refine sd rfl (yl_assign rfl rfl (dn (CW.seq (CW.region (sd rfl (yl_move rfl rfl (sd rfl (yl_move rfl rfl (bcase ((i_RowWrite ((s_DrawReadRow p_1).1) ((i_ReadRow ((s_DrawReadRow p_1).1) ((s_DrawReadRow p_1).2)).1)).2) (fun hb1880 => ?_) (fun hb1880 => ?_))))))))))
                     ·refine sy rfl rfl hb1880 (yl_loadN ty34 rfl rfl (hB1878.cells (n := 3) rfl) rfl (sy rfl rfl hb1880 (yl_loadN ty34 rfl rfl ((Box.only (Box.ex (Box.ex (Box.ex (Box.ex (Box.ex (Box.only (Box.ex (Box.ex (Box.only (Box.ex (Box.ex q1719 hE1732) hE1739) hO1742 (by omega)) hE1761) hE1770) hO1773 (by omega)) hE1784) hE1794) hE1830) hE1870) hE1876) hO1879 (by omega)).cells (n := 3) rfl) rfl (sy rfl rfl hb1880 (yl_aeql (xs := [.string (bs ((i_RowWrite ((s_DrawReadRow p_1).1) ((i_ReadRow ((s_DrawReadRow p_1).1) ((s_DrawReadRow p_1).2)).1)).1.Key)), .string (bs ((i_RowWrite ((s_DrawReadRow p_1).1) ((i_ReadRow ((s_DrawReadRow p_1).1) ((s_DrawReadRow p_1).2)).1)).1.Val)), .bool ((i_RowWrite ((s_DrawReadRow p_1).1) ((i_ReadRow ((s_DrawReadRow p_1).1) ((s_DrawReadRow p_1).2)).1)).1.Gone)]) (ys := [.string (bs ((s_DrawReadRow p_1).2.Key)), .string (bs ((s_DrawReadRow p_1).2.Val)), .bool ((s_DrawReadRow p_1).2.Gone)]) Tryd.ae34 rfl rfl rfl (sd rfl (yl_pick_t rfl rfl hb1880 rfl (sd rfl (yl_assign rfl rfl ?_)))))))))
                      refine dn (CW.ret (tr (rr rfl (.cons rfl .nil) ?_)))
                      have hM1893 : (l_FnRows p_0 p_1) = (((((i_RowWrite ((s_DrawReadRow p_1).1) ((i_ReadRow ((s_DrawReadRow p_1).1) ((s_DrawReadRow p_1).2)).1)).1.Key) == ((s_DrawReadRow p_1).2.Key)) && ((((i_RowWrite ((s_DrawReadRow p_1).1) ((i_ReadRow ((s_DrawReadRow p_1).1) ((s_DrawReadRow p_1).2)).1)).1.Val) == ((s_DrawReadRow p_1).2.Val)) && (((i_RowWrite ((s_DrawReadRow p_1).1) ((i_ReadRow ((s_DrawReadRow p_1).1) ((s_DrawReadRow p_1).2)).1)).1.Gone) == ((s_DrawReadRow p_1).2.Gone))))) := by first | (simp only [l_FnRows, hb3, hb116, hb117, hb118, hb122, hb143, hb144, hb1548, hb1581, hb1582, hb1589, hb1609, hb1636, hb1639, hb1795, hb1831, hb1832, hb1833, hb1834, hb1835, hb1880, cL]; done) | (simp only [l_FnRows, hb116, hb118, hb143, hb1795, cL] <;> simp only [hb3, hb117, hb122, hb144, hb1548, hb1581, hb1582, hb1589, hb1609, hb1636, hb1639, hb1831, hb1832, hb1833, hb1834, hb1835, hb1880, cL])
                      rw [hM1893]
                      have q1913 := Ex.trans (Ex.trans (Ex.trans (Below.only (Ex.trans (Ex.trans (Ex.trans (Below.only (Ex.trans (Ex.trans (Below.only (Ex.trans (Ex.trans (Ex.trans (Ex.trans (Below.only (Below.only (Ex.trans (Ex.trans (Ex.trans (Ex.refl w) hE13) hE22) hE28) hO32 (by omega)) hO36 (by omega)) hE55) hE66) hE76) hE82) hO85 (by omega)) hE106) hE112) hO115 (by omega)) hE142) hE1556) hE1562) hO1565 (by omega)) hE1580) hE1664) hE1673
                      have q1931 := Below.only (Ex.trans (Ex.trans (Ex.trans (Ex.trans (Ex.trans (Below.only (Ex.trans (Ex.trans (Below.only (Ex.trans (Ex.trans (Below.only (Ex.trans (Ex.trans (Below.only (Below.only (Ex.trans q1913 hE1679) hO1683 (by omega)) hO1687 (by omega)) hE1703) hE1710) hO1713 (by omega)) hE1732) hE1739) hO1742 (by omega)) hE1761) hE1770) hO1773 (by omega)) hE1784) hE1794) hE1830) hE1870) hE1876) hO1879 (by omega)
                      exact ⟨rfl, q1931⟩
                     ·refine sz rfl rfl hb1880 (sz rfl rfl hb1880 (sz rfl rfl hb1880 (sd rfl (yl_pick_f rfl rfl hb1880 rfl (sd rfl (yl_assign rfl rfl (dn (CW.ret (tr ?_)))))))))
                      refine rr rfl (.cons rfl .nil) ?_
                      have hM1932 : (l_FnRows p_0 p_1) = (false) := by first | (simp only [l_FnRows, hb3, hb116, hb117, hb118, hb122, hb143, hb144, hb1548, hb1581, hb1582, hb1589, hb1609, hb1636, hb1639, hb1795, hb1831, hb1832, hb1833, hb1834, hb1835, hb1880, cL]; done) | (simp only [l_FnRows, hb116, hb118, hb143, hb1795, cL] <;> simp only [hb3, hb117, hb122, hb144, hb1548, hb1581, hb1582, hb1589, hb1609, hb1636, hb1639, hb1831, hb1832, hb1833, hb1834, hb1835, hb1880, cL])
                      rw [hM1932]
                      have q1952 := Ex.trans (Ex.trans (Ex.trans (Below.only (Ex.trans (Ex.trans (Ex.trans (Below.only (Ex.trans (Ex.trans (Below.only (Ex.trans (Ex.trans (Ex.trans (Ex.trans (Below.only (Below.only (Ex.trans (Ex.trans (Ex.trans (Ex.refl w) hE13) hE22) hE28) hO32 (by omega)) hO36 (by omega)) hE55) hE66) hE76) hE82) hO85 (by omega)) hE106) hE112) hO115 (by omega)) hE142) hE1556) hE1562) hO1565 (by omega)) hE1580) hE1664) hE1673
                      have q1970 := Below.only (Ex.trans (Ex.trans (Ex.trans (Ex.trans (Ex.trans (Below.only (Ex.trans (Ex.trans (Below.only (Ex.trans (Ex.trans (Below.only (Ex.trans (Ex.trans (Below.only (Below.only (Ex.trans q1952 hE1679) hO1683 (by omega)) hO1687 (by omega)) hE1703) hE1710) hO1713 (by omega)) hE1732) hE1739) hO1742 (by omega)) hE1761) hE1770) hO1773 (by omega)) hE1784) hE1794) hE1830) hE1870) hE1876) hO1879 (by omega)
                      exact ⟨rfl, q1970⟩
                    ·refine CW.cond_f rfl hb1835 (CW.skip (tn (CW.seq (CW.region (sd rfl (yl_assign rfl rfl (dn (CW.ret ?_))))))))
                     refine rr rfl (.cons rfl .nil) ?_
                     have hM1971 : (l_FnRows p_0 p_1) = (true) := by first | (simp only [l_FnRows, hb3, hb116, hb117, hb118, hb122, hb143, hb144, hb1548, hb1581, hb1582, hb1589, hb1609, hb1636, hb1639, hb1795, hb1831, hb1832, hb1833, hb1834, hb1835, cL]; done) | (simp only [l_FnRows, hb116, hb118, hb143, hb1795, cL] <;> simp only [hb3, hb117, hb122, hb144, hb1548, hb1581, hb1582, hb1589, hb1609, hb1636, hb1639, hb1831, hb1832, hb1833, hb1834, hb1835, cL])
                     rw [hM1971]
                     have q1991 := Ex.trans (Ex.trans (Ex.trans (Below.only (Ex.trans (Ex.trans (Ex.trans (Below.only (Ex.trans (Ex.trans (Below.only (Ex.trans (Ex.trans (Ex.trans (Ex.trans (Below.only (Below.only (Ex.trans (Ex.trans (Ex.trans (Ex.refl w) hE13) hE22) hE28) hO32 (by omega)) hO36 (by omega)) hE55) hE66) hE76) hE82) hO85 (by omega)) hE106) hE112) hO115 (by omega)) hE142) hE1556) hE1562) hO1565 (by omega)) hE1580) hE1664) hE1673
                     exact ⟨rfl, (Ex.trans (Ex.trans (Ex.trans (Below.only (Ex.trans (Ex.trans (Below.only (Ex.trans (Ex.trans (Below.only (Ex.trans (Ex.trans (Below.only (Below.only (Ex.trans q1991 hE1679) hO1683 (by omega)) hO1687 (by omega)) hE1703) hE1710) hO1713 (by omega)) hE1732) hE1739) hO1742 (by omega)) hE1761) hE1770) hO1773 (by omega)) hE1784) hE1794) hE1830)⟩
                   ·refine CW.cond_t rfl (not_f hb1834) (CW.seq (CW.region (sd rfl (yl_assign rfl rfl (dn (CW.ret (tr (rr rfl (.cons rfl .nil) ?_))))))))
                    have hM2007 : (l_FnRows p_0 p_1) = (false) := by first | (simp only [l_FnRows, hb3, hb116, hb117, hb118, hb122, hb143, hb144, hb1548, hb1581, hb1582, hb1589, hb1609, hb1636, hb1639, hb1795, hb1831, hb1832, hb1833, hb1834, cL]; done) | (simp only [l_FnRows, hb116, hb118, hb143, cL] <;> simp only [hb3, hb117, hb122, hb144, hb1548, hb1581, hb1582, hb1589, hb1609, hb1636, hb1639, hb1795, hb1831, hb1832, hb1833, hb1834, cL])
                    rw [hM2007]
                    have q2027 := Ex.trans (Ex.trans (Ex.trans (Below.only (Ex.trans (Ex.trans (Ex.trans (Below.only (Ex.trans (Ex.trans (Below.only (Ex.trans (Ex.trans (Ex.trans (Ex.trans (Below.only (Below.only (Ex.trans (Ex.trans (Ex.trans (Ex.refl w) hE13) hE22) hE28) hO32 (by omega)) hO36 (by omega)) hE55) hE66) hE76) hE82) hO85 (by omega)) hE106) hE112) hO115 (by omega)) hE142) hE1556) hE1562) hO1565 (by omega)) hE1580) hE1664) hE1673
                    exact ⟨rfl, (Ex.trans (Ex.trans (Ex.trans (Below.only (Ex.trans (Ex.trans (Below.only (Ex.trans (Ex.trans (Below.only (Ex.trans (Ex.trans (Below.only (Below.only (Ex.trans q2027 hE1679) hO1683 (by omega)) hO1687 (by omega)) hE1703) hE1710) hO1713 (by omega)) hE1732) hE1739) hO1742 (by omega)) hE1761) hE1770) hO1773 (by omega)) hE1784) hE1794) hE1830)⟩
                  ·refine sz rfl rfl (not_f hb1833) (sz rfl rfl (not_f hb1833) (sz rfl rfl (not_f hb1833) (sd rfl (yl_pick_t rfl rfl (not_f hb1833) rfl (dn (CW.cond_t rfl rfl (CW.seq (CW.region ?_))))))))
                   refine sd rfl (yl_assign rfl rfl (dn (CW.ret (tr (rr rfl (.cons rfl .nil) ?_)))))
                   have hM2043 : (l_FnRows p_0 p_1) = (false) := by first | (simp only [l_FnRows, hb3, hb116, hb117, hb118, hb122, hb143, hb144, hb1548, hb1581, hb1582, hb1589, hb1609, hb1636, hb1639, hb1795, hb1831, hb1832, hb1833, cL]; done) | (simp only [l_FnRows, hb116, hb118, hb143, cL] <;> simp only [hb3, hb117, hb122, hb144, hb1548, hb1581, hb1582, hb1589, hb1609, hb1636, hb1639, hb1795, hb1831, hb1832, hb1833, cL])
                   rw [hM2043]
                   have q2063 := Ex.trans (Ex.trans (Ex.trans (Below.only (Ex.trans (Ex.trans (Ex.trans (Below.only (Ex.trans (Ex.trans (Below.only (Ex.trans (Ex.trans (Ex.trans (Ex.trans (Below.only (Below.only (Ex.trans (Ex.trans (Ex.trans (Ex.refl w) hE13) hE22) hE28) hO32 (by omega)) hO36 (by omega)) hE55) hE66) hE76) hE82) hO85 (by omega)) hE106) hE112) hO115 (by omega)) hE142) hE1556) hE1562) hO1565 (by omega)) hE1580) hE1664) hE1673
                   exact ⟨rfl, (Ex.trans (Ex.trans (Ex.trans (Below.only (Ex.trans (Ex.trans (Below.only (Ex.trans (Ex.trans (Below.only (Ex.trans (Ex.trans (Below.only (Below.only (Ex.trans q2063 hE1679) hO1683 (by omega)) hO1687 (by omega)) hE1703) hE1710) hO1713 (by omega)) hE1732) hE1739) hO1742 (by omega)) hE1761) hE1770) hO1773 (by omega)) hE1784) hE1794) hE1830)⟩
                 ·refine sz rfl rfl (not_f hb1832) (sz rfl rfl (not_f hb1832) (sz rfl rfl (not_f hb1832) (sd rfl (yl_pick_t rfl rfl (not_f hb1832) rfl (sd rfl (yl_move rfl rfl (sz rfl rfl rfl (sz rfl rfl rfl (sz rfl rfl rfl (sd rfl (yl_pick_t rfl rfl rfl rfl ?_)))))))))))
                  refine dn (CW.cond_t rfl rfl (CW.seq (CW.region (sd rfl (yl_assign rfl rfl (dn (CW.ret ?_)))))))
                  refine tr (rr rfl (.cons rfl .nil) ?_)
                  have hM2079 : (l_FnRows p_0 p_1) = (false) := by first | (simp only [l_FnRows, hb3, hb116, hb117, hb118, hb122, hb143, hb144, hb1548, hb1581, hb1582, hb1589, hb1609, hb1636, hb1639, hb1795, hb1831, hb1832, cL]; done) | (simp only [l_FnRows, hb116, hb118, hb143, cL] <;> simp only [hb3, hb117, hb122, hb144, hb1548, hb1581, hb1582, hb1589, hb1609, hb1636, hb1639, hb1795, hb1831, hb1832, cL])
                  rw [hM2079]
                  have q2099 := Ex.trans (Ex.trans (Ex.trans (Below.only (Ex.trans (Ex.trans (Ex.trans (Below.only (Ex.trans (Ex.trans (Below.only (Ex.trans (Ex.trans (Ex.trans (Ex.trans (Below.only (Below.only (Ex.trans (Ex.trans (Ex.trans (Ex.refl w) hE13) hE22) hE28) hO32 (by omega)) hO36 (by omega)) hE55) hE66) hE76) hE82) hO85 (by omega)) hE106) hE112) hO115 (by omega)) hE142) hE1556) hE1562) hO1565 (by omega)) hE1580) hE1664) hE1673
                  exact ⟨rfl, (Ex.trans (Ex.trans (Ex.trans (Below.only (Ex.trans (Ex.trans (Below.only (Ex.trans (Ex.trans (Below.only (Ex.trans (Ex.trans (Below.only (Below.only (Ex.trans q2099 hE1679) hO1683 (by omega)) hO1687 (by omega)) hE1703) hE1710) hO1713 (by omega)) hE1732) hE1739) hO1742 (by omega)) hE1761) hE1770) hO1773 (by omega)) hE1784) hE1794) hE1830)⟩
                ·refine sz rfl rfl (not_f hb1831) (sz rfl rfl (not_f hb1831) (sz rfl rfl (not_f hb1831) (sd rfl (yl_pick_t rfl rfl (not_f hb1831) rfl (sd rfl (yl_move rfl rfl (sz rfl rfl rfl (sz rfl rfl rfl (sz rfl rfl rfl (sd rfl (yl_pick_t rfl rfl rfl rfl ?_)))))))))))
                 refine sd rfl (yl_move rfl rfl (sz rfl rfl rfl (sz rfl rfl rfl (sz rfl rfl rfl (sd rfl (yl_pick_t rfl rfl rfl rfl (dn (CW.cond_t rfl rfl (CW.seq ?_)))))))))
                 refine CW.region (sd rfl (yl_assign rfl rfl (dn (CW.ret (tr (rr rfl (.cons rfl .nil) ?_))))))
                 have hM2115 : (l_FnRows p_0 p_1) = (false) := by first | (simp only [l_FnRows, hb3, hb116, hb117, hb118, hb122, hb143, hb144, hb1548, hb1581, hb1582, hb1589, hb1609, hb1636, hb1639, hb1795, hb1831, cL]; done) | (simp only [l_FnRows, hb116, hb118, hb143, cL] <;> simp only [hb3, hb117, hb122, hb144, hb1548, hb1581, hb1582, hb1589, hb1609, hb1636, hb1639, hb1795, hb1831, cL])
                 rw [hM2115]
                 have q2135 := Ex.trans (Ex.trans (Ex.trans (Below.only (Ex.trans (Ex.trans (Ex.trans (Below.only (Ex.trans (Ex.trans (Below.only (Ex.trans (Ex.trans (Ex.trans (Ex.trans (Below.only (Below.only (Ex.trans (Ex.trans (Ex.trans (Ex.refl w) hE13) hE22) hE28) hO32 (by omega)) hO36 (by omega)) hE55) hE66) hE76) hE82) hO85 (by omega)) hE106) hE112) hO115 (by omega)) hE142) hE1556) hE1562) hO1565 (by omega)) hE1580) hE1664) hE1673
                 exact ⟨rfl, (Ex.trans (Ex.trans (Ex.trans (Below.only (Ex.trans (Ex.trans (Below.only (Ex.trans (Ex.trans (Below.only (Ex.trans (Ex.trans (Below.only (Below.only (Ex.trans q2135 hE1679) hO1683 (by omega)) hO1687 (by omega)) hE1703) hE1710) hO1713 (by omega)) hE1732) hE1739) hO1742 (by omega)) hE1761) hE1770) hO1773 (by omega)) hE1784) hE1794) hE1830)⟩
               ·refine sz rfl rfl (not_f hb1795) (sz rfl rfl (not_f hb1795) (sz rfl rfl (not_f hb1795) (sz rfl rfl (not_f hb1795) (sz rfl rfl (not_f hb1795) (sz rfl rfl (not_f hb1795) (sd rfl (yl_pick_t rfl rfl (not_f hb1795) rfl (sd rfl (yl_move rfl rfl (sz rfl rfl rfl ?_))))))))))
                refine sz rfl rfl rfl (sz rfl rfl rfl (sd rfl (yl_pick_t rfl rfl rfl rfl (sd rfl (yl_move rfl rfl (sz rfl rfl rfl (sz rfl rfl rfl (sz rfl rfl rfl (sd rfl (yl_pick_t rfl rfl rfl rfl (sd rfl (yl_move rfl rfl ?_))))))))))))
                refine sz rfl rfl rfl (sz rfl rfl rfl (sz rfl rfl rfl (sd rfl (yl_pick_t rfl rfl rfl rfl (dn (CW.cond_t rfl rfl (CW.seq (CW.region ?_))))))))
                refine sd rfl (yl_assign rfl rfl (dn (CW.ret (tr (rr rfl (.cons rfl .nil) ?_)))))
                have hM2151 : (l_FnRows p_0 p_1) = (false) := by first | (simp only [l_FnRows, hb3, hb116, hb117, hb118, hb122, hb143, hb144, hb1548, hb1581, hb1582, hb1589, hb1609, hb1636, hb1639, hb1795, cL]; done) | (simp only [l_FnRows, hb116, hb118, hb143, cL] <;> simp only [hb3, hb117, hb122, hb144, hb1548, hb1581, hb1582, hb1589, hb1609, hb1636, hb1639, hb1795, cL])
                rw [hM2151]
                have q2171 := Ex.trans (Ex.trans (Ex.trans (Below.only (Ex.trans (Ex.trans (Ex.trans (Below.only (Ex.trans (Ex.trans (Below.only (Ex.trans (Ex.trans (Ex.trans (Ex.trans (Below.only (Below.only (Ex.trans (Ex.trans (Ex.trans (Ex.refl w) hE13) hE22) hE28) hO32 (by omega)) hO36 (by omega)) hE55) hE66) hE76) hE82) hO85 (by omega)) hE106) hE112) hO115 (by omega)) hE142) hE1556) hE1562) hO1565 (by omega)) hE1580) hE1664) hE1673
                exact ⟨rfl, (Ex.trans (Ex.trans (Below.only (Ex.trans (Ex.trans (Below.only (Ex.trans (Ex.trans (Below.only (Ex.trans (Ex.trans (Below.only (Below.only (Ex.trans q2171 hE1679) hO1683 (by omega)) hO1687 (by omega)) hE1703) hE1710) hO1713 (by omega)) hE1732) hE1739) hO1742 (by omega)) hE1761) hE1770) hO1773 (by omega)) hE1784) hE1794)⟩
              ·refine CW.cond_t rfl (not_f hb1639) (CW.seq (CW.region (sd rfl (yl_assign rfl rfl (dn (CW.ret (tr (rr rfl (.cons rfl .nil) ?_))))))))
               have hM2186 : (l_FnRows p_0 p_1) = (false) := by first | (simp only [l_FnRows, hb3, hb116, hb117, hb118, hb122, hb143, hb144, hb1548, hb1581, hb1582, hb1589, hb1609, hb1636, hb1639, cL]; done) | (simp only [l_FnRows, hb116, hb118, hb143, cL] <;> simp only [hb3, hb117, hb122, hb144, hb1548, hb1581, hb1582, hb1589, hb1609, hb1636, hb1639, cL])
               rw [hM2186]
               exact ⟨rfl, (Ex.trans (Below.only (Ex.trans (Ex.trans (Ex.trans (Below.only (Ex.trans (Ex.trans (Below.only (Ex.trans (Ex.trans (Ex.trans (Ex.trans (Below.only (Below.only (Ex.trans (Ex.trans (Ex.trans (Ex.refl w) hE13) hE22) hE28) hO32 (by omega)) hO36 (by omega)) hE55) hE66) hE76) hE82) hO85 (by omega)) hE106) hE112) hO115 (by omega)) hE142) hE1556) hE1562) hO1565 (by omega)) hE1580)⟩
             ·refine sz rfl rfl (not_f hb1636) (sz rfl rfl (not_f hb1636) (sz rfl rfl (not_f hb1636) (sz rfl rfl (not_f hb1636) (sz rfl rfl (not_f hb1636) (sz rfl rfl (not_f hb1636) (sd rfl (yl_pick_t rfl rfl (not_f hb1636) rfl (dn ?_))))))))
              refine CW.cond_t rfl rfl (CW.seq (CW.region (sd rfl (yl_assign rfl rfl (dn (CW.ret (tr (rr rfl (.cons rfl .nil) ?_))))))))
              have hM2205 : (l_FnRows p_0 p_1) = (false) := by first | (simp only [l_FnRows, hb3, hb116, hb117, hb118, hb122, hb143, hb144, hb1548, hb1581, hb1582, hb1589, hb1609, hb1636, cL]; done) | (simp only [l_FnRows, hb116, hb118, hb143, cL] <;> simp only [hb3, hb117, hb122, hb144, hb1548, hb1581, hb1582, hb1589, hb1609, hb1636, cL])
              rw [hM2205]
              exact ⟨rfl, (Ex.trans (Below.only (Ex.trans (Ex.trans (Ex.trans (Below.only (Ex.trans (Ex.trans (Below.only (Ex.trans (Ex.trans (Ex.trans (Ex.trans (Below.only (Below.only (Ex.trans (Ex.trans (Ex.trans (Ex.refl w) hE13) hE22) hE28) hO32 (by omega)) hO36 (by omega)) hE55) hE66) hE76) hE82) hO85 (by omega)) hE106) hE112) hO115 (by omega)) hE142) hE1556) hE1562) hO1565 (by omega)) hE1580)⟩
          ·refine sz rfl rfl (not_f hb1582) (sz rfl rfl (not_f hb1582) (sz rfl rfl (not_f hb1582) (sz rfl rfl (not_f hb1582) (sz rfl rfl (not_f hb1582) (sz rfl rfl (not_f hb1582) (sd rfl (yl_pick_t rfl rfl (not_f hb1582) rfl (sd rfl (yl_move rfl rfl (sz rfl rfl rfl ?_))))))))))
           refine sz rfl rfl rfl (sz rfl rfl rfl (sd rfl (yl_pick_t rfl rfl rfl rfl (sd rfl (yl_move rfl rfl (sz rfl rfl rfl (sz rfl rfl rfl (sz rfl rfl rfl (sz rfl rfl rfl (sz rfl rfl rfl ?_))))))))))
           refine sz rfl rfl rfl (sz rfl rfl rfl (sz rfl rfl rfl (sd rfl (yl_pick_t rfl rfl rfl rfl (sd rfl (yl_move rfl rfl (sz rfl rfl rfl (sz rfl rfl rfl (sz rfl rfl rfl (sz rfl rfl rfl ?_))))))))))
           refine sz rfl rfl rfl (sz rfl rfl rfl (sd rfl (yl_pick_t rfl rfl rfl rfl (dn (CW.cond_t rfl rfl (CW.seq (CW.region (sd rfl (yl_assign rfl rfl ?_)))))))))
           refine dn (CW.ret (tr (rr rfl (.cons rfl .nil) ?_)))
           have hM2224 : (l_FnRows p_0 p_1) = (false) := by first | (simp only [l_FnRows, hb3, hb116, hb117, hb118, hb122, hb143, hb144, hb1548, hb1581, hb1582, cL]; done) | (simp only [l_FnRows, hb116, hb118, hb143, cL] <;> simp only [hb3, hb117, hb122, hb144, hb1548, hb1581, hb1582, cL])
           rw [hM2224]
           exact ⟨rfl, (Ex.trans (Below.only (Ex.trans (Ex.trans (Ex.trans (Below.only (Ex.trans (Ex.trans (Below.only (Ex.trans (Ex.trans (Ex.trans (Ex.trans (Below.only (Below.only (Ex.trans (Ex.trans (Ex.trans (Ex.refl w) hE13) hE22) hE28) hO32 (by omega)) hO36 (by omega)) hE55) hE66) hE76) hE82) hO85 (by omega)) hE106) hE112) hO115 (by omega)) hE142) hE1556) hE1562) hO1565 (by omega)) hE1580)⟩
         ·refine sz rfl rfl (not_f hb1581) (sz rfl rfl (not_f hb1581) (sd rfl (yl_pick_t rfl rfl (not_f hb1581) rfl (sd rfl (yl_move rfl rfl (sz rfl rfl rfl (sz rfl rfl rfl (sz rfl rfl rfl (sz rfl rfl rfl (sz rfl rfl rfl ?_))))))))))
          refine sz rfl rfl rfl (sd rfl (yl_pick_t rfl rfl rfl rfl (sd rfl (yl_move rfl rfl (sz rfl rfl rfl (sz rfl rfl rfl (sz rfl rfl rfl (sd rfl (yl_pick_t rfl rfl rfl rfl (sd rfl (yl_move rfl rfl (sz rfl rfl rfl ?_))))))))))))
          refine sz rfl rfl rfl (sz rfl rfl rfl (sz rfl rfl rfl (sz rfl rfl rfl (sz rfl rfl rfl (sz rfl rfl rfl (sz rfl rfl rfl (sd rfl (yl_pick_t rfl rfl rfl rfl (sd rfl (yl_move rfl rfl ?_))))))))))
          refine sz rfl rfl rfl (sz rfl rfl rfl (sz rfl rfl rfl (sz rfl rfl rfl (sz rfl rfl rfl (sz rfl rfl rfl (sd rfl (yl_pick_t rfl rfl rfl rfl (dn ?_))))))))
          refine CW.cond_t rfl rfl (CW.seq (CW.region (sd rfl (yl_assign rfl rfl (dn (CW.ret (tr (rr rfl (.cons rfl .nil) ?_))))))))
          have hM2243 : (l_FnRows p_0 p_1) = (false) := by first | (simp only [l_FnRows, hb3, hb116, hb117, hb118, hb122, hb143, hb144, hb1548, hb1581, cL]; done) | (simp only [l_FnRows, hb116, hb118, hb143, cL] <;> simp only [hb3, hb117, hb122, hb144, hb1548, hb1581, cL])
          rw [hM2243]
          exact ⟨rfl, (Ex.trans (Below.only (Ex.trans (Ex.trans (Ex.trans (Below.only (Ex.trans (Ex.trans (Below.only (Ex.trans (Ex.trans (Ex.trans (Ex.trans (Below.only (Below.only (Ex.trans (Ex.trans (Ex.trans (Ex.refl w) hE13) hE22) hE28) hO32 (by omega)) hO36 (by omega)) hE55) hE66) hE76) hE82) hO85 (by omega)) hE106) hE112) hO115 (by omega)) hE142) hE1556) hE1562) hO1565 (by omega)) hE1580)⟩
        ·refine CW.cond_f rfl hb1548 (CW.skip (tn (CW.seq (CW.region (sd rfl (yl_move rfl rfl ?_))))))
         have q2274 := RdS.only good_U8 (RdS.ex good_U8 (RdS.ex good_U8 (RdS.only good_U8 (RdS.ex good_U8 (RdS.ex good_U8 (RdS.ex good_U8 (RdS.ex good_U8 (RdS.only good_U8 (RdS.only good_U8 (RdS.ex good_U8 (RdS.ex good_U8 (RdS.ex good_U8 h2 hE13) hE22) hE28) hO32 (by simp only [Iv]; omega)) hO36 (by simp only [Iv]; omega)) hE55) hE66) hE76) hE82) hO85 (by simp only [Iv]; omega)) hE106) hE112) hO115 (by simp only [Iv]; omega)
         have q2275 := RdS.ex good_U8 q2274 hE142
         refine sd rfl (yl_call en14 rfl (oc rfl oz) (Cal.mono (c_s_DrawReadRow p_1 (RdS.up q2275 good_U8) (okL.mk (xs := p_1) (by first | omega | (simp only [List.length_append, List.length_cons, List.length_nil, List.length_take, List.length_drop, List.length_replicate, List.length_set]; omega)) fun _ _ => trivial) (by assumption)) ?_))
         rintro v2281 w2276 ⟨A2277, c2277, lo2277, hi2277, A2278, c2278, lo2278, hi2278, rfl, h2277, h2278, ho2279, ho2280, hrn2283, hrn2284, hrn2285, hE2282⟩
         have hE2282z := Ex.size hE2282
         refine sd rfl (yl_move rfl rfl (sd rfl (yl_extract rfl rfl rfl (sd rfl (yl_extract rfl rfl rfl (sd rfl (yl_alloc ty26 (cs := [.string (bs (([] : Str))), .slice none 0 0, .slice none 0 0]) rfl rfl ?_)))))))
         intro b2286 w2287 hs2288 hz2289 hB2290 hE2291
         refine sd rfl (yl_alloc ty34 (cs := [.string (bs (([] : Str))), .string (bs (([] : Str))), .bool (false)]) rfl rfl ?_)
         intro b2292 w2293 hs2294 hz2295 hB2296 hE2297
         refine SeqR.u rfl rfl (yl_store (vs := [.string (bs ((s_DrawReadRow p_1).1.Name)), .slice A2277 (((s_DrawReadRow p_1).1.Cols).length) c2277, .slice A2278 (((s_DrawReadRow p_1).1.Idxs).length) c2278]) ty26 rfl rfl rfl rfl rfl rfl (Box.ex hB2290 hE2297) (Nat.le_of_ble_eq_true rfl) ?_)
         intro w2299 hB2300 hO2301
         have hB2300 : Box w2299 b2286 26 [.string (bs ((s_DrawReadRow p_1).1.Name)), .slice A2277 (((s_DrawReadRow p_1).1.Cols).length) c2277, .slice A2278 (((s_DrawReadRow p_1).1.Idxs).length) c2278] := hB2300
         have hO2301z := hO2301.size
         refine SeqR.u rfl rfl (yl_store (vs := [.string (bs ((s_DrawReadRow p_1).2.Key)), .string (bs ((s_DrawReadRow p_1).2.Val)), .bool ((s_DrawReadRow p_1).2.Gone)]) ty34 rfl rfl rfl rfl rfl rfl (Box.only hB2296 hO2301 (by omega)) (Nat.le_of_ble_eq_true rfl) ?_)
         intro w2303 hB2304 hO2305
         have hB2304 : Box w2303 b2292 34 [.string (bs ((s_DrawReadRow p_1).2.Key)), .string (bs ((s_DrawReadRow p_1).2.Val)), .bool ((s_DrawReadRow p_1).2.Gone)] := hB2304
         have hO2305z := hO2305.size
         refine dn (CW.seq (CW.region ?_))
         have q2306 := Box.only hB2300 hO2305 (by omega)
         refine sd rfl (yl_loadN ty26 rfl rfl (q2306.cells (n := 3) rfl) rfl (sd rfl (yl_loadN ty34 rfl rfl (hB2304.cells (n := 3) rfl) rfl ?_)))
         have q2311 := OwnL.only good_Str (OwnL.only good_Str (OwnL.ex good_Str (OwnL.ex good_Str h2277 hE2291) hE2297) hO2301 (by omega)) hO2305 (by omega)
         have q2316 := OwnL.only good_Idx (OwnL.only good_Idx (OwnL.ex good_Idx (OwnL.ex good_Idx h2278 hE2291) hE2297) hO2301 (by omega)) hO2305 (by omega)
         refine sd rfl (yl_call en10 rfl (oc rfl (oc rfl oz)) (Cal.mono (c_i_ReadRow ((s_DrawReadRow p_1).1) ((s_DrawReadRow p_1).2) (RdS.up (OwnL.rd good_Str q2311) good_Str) (RdS.up (OwnL.rd good_Idx q2316) good_Idx) ho2279 ho2280) ?_))
         rintro v2320 w2317 ⟨A2318, c2318, lo2318, hi2318, rfl, h2318, ho2319, hrn2322, hE2321⟩
         have hE2321z := Ex.size hE2321
         refine sd rfl (yl_move rfl rfl (sd rfl (yl_extract rfl rfl rfl (sd rfl (yl_extract rfl rfl rfl (sd rfl (yl_alloc ty28 (cs := [.slice none 0 0]) rfl rfl ?_)))))))
         intro b2323 w2324 hs2325 hz2326 hB2327 hE2328
         refine SeqR.u rfl rfl (yl_store (vs := [.slice A2318 (((i_ReadRow ((s_DrawReadRow p_1).1) ((s_DrawReadRow p_1).2)).1.Vals).length) c2318]) ty28 rfl rfl rfl rfl rfl rfl hB2327 (Nat.le_of_ble_eq_true rfl) ?_)
         intro w2329 hB2330 hO2331
         have hB2330 : Box w2329 b2323 28 [.slice A2318 (((i_ReadRow ((s_DrawReadRow p_1).1) ((s_DrawReadRow p_1).2)).1.Vals).length) c2318] := hB2330
         have hO2331z := hO2331.size
         refine sd rfl (yl_assign rfl rfl (dn (CW.seq (CW.region ?_))))
         have q2334 := Box.only (Box.ex (Box.ex q2306 hE2321) hE2328) hO2331 (by omega)
         refine sd rfl (yl_loadN ty26 rfl rfl (q2334.cells (n := 3) rfl) rfl ?_)
         have q2337 := Box.only (Box.ex (Box.ex hB2304 hE2321) hE2328) hO2331 (by omega)
         refine sd rfl (yl_loadN ty34 rfl rfl (q2337.cells (n := 3) rfl) rfl ?_)
         have q2341 := OwnL.only good_Str (OwnL.ex good_Str (OwnL.ex good_Str q2311 hE2321) hE2328) hO2331 (by omega)
         have q2345 := OwnL.only good_Idx (OwnL.ex good_Idx (OwnL.ex good_Idx q2316 hE2321) hE2328) hO2331 (by omega)
         refine sd rfl (yl_call en15 rfl (oc rfl (oc rfl oz)) (Cal.mono (c_s_ReadRow ((s_DrawReadRow p_1).1) ((s_DrawReadRow p_1).2) (RdS.up (OwnL.rd good_Str q2341) good_Str) (RdS.up (OwnL.rd good_Idx q2345) good_Idx) ho2279 ho2280) ?_))
         rintro v2349 w2346 ⟨A2347, c2347, lo2347, hi2347, rfl, h2347, ho2348, hrn2351, hE2350⟩
         have hE2350z := Ex.size hE2350
         refine sd rfl (yl_move rfl rfl (sd rfl (yl_extract rfl rfl rfl (sd rfl (yl_extract rfl rfl rfl (sd rfl (yl_alloc ty28 (cs := [.slice none 0 0]) rfl rfl ?_)))))))
         intro b2352 w2353 hs2354 hz2355 hB2356 hE2357
         refine SeqR.u rfl rfl (yl_store (vs := [.slice A2347 (((s_ReadRow ((s_DrawReadRow p_1).1) ((s_DrawReadRow p_1).2)).1.Vals).length) c2347]) ty28 rfl rfl rfl rfl rfl rfl hB2356 (Nat.le_of_ble_eq_true rfl) ?_)
         intro w2358 hB2359 hO2360
         have hB2359 : Box w2358 b2352 28 [.slice A2347 (((s_ReadRow ((s_DrawReadRow p_1).1) ((s_DrawReadRow p_1).2)).1.Vals).length) c2347] := hB2359
         have hO2360z := hO2360.size
         refine sd rfl (yl_assign rfl rfl (dn (CW.seq (CW.region (sd rfl (yl_move rfl rfl (sd rfl (yl_call en16 rfl (oc rfl oz) (Cal.mono (c_s_DrawReadIdxKey p_1 (RdS.up (RdS.only good_U8 (RdS.ex good_U8 (RdS.ex good_U8 (RdS.only good_U8 (RdS.ex good_U8 (RdS.ex good_U8 (RdS.only good_U8 (RdS.only good_U8 (RdS.ex good_U8 (RdS.ex good_U8 (RdS.ex good_U8 q2275 hE2282) hE2291) hE2297) hO2301 (by simp only [Iv]; omega)) hO2305 (by simp only [Iv]; omega)) hE2321) hE2328) hO2331 (by simp only [Iv]; omega)) hE2350) hE2357) hO2360 (by simp only [Iv]; omega)) good_U8) (okL.mk (xs := p_1) (by first | omega | (simp only [List.length_append, List.length_cons, List.length_nil, List.length_take, List.length_drop, List.length_replicate, List.length_set]; omega)) fun _ _ => trivial) (by assumption)) ?_)))))))))
         rintro v2378 w2372 ⟨A2373, c2373, lo2373, hi2373, A2374, c2374, lo2374, hi2374, rfl, h2373, h2374, ho2375, ho2376, ho2377, hrn2380, hrn2381, hrn2382, hE2379⟩
         have hE2379z := Ex.size hE2379
         refine sd rfl (yl_move rfl rfl (sd rfl (yl_extract rfl rfl rfl (sd rfl (yl_extract rfl rfl rfl (sd rfl (yl_extract rfl rfl rfl (sd rfl (yl_alloc ty26 (cs := [.string (bs (([] : Str))), .slice none 0 0, .slice none 0 0]) rfl rfl ?_)))))))))
         intro b2383 w2384 hs2385 hz2386 hB2387 hE2388
         refine SeqR.u rfl rfl (yl_store (vs := [.string (bs ((s_DrawReadIdxKey p_1).1.Name)), .slice A2373 (((s_DrawReadIdxKey p_1).1.Cols).length) c2373, .slice A2374 (((s_DrawReadIdxKey p_1).1.Idxs).length) c2374]) ty26 rfl rfl rfl rfl rfl rfl hB2387 (Nat.le_of_ble_eq_true rfl) ?_)
         intro w2389 hB2390 hO2391
         have hB2390 : Box w2389 b2383 26 [.string (bs ((s_DrawReadIdxKey p_1).1.Name)), .slice A2373 (((s_DrawReadIdxKey p_1).1.Cols).length) c2373, .slice A2374 (((s_DrawReadIdxKey p_1).1.Idxs).length) c2374] := hB2390
         have hO2391z := hO2391.size
         refine sd rfl (yl_assign rfl rfl (sd rfl (yl_assign rfl rfl (dn (CW.seq (CW.region (sd rfl (yl_loadN ty26 rfl rfl (hB2390.cells (n := 3) rfl) rfl (sd rfl (yl_move rfl rfl (sd rfl (yl_move rfl rfl ?_))))))))))))
         have q2394 := OwnL.only good_Str (OwnL.ex good_Str h2373 hE2388) hO2391 (by omega)
         have q2397 := OwnL.only good_Idx (OwnL.ex good_Idx h2374 hE2388) hO2391 (by omega)
         refine sd rfl (yl_call en13 rfl (oc rfl (oc rfl (oc rfl oz))) (Cal.mono (c_i_ReadIdxKey ((s_DrawReadIdxKey p_1).1) ((s_DrawReadIdxKey p_1).2.1) ((s_DrawReadIdxKey p_1).2.2) (RdS.up (OwnL.rd good_Str q2394) good_Str) (RdS.up (OwnL.rd good_Idx q2397) good_Idx) ho2375 ho2376 ho2377) ?_))
         rintro v2401 w2398 ⟨rfl, ho2399, ho2400, hE2402⟩
         have hE2402z := Ex.size hE2402
         refine sd rfl (yl_move rfl rfl (sd rfl (yl_extract rfl rfl rfl (sd rfl (yl_extract rfl rfl rfl (sd rfl (yl_extract rfl rfl rfl (sd rfl (yl_assign rfl rfl (sd rfl (yl_assign rfl rfl (sd rfl (yl_assign rfl rfl (dn ?_))))))))))))))
         refine CW.seq (CW.region (sd rfl (yl_loadN ty26 rfl rfl ((Box.ex hB2390 hE2402).cells (n := 3) rfl) rfl (sd rfl (yl_move rfl rfl (sd rfl (yl_move rfl rfl (sd rfl (yl_call en17 rfl (oc rfl (oc rfl (oc rfl oz))) (Cal.mono (c_s_ReadIdxKey ((s_DrawReadIdxKey p_1).1) ((s_DrawReadIdxKey p_1).2.1) ((s_DrawReadIdxKey p_1).2.2) (RdS.up (OwnL.rd good_Str (OwnL.ex good_Str q2394 hE2402)) good_Str) (RdS.up (OwnL.rd good_Idx (OwnL.ex good_Idx q2397 hE2402)) good_Idx) ho2375 ho2376 ho2377) ?_))))))))))
         rintro v2411 w2408 ⟨rfl, ho2409, ho2410, hE2412⟩
         have hE2412z := Ex.size hE2412
         refine sd rfl (yl_move rfl rfl (sd rfl (yl_extract rfl rfl rfl (sd rfl (yl_extract rfl rfl rfl (sd rfl (yl_extract rfl rfl rfl (sd rfl (yl_assign rfl rfl (sd rfl (yl_assign rfl rfl (sd rfl (yl_assign rfl rfl (dn ?_))))))))))))))
         refine CW.seq (CW.seq (CW.region (sd rfl (yl_move rfl rfl (sd rfl (yl_move rfl rfl (sd rfl (yl_bneq un4 rfl rfl rfl (sd rfl (yl_move rfl rfl (bcase (((i_ReadRow ((s_DrawReadRow p_1).1) ((s_DrawReadRow p_1).2)).2) == ((s_ReadRow ((s_DrawReadRow p_1).1) ((s_DrawReadRow p_1).2)).2)) (fun hb2413 => ?_) (fun hb2413 => ?_))))))))))))
         ·refine sy rfl rfl (not_t hb2413) (yl_fieldAddr fd28_0 rfl rfl ?_)
          have q2421 := Box.ex (Box.ex (Box.only (Box.ex (Box.ex (Box.only (Box.ex (Box.ex hB2330 hE2350) hE2357) hO2360 (by omega)) hE2379) hE2388) hO2391 (by omega)) hE2402) hE2412
          refine sy rfl rfl (not_t hb2413) (yl_load1 ty23 rfl rfl ((q2421.cell 0).trans rfl) (sy rfl rfl (not_t hb2413) (yl_fieldAddr fd28_0 rfl rfl (sy rfl rfl (not_t hb2413) (yl_load1 ty23 rfl rfl (((Box.ex (Box.ex (Box.only (Box.ex (Box.ex hB2359 hE2379) hE2388) hO2391 (by omega)) hE2402) hE2412).cell 0).trans rfl) ?_)))))
          have q2437 := OwnL.ex good_Str (OwnL.ex good_Str (OwnL.only good_Str (OwnL.ex good_Str (OwnL.ex good_Str (OwnL.only good_Str (OwnL.ex good_Str (OwnL.ex good_Str (OwnL.only good_Str (OwnL.ex good_Str h2318 hE2328) hO2331 (by omega)) hE2350) hE2357) hO2360 (by omega)) hE2379) hE2388) hO2391 (by omega)) hE2402) hE2412
          refine sy rfl rfl (not_t hb2413) (yl_call en11 rfl (oc rfl (oc rfl oz)) (Cal.mono (c_l_qSameS ((i_ReadRow ((s_DrawReadRow p_1).1) ((s_DrawReadRow p_1).2)).1.Vals) ((s_ReadRow ((s_DrawReadRow p_1).1) ((s_DrawReadRow p_1).2)).1.Vals) (RdS.up (OwnL.rd good_Str q2437) good_Str) (RdS.up (OwnL.rd good_Str (OwnL.ex good_Str (OwnL.ex good_Str (OwnL.only good_Str (OwnL.ex good_Str (OwnL.ex good_Str (OwnL.only good_Str (OwnL.ex good_Str h2347 hE2357) hO2360 (by omega)) hE2379) hE2388) hO2391 (by omega)) hE2402) hE2412)) good_Str) ho2319 ho2348) ?_))
          rintro v2447 w2446 ⟨rfl, hE2448⟩
          have hE2448z := Ex.size hE2448
          refine sy rfl rfl (not_t hb2413) (yl_not rfl rfl (sd rfl (yl_pick_f rfl rfl (not_t hb2413) rfl (sd rfl (yl_move rfl rfl (bcase (l_qSameS ((i_ReadRow ((s_DrawReadRow p_1).1) ((s_DrawReadRow p_1).2)).1.Vals) ((s_ReadRow ((s_DrawReadRow p_1).1) ((s_DrawReadRow p_1).2)).1.Vals)) (fun hb2449 => ?_) (fun hb2449 => ?_)))))))
          ·refine sy rfl rfl (not_t hb2449) (yl_move rfl rfl (sy rfl rfl (not_t hb2449) (yl_move rfl rfl (sy rfl rfl (not_t hb2449) (yl_bneq un4 rfl rfl rfl (sd rfl (yl_pick_f rfl rfl (not_t hb2449) rfl (sd rfl (yl_move rfl rfl (bcase (((i_ReadIdxKey ((s_DrawReadIdxKey p_1).1) ((s_DrawReadIdxKey p_1).2.1) ((s_DrawReadIdxKey p_1).2.2)).2.2) == ((s_ReadIdxKey ((s_DrawReadIdxKey p_1).1) ((s_DrawReadIdxKey p_1).2.1) ((s_DrawReadIdxKey p_1).2.2)).2.2)) (fun hb2450 => ?_) (fun hb2450 => ?_)))))))))))
           ·refine sy rfl rfl (not_t hb2450) (yl_move rfl rfl (sy rfl rfl (not_t hb2450) (yl_move rfl rfl (sy rfl rfl (not_t hb2450) (yl_sneq (a := ((i_ReadIdxKey ((s_DrawReadIdxKey p_1).1) ((s_DrawReadIdxKey p_1).2.1) ((s_DrawReadIdxKey p_1).2.2)).1)) (b := ((s_ReadIdxKey ((s_DrawReadIdxKey p_1).1) ((s_DrawReadIdxKey p_1).2.1) ((s_DrawReadIdxKey p_1).2.2)).1)) rfl rfl rfl (sd rfl (yl_pick_f rfl rfl (not_t hb2450) rfl (sd rfl (yl_move rfl rfl (bcase (((i_ReadIdxKey ((s_DrawReadIdxKey p_1).1) ((s_DrawReadIdxKey p_1).2.1) ((s_DrawReadIdxKey p_1).2.2)).1) == ((s_ReadIdxKey ((s_DrawReadIdxKey p_1).1) ((s_DrawReadIdxKey p_1).2.1) ((s_DrawReadIdxKey p_1).2.2)).1)) (fun hb2451 => ?_) (fun hb2451 => ?_)))))))))))
            ·refine sy rfl rfl (not_t hb2451) (yl_move rfl rfl (sy rfl rfl (not_t hb2451) (yl_move rfl rfl (sy rfl rfl (not_t hb2451) (yl_sneq (a := ((i_ReadIdxKey ((s_DrawReadIdxKey p_1).1) ((s_DrawReadIdxKey p_1).2.1) ((s_DrawReadIdxKey p_1).2.2)).2.1)) (b := ((s_ReadIdxKey ((s_DrawReadIdxKey p_1).1) ((s_DrawReadIdxKey p_1).2.1) ((s_DrawReadIdxKey p_1).2.2)).2.1)) rfl rfl rfl (sd rfl (yl_pick_f rfl rfl (not_t hb2451) rfl (dn (bcase (((i_ReadIdxKey ((s_DrawReadIdxKey p_1).1) ((s_DrawReadIdxKey p_1).2.1) ((s_DrawReadIdxKey p_1).2.2)).2.1) == ((s_ReadIdxKey ((s_DrawReadIdxKey p_1).1) ((s_DrawReadIdxKey p_1).2.1) ((s_DrawReadIdxKey p_1).2.2)).2.1)) (fun hb2452 => ?_) (fun hb2452 => ?_))))))))))
             ·refine CW.cond_f rfl (not_t hb2452) (CW.skip (tn (CW.seq (CW.seq (CW.region (sd rfl (yl_move rfl rfl (dn ?_))))))))
              refine bcase ((i_ReadRow ((s_DrawReadRow p_1).1) ((s_DrawReadRow p_1).2)).2) (fun hb2453 => ?_) (fun hb2453 => ?_)
              ·refine CW.cond_t rfl hb2453 (CW.seq (CW.region (sd rfl (yl_loadN ty26 rfl rfl ((Box.ex (Box.ex (Box.ex (Box.only (Box.ex (Box.ex (Box.only (Box.ex (Box.ex q2334 hE2350) hE2357) hO2360 (by omega)) hE2379) hE2388) hO2391 (by omega)) hE2402) hE2412) hE2448).cells (n := 3) rfl) rfl (sd rfl (yl_loadN ty28 rfl rfl ((Box.ex q2421 hE2448).cells (n := 1) rfl) rfl (sd rfl (yl_call en7 rfl (oc rfl (oc rfl oz)) (Cal.mono (c_i_RowWrite ((s_DrawReadRow p_1).1) ((i_ReadRow ((s_DrawReadRow p_1).1) ((s_DrawReadRow p_1).2)).1) (RdS.up (OwnL.rd good_Str (OwnL.ex good_Str (OwnL.ex good_Str (OwnL.ex good_Str (OwnL.only good_Str (OwnL.ex good_Str (OwnL.ex good_Str (OwnL.only good_Str (OwnL.ex good_Str (OwnL.ex good_Str q2341 hE2350) hE2357) hO2360 (by omega)) hE2379) hE2388) hO2391 (by omega)) hE2402) hE2412) hE2448)) good_Str) (RdS.up (OwnL.rd good_Idx (OwnL.ex good_Idx (OwnL.ex good_Idx (OwnL.ex good_Idx (OwnL.only good_Idx (OwnL.ex good_Idx (OwnL.ex good_Idx (OwnL.only good_Idx (OwnL.ex good_Idx (OwnL.ex good_Idx q2345 hE2350) hE2357) hO2360 (by omega)) hE2379) hE2388) hO2391 (by omega)) hE2402) hE2412) hE2448)) good_Idx) (RdS.up (OwnL.rd good_Str (OwnL.ex good_Str q2437 hE2448)) good_Str) ho2279 ho2319) ?_)))))))))
               rintro v2487 w2486 ⟨rfl, hE2488⟩
               have hE2488z := Ex.size hE2488
               refine sd rfl (yl_move rfl rfl (sd rfl (yl_extract rfl rfl rfl (sd rfl (yl_extract rfl rfl rfl (sd rfl (yl_alloc ty34 (cs := [.string (bs (([] : Str))), .string (bs (([] : Str))), .bool (false)]) rfl rfl ?_)))))))
               intro b2489 w2490 hs2491 hz2492 hB2493 hE2494
               refine SeqR.u rfl rfl (yl_store (vs := [.string (bs ((i_RowWrite ((s_DrawReadRow p_1).1) ((i_ReadRow ((s_DrawReadRow p_1).1) ((s_DrawReadRow p_1).2)).1)).1.Key)), .string (bs ((i_RowWrite ((s_DrawReadRow p_1).1) ((i_ReadRow ((s_DrawReadRow p_1).1) ((s_DrawReadRow p_1).2)).1)).1.Val)), .bool ((i_RowWrite ((s_DrawReadRow p_1).1) ((i_ReadRow ((s_DrawReadRow p_1).1) ((s_DrawReadRow p_1).2)).1)).1.Gone)]) ty34 rfl rfl rfl rfl rfl rfl hB2493 (Nat.le_of_ble_eq_true rfl) ?_)
               intro w2495 hB2496 hO2497
               have hB2496 : Box w2495 b2489 34 [.string (bs ((i_RowWrite ((s_DrawReadRow p_1).1) ((i_ReadRow ((s_DrawReadRow p_1).1) ((s_DrawReadRow p_1).2)).1)).1.Key)), .string (bs ((i_RowWrite ((s_DrawReadRow p_1).1) ((i_ReadRow ((s_DrawReadRow p_1).1) ((s_DrawReadRow p_1).2)).1)).1.Val)), .bool ((i_RowWrite ((s_DrawReadRow p_1).1) ((i_ReadRow ((s_DrawReadRow p_1).1) ((s_DrawReadRow p_1).2)).1)).1.Gone)] := hB2496
               have hO2497z := hO2497.size
               refine sd rfl (yl_assign rfl rfl (dn (CW.seq (CW.region (sd rfl (yl_move rfl rfl (sd rfl (yl_move rfl rfl (bcase ((i_RowWrite ((s_DrawReadRow p_1).1) ((i_ReadRow ((s_DrawReadRow p_1).1) ((s_DrawReadRow p_1).2)).1)).2) (fun hb2498 => ?_) (fun hb2498 => ?_))))))))))
               ·refine sy rfl rfl hb2498 (yl_loadN ty34 rfl rfl (hB2496.cells (n := 3) rfl) rfl (sy rfl rfl hb2498 (yl_loadN ty34 rfl rfl ((Box.only (Box.ex (Box.ex (Box.ex (Box.ex (Box.ex (Box.only (Box.ex (Box.ex (Box.only (Box.ex (Box.ex q2337 hE2350) hE2357) hO2360 (by omega)) hE2379) hE2388) hO2391 (by omega)) hE2402) hE2412) hE2448) hE2488) hE2494) hO2497 (by omega)).cells (n := 3) rfl) rfl (sy rfl rfl hb2498 (yl_aeql (xs := [.string (bs ((i_RowWrite ((s_DrawReadRow p_1).1) ((i_ReadRow ((s_DrawReadRow p_1).1) ((s_DrawReadRow p_1).2)).1)).1.Key)), .string (bs ((i_RowWrite ((s_DrawReadRow p_1).1) ((i_ReadRow ((s_DrawReadRow p_1).1) ((s_DrawReadRow p_1).2)).1)).1.Val)), .bool ((i_RowWrite ((s_DrawReadRow p_1).1) ((i_ReadRow ((s_DrawReadRow p_1).1) ((s_DrawReadRow p_1).2)).1)).1.Gone)]) (ys := [.string (bs ((s_DrawReadRow p_1).2.Key)), .string (bs ((s_DrawReadRow p_1).2.Val)), .bool ((s_DrawReadRow p_1).2.Gone)]) Tryd.ae34 rfl rfl rfl (sd rfl (yl_pick_t rfl rfl hb2498 rfl (sd rfl (yl_assign rfl rfl ?_)))))))))
                refine dn (CW.ret (tr (rr rfl (.cons rfl .nil) ?_)))
                have hM2511 : (l_FnRows p_0 p_1) = (((((i_RowWrite ((s_DrawReadRow p_1).1) ((i_ReadRow ((s_DrawReadRow p_1).1) ((s_DrawReadRow p_1).2)).1)).1.Key) == ((s_DrawReadRow p_1).2.Key)) && ((((i_RowWrite ((s_DrawReadRow p_1).1) ((i_ReadRow ((s_DrawReadRow p_1).1) ((s_DrawReadRow p_1).2)).1)).1.Val) == ((s_DrawReadRow p_1).2.Val)) && (((i_RowWrite ((s_DrawReadRow p_1).1) ((i_ReadRow ((s_DrawReadRow p_1).1) ((s_DrawReadRow p_1).2)).1)).1.Gone) == ((s_DrawReadRow p_1).2.Gone))))) := by first | (simp only [l_FnRows, hb3, hb116, hb117, hb118, hb122, hb143, hb144, hb1548, hb2413, hb2449, hb2450, hb2451, hb2452, hb2453, hb2498, cL]; done) | (simp only [l_FnRows, hb116, hb118, hb143, hb2413, cL] <;> simp only [hb3, hb117, hb122, hb144, hb1548, hb2449, hb2450, hb2451, hb2452, hb2453, hb2498, cL])
                rw [hM2511]
                have q2530 := Below.only (Below.only (Ex.trans (Ex.trans (Ex.trans (Ex.trans (Below.only (Ex.trans (Ex.trans (Below.only (Ex.trans (Ex.trans (Ex.trans (Ex.trans (Below.only (Below.only (Ex.trans (Ex.trans (Ex.trans (Ex.refl w) hE13) hE22) hE28) hO32 (by omega)) hO36 (by omega)) hE55) hE66) hE76) hE82) hO85 (by omega)) hE106) hE112) hO115 (by omega)) hE142) hE2282) hE2291) hE2297) hO2301 (by omega)) hO2305 (by omega)
                exact ⟨rfl, (Below.only (Ex.trans (Ex.trans (Ex.trans (Ex.trans (Ex.trans (Below.only (Ex.trans (Ex.trans (Below.only (Ex.trans (Ex.trans (Below.only (Ex.trans (Ex.trans q2530 hE2321) hE2328) hO2331 (by omega)) hE2350) hE2357) hO2360 (by omega)) hE2379) hE2388) hO2391 (by omega)) hE2402) hE2412) hE2448) hE2488) hE2494) hO2497 (by omega))⟩
               ·refine sz rfl rfl hb2498 (sz rfl rfl hb2498 (sz rfl rfl hb2498 (sd rfl (yl_pick_f rfl rfl hb2498 rfl (sd rfl (yl_assign rfl rfl (dn (CW.ret (tr ?_)))))))))
                refine rr rfl (.cons rfl .nil) ?_
                have hM2546 : (l_FnRows p_0 p_1) = (false) := by first | (simp only [l_FnRows, hb3, hb116, hb117, hb118, hb122, hb143, hb144, hb1548, hb2413, hb2449, hb2450, hb2451, hb2452, hb2453, hb2498, cL]; done) | (simp only [l_FnRows, hb116, hb118, hb143, hb2413, cL] <;> simp only [hb3, hb117, hb122, hb144, hb1548, hb2449, hb2450, hb2451, hb2452, hb2453, hb2498, cL])
                rw [hM2546]
                have q2565 := Below.only (Below.only (Ex.trans (Ex.trans (Ex.trans (Ex.trans (Below.only (Ex.trans (Ex.trans (Below.only (Ex.trans (Ex.trans (Ex.trans (Ex.trans (Below.only (Below.only (Ex.trans (Ex.trans (Ex.trans (Ex.refl w) hE13) hE22) hE28) hO32 (by omega)) hO36 (by omega)) hE55) hE66) hE76) hE82) hO85 (by omega)) hE106) hE112) hO115 (by omega)) hE142) hE2282) hE2291) hE2297) hO2301 (by omega)) hO2305 (by omega)
                exact ⟨rfl, (Below.only (Ex.trans (Ex.trans (Ex.trans (Ex.trans (Ex.trans (Below.only (Ex.trans (Ex.trans (Below.only (Ex.trans (Ex.trans (Below.only (Ex.trans (Ex.trans q2565 hE2321) hE2328) hO2331 (by omega)) hE2350) hE2357) hO2360 (by omega)) hE2379) hE2388) hO2391 (by omega)) hE2402) hE2412) hE2448) hE2488) hE2494) hO2497 (by omega))⟩
              ·refine CW.cond_f rfl hb2453 (CW.skip (tn (CW.seq (CW.region (sd rfl (yl_assign rfl rfl (dn (CW.ret ?_))))))))
               refine rr rfl (.cons rfl .nil) ?_
               have hM2581 : (l_FnRows p_0 p_1) = (true) := by first | (simp only [l_FnRows, hb3, hb116, hb117, hb118, hb122, hb143, hb144, hb1548, hb2413, hb2449, hb2450, hb2451, hb2452, hb2453, cL]; done) | (simp only [l_FnRows, hb116, hb118, hb143, hb2413, cL] <;> simp only [hb3, hb117, hb122, hb144, hb1548, hb2449, hb2450, hb2451, hb2452, hb2453, cL])
               rw [hM2581]
               have q2600 := Below.only (Below.only (Ex.trans (Ex.trans (Ex.trans (Ex.trans (Below.only (Ex.trans (Ex.trans (Below.only (Ex.trans (Ex.trans (Ex.trans (Ex.trans (Below.only (Below.only (Ex.trans (Ex.trans (Ex.trans (Ex.refl w) hE13) hE22) hE28) hO32 (by omega)) hO36 (by omega)) hE55) hE66) hE76) hE82) hO85 (by omega)) hE106) hE112) hO115 (by omega)) hE142) hE2282) hE2291) hE2297) hO2301 (by omega)) hO2305 (by omega)
               exact ⟨rfl, (Ex.trans (Ex.trans (Ex.trans (Below.only (Ex.trans (Ex.trans (Below.only (Ex.trans (Ex.trans (Below.only (Ex.trans (Ex.trans q2600 hE2321) hE2328) hO2331 (by omega)) hE2350) hE2357) hO2360 (by omega)) hE2379) hE2388) hO2391 (by omega)) hE2402) hE2412) hE2448)⟩
             ·refine CW.cond_t rfl (not_f hb2452) (CW.seq (CW.region (sd rfl (yl_assign rfl rfl (dn (CW.ret (tr (rr rfl (.cons rfl .nil) ?_))))))))
              have hM2613 : (l_FnRows p_0 p_1) = (false) := by first | (simp only [l_FnRows, hb3, hb116, hb117, hb118, hb122, hb143, hb144, hb1548, hb2413, hb2449, hb2450, hb2451, hb2452, cL]; done) | (simp only [l_FnRows, hb116, hb118, hb143, cL] <;> simp only [hb3, hb117, hb122, hb144, hb1548, hb2413, hb2449, hb2450, hb2451, hb2452, cL])
              rw [hM2613]
              have q2632 := Below.only (Below.only (Ex.trans (Ex.trans (Ex.trans (Ex.trans (Below.only (Ex.trans (Ex.trans (Below.only (Ex.trans (Ex.trans (Ex.trans (Ex.trans (Below.only (Below.only (Ex.trans (Ex.trans (Ex.trans (Ex.refl w) hE13) hE22) hE28) hO32 (by omega)) hO36 (by omega)) hE55) hE66) hE76) hE82) hO85 (by omega)) hE106) hE112) hO115 (by omega)) hE142) hE2282) hE2291) hE2297) hO2301 (by omega)) hO2305 (by omega)
              exact ⟨rfl, (Ex.trans (Ex.trans (Ex.trans (Below.only (Ex.trans (Ex.trans (Below.only (Ex.trans (Ex.trans (Below.only (Ex.trans (Ex.trans q2632 hE2321) hE2328) hO2331 (by omega)) hE2350) hE2357) hO2360 (by omega)) hE2379) hE2388) hO2391 (by omega)) hE2402) hE2412) hE2448)⟩
            ·refine sz rfl rfl (not_f hb2451) (sz rfl rfl (not_f hb2451) (sz rfl rfl (not_f hb2451) (sd rfl (yl_pick_t rfl rfl (not_f hb2451) rfl (dn (CW.cond_t rfl rfl (CW.seq (CW.region ?_))))))))
             refine sd rfl (yl_assign rfl rfl (dn (CW.ret (tr (rr rfl (.cons rfl .nil) ?_)))))
             have hM2645 : (l_FnRows p_0 p_1) = (false) := by first | (simp only [l_FnRows, hb3, hb116, hb117, hb118, hb122, hb143, hb144, hb1548, hb2413, hb2449, hb2450, hb2451, cL]; done) | (simp only [l_FnRows, hb116, hb118, hb143, cL] <;> simp only [hb3, hb117, hb122, hb144, hb1548, hb2413, hb2449, hb2450, hb2451, cL])
             rw [hM2645]
             have q2664 := Below.only (Below.only (Ex.trans (Ex.trans (Ex.trans (Ex.trans (Below.only (Ex.trans (Ex.trans (Below.only (Ex.trans (Ex.trans (Ex.trans (Ex.trans (Below.only (Below.only (Ex.trans (Ex.trans (Ex.trans (Ex.refl w) hE13) hE22) hE28) hO32 (by omega)) hO36 (by omega)) hE55) hE66) hE76) hE82) hO85 (by omega)) hE106) hE112) hO115 (by omega)) hE142) hE2282) hE2291) hE2297) hO2301 (by omega)) hO2305 (by omega)
             exact ⟨rfl, (Ex.trans (Ex.trans (Ex.trans (Below.only (Ex.trans (Ex.trans (Below.only (Ex.trans (Ex.trans (Below.only (Ex.trans (Ex.trans q2664 hE2321) hE2328) hO2331 (by omega)) hE2350) hE2357) hO2360 (by omega)) hE2379) hE2388) hO2391 (by omega)) hE2402) hE2412) hE2448)⟩
           ·refine sz rfl rfl (not_f hb2450) (sz rfl rfl (not_f hb2450) (sz rfl rfl (not_f hb2450) (sd rfl (yl_pick_t rfl rfl (not_f hb2450) rfl (sd rfl (yl_move rfl rfl (sz rfl rfl rfl (sz rfl rfl rfl (sz rfl rfl rfl (sd rfl (yl_pick_t rfl rfl rfl rfl ?_)))))))))))
            refine dn (CW.cond_t rfl rfl (CW.seq (CW.region (sd rfl (yl_assign rfl rfl (dn (CW.ret ?_)))))))
            refine tr (rr rfl (.cons rfl .nil) ?_)
            have hM2677 : (l_FnRows p_0 p_1) = (false) := by first | (simp only [l_FnRows, hb3, hb116, hb117, hb118, hb122, hb143, hb144, hb1548, hb2413, hb2449, hb2450, cL]; done) | (simp only [l_FnRows, hb116, hb118, hb143, cL] <;> simp only [hb3, hb117, hb122, hb144, hb1548, hb2413, hb2449, hb2450, cL])
            rw [hM2677]
            have q2696 := Below.only (Below.only (Ex.trans (Ex.trans (Ex.trans (Ex.trans (Below.only (Ex.trans (Ex.trans (Below.only (Ex.trans (Ex.trans (Ex.trans (Ex.trans (Below.only (Below.only (Ex.trans (Ex.trans (Ex.trans (Ex.refl w) hE13) hE22) hE28) hO32 (by omega)) hO36 (by omega)) hE55) hE66) hE76) hE82) hO85 (by omega)) hE106) hE112) hO115 (by omega)) hE142) hE2282) hE2291) hE2297) hO2301 (by omega)) hO2305 (by omega)
            exact ⟨rfl, (Ex.trans (Ex.trans (Ex.trans (Below.only (Ex.trans (Ex.trans (Below.only (Ex.trans (Ex.trans (Below.only (Ex.trans (Ex.trans q2696 hE2321) hE2328) hO2331 (by omega)) hE2350) hE2357) hO2360 (by omega)) hE2379) hE2388) hO2391 (by omega)) hE2402) hE2412) hE2448)⟩
          ·refine sz rfl rfl (not_f hb2449) (sz rfl rfl (not_f hb2449) (sz rfl rfl (not_f hb2449) (sd rfl (yl_pick_t rfl rfl (not_f hb2449) rfl (sd rfl (yl_move rfl rfl (sz rfl rfl rfl (sz rfl rfl rfl (sz rfl rfl rfl (sd rfl (yl_pick_t rfl rfl rfl rfl ?_)))))))))))
           refine sd rfl (yl_move rfl rfl (sz rfl rfl rfl (sz rfl rfl rfl (sz rfl rfl rfl (sd rfl (yl_pick_t rfl rfl rfl rfl (dn (CW.cond_t rfl rfl (CW.seq ?_)))))))))
           refine CW.region (sd rfl (yl_assign rfl rfl (dn (CW.ret (tr (rr rfl (.cons rfl .nil) ?_))))))
           have hM2709 : (l_FnRows p_0 p_1) = (false) := by first | (simp only [l_FnRows, hb3, hb116, hb117, hb118, hb122, hb143, hb144, hb1548, hb2413, hb2449, cL]; done) | (simp only [l_FnRows, hb116, hb118, hb143, cL] <;> simp only [hb3, hb117, hb122, hb144, hb1548, hb2413, hb2449, cL])
           rw [hM2709]
           have q2728 := Below.only (Below.only (Ex.trans (Ex.trans (Ex.trans (Ex.trans (Below.only (Ex.trans (Ex.trans (Below.only (Ex.trans (Ex.trans (Ex.trans (Ex.trans (Below.only (Below.only (Ex.trans (Ex.trans (Ex.trans (Ex.refl w) hE13) hE22) hE28) hO32 (by omega)) hO36 (by omega)) hE55) hE66) hE76) hE82) hO85 (by omega)) hE106) hE112) hO115 (by omega)) hE142) hE2282) hE2291) hE2297) hO2301 (by omega)) hO2305 (by omega)
           exact ⟨rfl, (Ex.trans (Ex.trans (Ex.trans (Below.only (Ex.trans (Ex.trans (Below.only (Ex.trans (Ex.trans (Below.only (Ex.trans (Ex.trans q2728 hE2321) hE2328) hO2331 (by omega)) hE2350) hE2357) hO2360 (by omega)) hE2379) hE2388) hO2391 (by omega)) hE2402) hE2412) hE2448)⟩
         ·refine sz rfl rfl (not_f hb2413) (sz rfl rfl (not_f hb2413) (sz rfl rfl (not_f hb2413) (sz rfl rfl (not_f hb2413) (sz rfl rfl (not_f hb2413) (sz rfl rfl (not_f hb2413) (sd rfl (yl_pick_t rfl rfl (not_f hb2413) rfl (sd rfl (yl_move rfl rfl (sz rfl rfl rfl ?_))))))))))
          refine sz rfl rfl rfl (sz rfl rfl rfl (sd rfl (yl_pick_t rfl rfl rfl rfl (sd rfl (yl_move rfl rfl (sz rfl rfl rfl (sz rfl rfl rfl (sz rfl rfl rfl (sd rfl (yl_pick_t rfl rfl rfl rfl (sd rfl (yl_move rfl rfl ?_))))))))))))
          refine sz rfl rfl rfl (sz rfl rfl rfl (sz rfl rfl rfl (sd rfl (yl_pick_t rfl rfl rfl rfl (dn (CW.cond_t rfl rfl (CW.seq (CW.region ?_))))))))
          refine sd rfl (yl_assign rfl rfl (dn (CW.ret (tr (rr rfl (.cons rfl .nil) ?_)))))
          have hM2741 : (l_FnRows p_0 p_1) = (false) := by first | (simp only [l_FnRows, hb3, hb116, hb117, hb118, hb122, hb143, hb144, hb1548, hb2413, cL]; done) | (simp only [l_FnRows, hb116, hb118, hb143, cL] <;> simp only [hb3, hb117, hb122, hb144, hb1548, hb2413, cL])
          rw [hM2741]
          have q2760 := Below.only (Below.only (Ex.trans (Ex.trans (Ex.trans (Ex.trans (Below.only (Ex.trans (Ex.trans (Below.only (Ex.trans (Ex.trans (Ex.trans (Ex.trans (Below.only (Below.only (Ex.trans (Ex.trans (Ex.trans (Ex.refl w) hE13) hE22) hE28) hO32 (by omega)) hO36 (by omega)) hE55) hE66) hE76) hE82) hO85 (by omega)) hE106) hE112) hO115 (by omega)) hE142) hE2282) hE2291) hE2297) hO2301 (by omega)) hO2305 (by omega)
          exact ⟨rfl, (Ex.trans (Ex.trans (Below.only (Ex.trans (Ex.trans (Below.only (Ex.trans (Ex.trans (Below.only (Ex.trans (Ex.trans q2760 hE2321) hE2328) hO2331 (by omega)) hE2350) hE2357) hO2360 (by omega)) hE2379) hE2388) hO2391 (by omega)) hE2402) hE2412)⟩
      ·refine CW.cond_t rfl (not_f hb143) (CW.seq (CW.region (sd rfl (yl_assign rfl rfl (dn (CW.ret (tr (rr rfl (.cons rfl .nil) ?_))))))))
       have hM2772 : (l_FnRows p_0 p_1) = (false) := by simp only [l_FnRows, hb3, hb116, hb117, hb118, hb122, hb143, cL]
       rw [hM2772]
       exact ⟨rfl, (Ex.trans (Below.only (Ex.trans (Ex.trans (Below.only (Ex.trans (Ex.trans (Ex.trans (Ex.trans (Below.only (Below.only (Ex.trans (Ex.trans (Ex.trans (Ex.refl w) hE13) hE22) hE28) hO32 (by omega)) hO36 (by omega)) hE55) hE66) hE76) hE82) hO85 (by omega)) hE106) hE112) hO115 (by omega)) hE142)⟩
     ·refine sz rfl rfl (not_f hb122) (sz rfl rfl (not_f hb122) (sz rfl rfl (not_f hb122) (sz rfl rfl (not_f hb122) (sz rfl rfl (not_f hb122) (sd rfl (yl_pick_t rfl rfl (not_f hb122) rfl (dn (CW.cond_t rfl rfl ?_))))))))
      refine CW.seq (CW.region (sd rfl (yl_assign rfl rfl (dn (CW.ret (tr (rr rfl (.cons rfl .nil) ?_)))))))
      have hM2787 : (l_FnRows p_0 p_1) = (false) := by simp only [l_FnRows, hb3, hb116, hb117, hb118, hb122, cL]
      rw [hM2787]
      exact ⟨rfl, (Below.only (Ex.trans (Ex.trans (Below.only (Ex.trans (Ex.trans (Ex.trans (Ex.trans (Below.only (Below.only (Ex.trans (Ex.trans (Ex.trans (Ex.refl w) hE13) hE22) hE28) hO32 (by omega)) hO36 (by omega)) hE55) hE66) hE76) hE82) hO85 (by omega)) hE106) hE112) hO115 (by omega))⟩
    ·refine sz rfl rfl (not_f hb118) (sz rfl rfl (not_f hb118) (sz rfl rfl (not_f hb118) (sd rfl (yl_pick_t rfl rfl (not_f hb118) rfl (sd rfl (yl_move rfl rfl (sz rfl rfl rfl (sz rfl rfl rfl (sz rfl rfl rfl (sz rfl rfl rfl ?_))))))))))
     refine sz rfl rfl rfl (sd rfl (yl_pick_t rfl rfl rfl rfl (dn (CW.cond_t rfl rfl (CW.seq (CW.region (sd rfl (yl_assign rfl rfl (SeqR.done ?_)))))))))
     refine tn (CW.ret (tr (rr rfl (.cons rfl .nil) ?_)))
     have hM2801 : (l_FnRows p_0 p_1) = (false) := by simp only [l_FnRows, hb3, hb116, hb117, hb118, cL]
     rw [hM2801]
     exact ⟨rfl, (Below.only (Ex.trans (Ex.trans (Below.only (Ex.trans (Ex.trans (Ex.trans (Ex.trans (Below.only (Below.only (Ex.trans (Ex.trans (Ex.trans (Ex.refl w) hE13) hE22) hE28) hO32 (by omega)) hO36 (by omega)) hE55) hE66) hE76) hE82) hO85 (by omega)) hE106) hE112) hO115 (by omega))⟩
   ·refine sz rfl rfl (not_f hb117) (sz rfl rfl (not_f hb117) (sz rfl rfl (not_f hb117) (sd rfl (yl_pick_t rfl rfl (not_f hb117) rfl (sd rfl (yl_move rfl rfl (sz rfl rfl rfl (sz rfl rfl rfl (sz rfl rfl rfl (sd rfl (yl_pick_t rfl rfl rfl rfl ?_)))))))))))
    refine sd rfl (yl_move rfl rfl (sz rfl rfl rfl (sz rfl rfl rfl (sz rfl rfl rfl (sz rfl rfl rfl (sz rfl rfl rfl (sd rfl (yl_pick_t rfl rfl rfl rfl (dn ?_)))))))))
    refine CW.cond_t rfl rfl (CW.seq (CW.region (sd rfl (yl_assign rfl rfl (dn (CW.ret (tr (rr rfl (.cons rfl .nil) ?_))))))))
    have hM2815 : (l_FnRows p_0 p_1) = (false) := by simp only [l_FnRows, hb3, hb116, hb117, cL]
    rw [hM2815]
    exact ⟨rfl, (Below.only (Ex.trans (Ex.trans (Below.only (Ex.trans (Ex.trans (Ex.trans (Ex.trans (Below.only (Below.only (Ex.trans (Ex.trans (Ex.trans (Ex.refl w) hE13) hE22) hE28) hO32 (by omega)) hO36 (by omega)) hE55) hE66) hE76) hE82) hO85 (by omega)) hE106) hE112) hO115 (by omega))⟩
  ·refine sz rfl rfl (not_f hb116) (sz rfl rfl (not_f hb116) (sz rfl rfl (not_f hb116) (sd rfl (yl_pick_t rfl rfl (not_f hb116) rfl (sd rfl (yl_move rfl rfl (sz rfl rfl rfl (sz rfl rfl rfl (sz rfl rfl rfl (sd rfl (yl_pick_t rfl rfl rfl rfl ?_)))))))))))
   refine sd rfl (yl_move rfl rfl (sz rfl rfl rfl (sz rfl rfl rfl (sz rfl rfl rfl (sd rfl (yl_pick_t rfl rfl rfl rfl (sd rfl (yl_move rfl rfl (sz rfl rfl rfl (sz rfl rfl rfl (sz rfl rfl rfl ?_)))))))))))
   refine sz rfl rfl rfl (sz rfl rfl rfl (sd rfl (yl_pick_t rfl rfl rfl rfl (dn (CW.cond_t rfl rfl (CW.seq (CW.region (sd rfl (yl_assign rfl rfl ?_)))))))))
   refine dn (CW.ret (tr (rr rfl (.cons rfl .nil) ?_)))
   have hM2829 : (l_FnRows p_0 p_1) = (false) := by simp only [l_FnRows, hb3, hb116, cL]
   rw [hM2829]
   exact ⟨rfl, (Below.only (Ex.trans (Ex.trans (Below.only (Ex.trans (Ex.trans (Ex.trans (Ex.trans (Below.only (Below.only (Ex.trans (Ex.trans (Ex.trans (Ex.refl w) hE13) hE22) hE28) hO32 (by omega)) hO36 (by omega)) hE55) hE66) hE76) hE82) hO85 (by omega)) hE106) hE112) hO115 (by omega))⟩
end Go.Proofs.YtlnjgkmpaebioaaDoor
