/- Read Stmt: what each call returns, part 4. -/
import Derived.Test.YtdbobbmagmcpnaaDoorReadStmtC3
set_option linter.unusedVariables false
set_option linter.unusedSimpArgs false
namespace Go.Proofs.YtdbobbmagmcpnaaDoor
open Go.RowKit Go.X
set_option maxRecDepth 100000 in
set_option maxHeartbeats 2000000 in
theorem c_i_Table_readStmt {A1 : Option Addr} {c1 : Nat} {A2 : Option Addr} {c2 : Nat} {w : World} (p_0 : DTable) (p_1 : Str) (h1 : RdS w (Iv 0 w.heap.size) (RF e_Str) 1 A1 p_0.Cols.length c1 p_0.Cols) (h2 : RdS w (Iv 0 w.heap.size) (RF e_Idx) 3 A2 p_0.Idxs.length c2 p_0.Idxs) (o3 : ok_Table p_0) (o4 : okS p_1) (pre0 : s_GoodTable p_0 = true) : Cal Tryd.prog 35 #[.agg #[.string (bs (p_0.Name)), .slice A1 p_0.Cols.length c1, .slice A2 p_0.Idxs.length c2], .string (bs (p_1))] w fun v w' => ∃ A_1 c_1 lo_1 hi_1 A_2 c_2 lo_2 hi_2, v = .tuple #[.agg #[.int .i64 ((i_Table_readStmt p_0 p_1).1.Kind), .int .i64 ((i_Table_readStmt p_0 p_1).1.Act.Kind), .slice A_1 (((i_Table_readStmt p_0 p_1).1.Act.Old.Vals).length) c_1, .slice A_2 (((i_Table_readStmt p_0 p_1).1.Act.New.Vals).length) c_2, .string (bs ((i_Table_readStmt p_0 p_1).1.Idx)), .string (bs ((i_Table_readStmt p_0 p_1).1.Low)), .string (bs ((i_Table_readStmt p_0 p_1).1.High))], .bool ((i_Table_readStmt p_0 p_1).2)] ∧ OwnL w' lo_1 hi_1 9 1 (RF e_Str) A_1 (((i_Table_readStmt p_0 p_1).1.Act.Old.Vals).length) c_1 ((i_Table_readStmt p_0 p_1).1.Act.Old.Vals) ∧ OwnL w' lo_2 hi_2 9 1 (RF e_Str) A_2 (((i_Table_readStmt p_0 p_1).1.Act.New.Vals).length) c_2 ((i_Table_readStmt p_0 p_1).1.Act.New.Vals) ∧ ok_Stmt ((i_Table_readStmt p_0 p_1).1) ∧ (w.heap.size ≤ lo_1 ∧ lo_1 ≤ hi_1 ∧ hi_1 ≤ w'.heap.size) ∧ (w.heap.size ≤ lo_2 ∧ lo_2 ≤ hi_2 ∧ hi_2 ≤ w'.heap.size) ∧ (hi_1 ≤ lo_2 ∨ hi_2 ≤ lo_1) ∧ Ex w w' := by
 have hol5 : p_0.Name.length ≤ 1073741824 := o3.1
 have hol6 := o3.2.1.1
 have hol7 := o3.2.2.1
 have hol8 : p_1.length ≤ 1073741824 := o4
 have hgt := f_s_GoodTable pre0
 refine Cal.of (vs := [.agg #[.string (bs (p_0.Name)), .slice A1 p_0.Cols.length c1, .slice A2 p_0.Idxs.length c2], .string (bs (p_1))]) Tryd.func35 rfl Tryd.ntmps35 rfl (CW.seq (CW.region (sd rfl (yl_box (cs := [.string (bs (p_0.Name)), .slice A1 p_0.Cols.length c1, .slice A2 p_0.Idxs.length c2]) rfl rfl rfl ?_))))
 intro b9 w10 hs11 hz12 hB13 hE14
 refine sd rfl (yl_alloc Tryd.ty48 (cs := [.int .i64 (0), .int .i64 (0), .slice none 0 0, .slice none 0 0, .string (bs (([] : Str))), .string (bs (([] : Str))), .string (bs (([] : Str)))]) rfl rfl ?_)
 intro b15 w16 hs17 hz18 hB19 hE20
 refine sd rfl (yl_assign rfl rfl (SeqR.done (tn (CW.seq (CW.region (sd rfl (yl_move rfl rfl (sd rfl (yl_call Tryd.en52 rfl (opvs_cons rfl (opvs_cons rfl opvs_nil)) (Cal.mono (c_g_strings_Split p_1 ([32] : Str) o4 (okS.lit rfl) rfl) ?_))))))))))
 rintro v24 w21 ⟨A22, c22, lo22, hi22, rfl, h22, ho23, hrn26, hE25⟩
 have hE25z := Ex.size hE25
 have hrf27 := rf_Split p_1 ([32] : Str)
 refine sd rfl (yl_assign rfl rfl (SeqR.done (tn (CW.seq (CW.region (sd rfl (yl_build (cs := [.int .i64 (1), .int .i64 (0), .slice none 0 0, .slice none 0 0, .string (bs (([] : Str))), .string (bs (([] : Str))), .string (bs (([] : Str)))]) rfl (opvs_cons rfl opvs_nil) (by kernel_rfl) (sd rfl (yl_alloc Tryd.ty48 (cs := [.int .i64 (0), .int .i64 (0), .slice none 0 0, .slice none 0 0, .string (bs (([] : Str))), .string (bs (([] : Str))), .string (bs (([] : Str)))]) rfl rfl ?_)))))))))
 intro b28 w29 hs30 hz31 hB32 hE33
 refine SeqR.u rfl rfl (yl_store (vs := [.int .i64 (1), .int .i64 (0), .slice none 0 0, .slice none 0 0, .string (bs (([] : Str))), .string (bs (([] : Str))), .string (bs (([] : Str)))]) Tryd.ty48 rfl rfl rfl rfl rfl rfl hB32 (Nat.le_of_ble_eq_true rfl) ?_)
 intro w34 hB35 hO36
 have hB35 : Box w34 b28 48 [.int .i64 (1), .int .i64 (0), .slice none 0 0, .slice none 0 0, .string (bs (([] : Str))), .string (bs (([] : Str))), .string (bs (([] : Str)))] := hB35
 have hO36z := hO36.size
 refine SeqR.done (tn (CW.seq (CW.block (CW.seq (CW.region (sd rfl (yl_move rfl rfl (sd rfl (yl_len Tryd.un22 rfl rfl (sd rfl (yl_eql rfl rfl rfl ?_)))))))))))
 refine sd rfl (yl_move rfl rfl (bcase (decide (((g_strings_Split p_1 ([32] : Str)).length : Int) = 3)) (fun hb37 => ?_) (fun hb37 => ?_)))
 ·have hb37p := dec_t hb37
  refine sy rfl rfl hb37 (yl_move rfl rfl ?_)
  have q40 := OwnL.only good_Str (OwnL.ex good_Str h22 hE33) hO36 (by omega)
  obtain ⟨eb41, eo41, ec41, eA41, eS41, ebl41, el41, eR41, eC41⟩ := RdS.atD (OwnL.rd good_Str q40) d_Str (i := 0) (by first | omega | assumption)
  obtain rfl := eR41
  have eC41 : Cells w34 eb41 (eo41 + 0 * 1) [.string (bs (((g_strings_Split p_1 ([32] : Str)).getD 0 d_Str)))] := eC41
  refine sy rfl rfl hb37 (yl_indexAddrN Tryd.un22 Tryd.ty9 rfl rfl rfl eA41 (by first | omega | assumption | (simp only [IntKind.wrap_i64] at *; omega)) (sy rfl rfl hb37 (yl_load1 Tryd.ty9 rfl rfl (eC41 0 _ rfl) (sy rfl rfl hb37 (yl_seql (a := ((g_strings_Split p_1 ([32] : Str)).getD 0 d_Str)) (b := ([105, 110, 115, 101, 114, 116] : Str)) rfl rfl rfl (sd rfl (yl_pick_t rfl rfl hb37 rfl (sd rfl (yl_assign rfl rfl (SeqR.done (tn (bcase (((g_strings_Split p_1 ([32] : Str)).getD 0 d_Str) == ([105, 110, 115, 101, 114, 116] : Str)) (fun hb42 => ?_) (fun hb42 => ?_)))))))))))))
  ·refine CW.cond_t rfl hb42 (CW.region (sd rfl (yl_move rfl rfl ?_)))
   obtain ⟨eb44, eo44, ec44, eA44, eS44, ebl44, el44, eR44, eC44⟩ := RdS.atD (OwnL.rd good_Str q40) d_Str (i := 2) (by first | omega | assumption)
   obtain rfl := eR44
   have eC44 : Cells w34 eb44 (eo44 + 2 * 1) [.string (bs (((g_strings_Split p_1 ([32] : Str)).getD 2 d_Str)))] := eC44
   refine sd rfl (yl_indexAddrN Tryd.un22 Tryd.ty9 rfl rfl rfl eA44 (by first | omega | assumption | (simp only [IntKind.wrap_i64] at *; omega)) (sd rfl (yl_load1 Tryd.ty9 rfl rfl (eC44 0 _ rfl) (sd rfl (yl_call Tryd.en60 rfl (opvs_cons rfl opvs_nil) (Cal.mono (c_i_rowOf ((g_strings_Split p_1 ([32] : Str)).getD 2 d_Str) (okL.getD ho23 ok_d_Str _)) ?_))))))
   rintro v48 w45 ⟨A46, c46, lo46, hi46, rfl, h46, ho47, hrn50, hE49⟩
   have hE49z := Ex.size hE49
   refine sd rfl (yl_build (cs := [.int .i64 (1), .slice none 0 0, .slice A46 (((i_rowOf ((g_strings_Split p_1 ([32] : Str)).getD 2 d_Str)).Vals).length) c46]) rfl (opvs_cons rfl (opvs_cons rfl opvs_nil)) (by kernel_rfl) (sd rfl (yl_fieldAddr Tryd.fd48_1 rfl rfl (SeqR.u rfl rfl (yl_store (vs := [.int .i64 (1), .slice none 0 0, .slice A46 (((i_rowOf ((g_strings_Split p_1 ([32] : Str)).getD 2 d_Str)).Vals).length) c46]) Tryd.ty46 rfl rfl rfl rfl rfl rfl (Box.ex hB35 hE49) (Nat.le_of_ble_eq_true rfl) ?_)))))
   intro w52 hB53 hO54
   have hB53 : Box w52 b28 48 [.int .i64 (1), .int .i64 (1), .slice none 0 0, .slice A46 (((i_rowOf ((g_strings_Split p_1 ([32] : Str)).getD 2 d_Str)).Vals).length) c46, .string (bs (([] : Str))), .string (bs (([] : Str))), .string (bs (([] : Str)))] := hB53
   have hO54z := hO54.size
   refine SeqR.done (bn (tn (CW.seq (CW.seq (CW.region ?_)))))
   have q60 := Box.only (Box.ex (Box.only (Box.ex (Box.ex (Box.ex hB13 hE20) hE25) hE33) hO36 (by omega)) hE49) hO54 (by omega)
   refine sd rfl (yl_loadN (cs := [.string (bs (p_0.Name)), .slice A1 p_0.Cols.length c1, .slice A2 p_0.Idxs.length c2]) Tryd.ty36 rfl rfl (q60.cells (n := 3) rfl) rfl (sd rfl (yl_loadN (cs := [.int .i64 (1), .int .i64 (1), .slice none 0 0, .slice A46 (((i_rowOf ((g_strings_Split p_1 ([32] : Str)).getD 2 d_Str)).Vals).length) c46, .string (bs (([] : Str))), .string (bs (([] : Str))), .string (bs (([] : Str)))]) Tryd.ty48 rfl rfl (hB53.cells (n := 7) rfl) rfl ?_)))
   have q67 := RdS.only good_Str (RdS.ex good_Str (RdS.only good_Str (RdS.ex good_Str (RdS.ex good_Str (RdS.ex good_Str (RdS.ex good_Str h1 hE14) hE20) hE25) hE33) hO36 (by simp only [Iv]; omega)) hE49) hO54 (by simp only [Iv]; omega)
   have q74 := RdS.only good_Idx (RdS.ex good_Idx (RdS.only good_Idx (RdS.ex good_Idx (RdS.ex good_Idx (RdS.ex good_Idx (RdS.ex good_Idx h2 hE14) hE20) hE25) hE33) hO36 (by simp only [Iv]; omega)) hE49) hO54 (by simp only [Iv]; omega)
   have q76 := OwnL.only good_Str h46 hO54 (by omega)
   refine sd rfl (yl_call Tryd.en61 rfl (opvs_cons rfl (opvs_cons rfl opvs_nil)) (Cal.mono (c_i_Table_isStmt p_0 (⟨1, (⟨1, (⟨[]⟩ : DRow), (i_rowOf ((g_strings_Split p_1 ([32] : Str)).getD 2 d_Str))⟩ : DRowAct), ([] : Str), ([] : Str), ([] : Str)⟩ : DStmt) (RdS.up q67 good_Str) (RdS.up q74 good_Idx) (RdS.nil _ _ _ _ _ _ (by decide)) (RdS.up (OwnL.rd good_Str q76) good_Str) o3 (⟨⟨(okL.nil _), ho47⟩, (okS.lit rfl), (okS.lit rfl), (okS.lit rfl)⟩) (by first | omega | assumption | (simp only [IntKind.wrap_i64] at *; omega))) ?_))
   rintro v78 w77 ⟨rfl, hE79⟩
   have hE79z := Ex.size hE79
   refine sd rfl (yl_not rfl rfl (sd rfl (yl_move rfl rfl (bcase (i_Table_isStmt p_0 (⟨1, (⟨1, (⟨[]⟩ : DRow), (i_rowOf ((g_strings_Split p_1 ([32] : Str)).getD 2 d_Str))⟩ : DRowAct), ([] : Str), ([] : Str), ([] : Str)⟩ : DStmt)) (fun hb80 => ?_) (fun hb80 => ?_)))))
   ·have hb80p := f_isStmt pre0 hb80
    refine sy rfl rfl (not_t hb80) (yl_loadN (cs := [.string (bs (p_0.Name)), .slice A1 p_0.Cols.length c1, .slice A2 p_0.Idxs.length c2]) Tryd.ty36 rfl rfl ((Box.ex q60 hE79).cells (n := 3) rfl) rfl ?_)
    have q82 := Box.ex hB53 hE79
    refine sy rfl rfl (not_t hb80) (yl_loadN (cs := [.int .i64 (1), .int .i64 (1), .slice none 0 0, .slice A46 (((i_rowOf ((g_strings_Split p_1 ([32] : Str)).getD 2 d_Str)).Vals).length) c46, .string (bs (([] : Str))), .string (bs (([] : Str))), .string (bs (([] : Str)))]) Tryd.ty48 rfl rfl (q82.cells (n := 7) rfl) rfl ?_)
    have q86 := OwnL.ex good_Str q76 hE79
    refine sy rfl rfl (not_t hb80) (yl_call Tryd.en62 rfl (opvs_cons rfl (opvs_cons rfl opvs_nil)) (Cal.mono (c_i_Table_stmtText p_0 (⟨1, (⟨1, (⟨[]⟩ : DRow), (i_rowOf ((g_strings_Split p_1 ([32] : Str)).getD 2 d_Str))⟩ : DRowAct), ([] : Str), ([] : Str), ([] : Str)⟩ : DStmt) (RdS.up (RdS.ex good_Str q67 hE79) good_Str) (RdS.up (RdS.ex good_Idx q74 hE79) good_Idx) (RdS.nil _ _ _ _ _ _ (by decide)) (RdS.up (OwnL.rd good_Str q86) good_Str) o3 (⟨⟨(okL.nil _), ho47⟩, (okS.lit rfl), (okS.lit rfl), (okS.lit rfl)⟩) (by first | omega | assumption | (simp only [IntKind.wrap_i64] at *; omega))) ?_))
    rintro v88 w87 ⟨rfl, hE89⟩
    have hE89z := Ex.size hE89
    refine sy rfl rfl (not_t hb80) (yl_move rfl rfl (sy rfl rfl (not_t hb80) (yl_sneq (a := (i_Table_stmtText p_0 (⟨1, (⟨1, (⟨[]⟩ : DRow), (i_rowOf ((g_strings_Split p_1 ([32] : Str)).getD 2 d_Str))⟩ : DRowAct), ([] : Str), ([] : Str), ([] : Str)⟩ : DStmt))) (b := p_1) rfl rfl rfl (sd rfl (yl_pick_f rfl rfl (not_t hb80) rfl (SeqR.done (tn (bcase ((i_Table_stmtText p_0 (⟨1, (⟨1, (⟨[]⟩ : DRow), (i_rowOf ((g_strings_Split p_1 ([32] : Str)).getD 2 d_Str))⟩ : DRowAct), ([] : Str), ([] : Str), ([] : Str)⟩ : DStmt)) == p_1) (fun hb90 => ?_) (fun hb90 => ?_)))))))))
    ·refine CW.cond_f rfl (not_t hb90) (CW.skip (tn (CW.seq (CW.region (sd rfl (yl_loadN (cs := [.int .i64 (1), .int .i64 (1), .slice none 0 0, .slice A46 (((i_rowOf ((g_strings_Split p_1 ([32] : Str)).getD 2 d_Str)).Vals).length) c46, .string (bs (([] : Str))), .string (bs (([] : Str))), .string (bs (([] : Str)))]) Tryd.ty48 rfl rfl ((Box.ex q82 hE89).cells (n := 7) rfl) rfl (SeqR.u rfl rfl (yl_store (vs := [.int .i64 (1), .int .i64 (1), .slice none 0 0, .slice A46 (((i_rowOf ((g_strings_Split p_1 ([32] : Str)).getD 2 d_Str)).Vals).length) c46, .string (bs (([] : Str))), .string (bs (([] : Str))), .string (bs (([] : Str)))]) Tryd.ty48 rfl rfl rfl rfl rfl rfl (Box.ex (Box.ex (Box.only (Box.ex (Box.only (Box.ex (Box.ex hB19 hE25) hE33) hO36 (by omega)) hE49) hO54 (by omega)) hE79) hE89) (Nat.le_of_ble_eq_true rfl) ?_))))))))
     intro w99 hB100 hO101
     have hB100 : Box w99 b15 48 [.int .i64 (1), .int .i64 (1), .slice none 0 0, .slice A46 (((i_rowOf ((g_strings_Split p_1 ([32] : Str)).getD 2 d_Str)).Vals).length) c46, .string (bs (([] : Str))), .string (bs (([] : Str))), .string (bs (([] : Str)))] := hB100
     have hO101z := hO101.size
     refine sd rfl (yl_assign rfl rfl (SeqR.done (tn (CW.ret (rr rfl (.cons ⟨_, rfl, run_loadN Tryd.ty48 (cs := [.int .i64 (1), .int .i64 (1), .slice none 0 0, .slice A46 (((i_rowOf ((g_strings_Split p_1 ([32] : Str)).getD 2 d_Str)).Vals).length) c46, .string (bs (([] : Str))), .string (bs (([] : Str))), .string (bs (([] : Str)))]) rfl (hB100.cells (n := 7) rfl)⟩ (.cons rfl .nil)) ?_)))))
     have hM102 : (i_Table_readStmt p_0 p_1) = (((⟨1, (⟨1, (⟨[]⟩ : DRow), (i_rowOf ((g_strings_Split p_1 ([32] : Str)).getD 2 d_Str))⟩ : DRowAct), ([] : Str), ([] : Str), ([] : Str)⟩ : DStmt), true)) := by simp only [i_Table_readStmt, hb37, hb42, hb80, hb90, cond_true, cond_false, loopE_done, loopE_ret]
     rw [hM102]
     exact ⟨none, 0, w99.heap.size, w99.heap.size, A46, c46, lo46, hi46, rfl, (OwnL.nil _ _ _ _ _ _), (OwnL.only good_Str (OwnL.ex good_Str q86 hE89) hO101 (by omega)), ⟨⟨(okL.nil _), ho47⟩, (okS.lit rfl), (okS.lit rfl), (okS.lit rfl)⟩, (by omega), (by omega), (by omega), (Below.only (Ex.trans (Ex.trans (Below.only (Ex.trans (Below.only (Ex.trans (Ex.trans (Ex.trans (Ex.trans (Ex.refl w) hE14) hE20) hE25) hE33) hO36 (by omega)) hE49) hO54 (by omega)) hE79) hE89) hO101 (by omega))⟩
    ·refine CW.cond_t rfl (not_f hb90) (CW.seq (CW.region (sd rfl (yl_build (cs := [.int .i64 (0), .int .i64 (0), .slice none 0 0, .slice none 0 0, .string (bs (([] : Str))), .string (bs (([] : Str))), .string (bs (([] : Str)))]) rfl opvs_nil (by kernel_rfl) (SeqR.u rfl rfl (yl_store (vs := [.int .i64 (0), .int .i64 (0), .slice none 0 0, .slice none 0 0, .string (bs (([] : Str))), .string (bs (([] : Str))), .string (bs (([] : Str)))]) Tryd.ty48 rfl rfl rfl rfl rfl rfl (Box.ex (Box.ex (Box.only (Box.ex (Box.only (Box.ex (Box.ex hB19 hE25) hE33) hO36 (by omega)) hE49) hO54 (by omega)) hE79) hE89) (Nat.le_of_ble_eq_true rfl) ?_))))))
     intro w122 hB123 hO124
     have hB123 : Box w122 b15 48 [.int .i64 (0), .int .i64 (0), .slice none 0 0, .slice none 0 0, .string (bs (([] : Str))), .string (bs (([] : Str))), .string (bs (([] : Str)))] := hB123
     have hO124z := hO124.size
     refine sd rfl (yl_assign rfl rfl (SeqR.done (tn (CW.ret (tr (rr rfl (.cons ⟨_, rfl, run_loadN Tryd.ty48 (cs := [.int .i64 (0), .int .i64 (0), .slice none 0 0, .slice none 0 0, .string (bs (([] : Str))), .string (bs (([] : Str))), .string (bs (([] : Str)))]) rfl (hB123.cells (n := 7) rfl)⟩ (.cons rfl .nil)) ?_))))))
     have hM125 : (i_Table_readStmt p_0 p_1) = (((⟨0, (⟨0, (⟨[]⟩ : DRow), (⟨[]⟩ : DRow)⟩ : DRowAct), ([] : Str), ([] : Str), ([] : Str)⟩ : DStmt), false)) := by simp only [i_Table_readStmt, hb37, hb42, hb80, hb90, cond_true, cond_false, loopE_done, loopE_ret]
     rw [hM125]
     exact ⟨none, 0, w122.heap.size, w122.heap.size, none, 0, w122.heap.size, w122.heap.size, rfl, (OwnL.nil _ _ _ _ _ _), (OwnL.nil _ _ _ _ _ _), ⟨⟨(okL.nil _), (okL.nil _)⟩, (okS.lit rfl), (okS.lit rfl), (okS.lit rfl)⟩, (by omega), (by omega), (by omega), (Below.only (Ex.trans (Ex.trans (Below.only (Ex.trans (Below.only (Ex.trans (Ex.trans (Ex.trans (Ex.trans (Ex.refl w) hE14) hE20) hE25) hE33) hO36 (by omega)) hE49) hO54 (by omega)) hE79) hE89) hO124 (by omega))⟩
   ·refine sz rfl rfl (not_f hb80) (sz rfl rfl (not_f hb80) (sz rfl rfl (not_f hb80) (sz rfl rfl (not_f hb80) (sz rfl rfl (not_f hb80) (sd rfl (yl_pick_t rfl rfl (not_f hb80) rfl (SeqR.done (tn (CW.cond_t rfl rfl ?_)))))))))
    refine CW.seq (CW.region (sd rfl (yl_build (cs := [.int .i64 (0), .int .i64 (0), .slice none 0 0, .slice none 0 0, .string (bs (([] : Str))), .string (bs (([] : Str))), .string (bs (([] : Str)))]) rfl opvs_nil (by kernel_rfl) (SeqR.u rfl rfl (yl_store (vs := [.int .i64 (0), .int .i64 (0), .slice none 0 0, .slice none 0 0, .string (bs (([] : Str))), .string (bs (([] : Str))), .string (bs (([] : Str)))]) Tryd.ty48 rfl rfl rfl rfl rfl rfl (Box.ex (Box.only (Box.ex (Box.only (Box.ex (Box.ex hB19 hE25) hE33) hO36 (by omega)) hE49) hO54 (by omega)) hE79) (Nat.le_of_ble_eq_true rfl) ?_)))))
    intro w142 hB143 hO144
    have hB143 : Box w142 b15 48 [.int .i64 (0), .int .i64 (0), .slice none 0 0, .slice none 0 0, .string (bs (([] : Str))), .string (bs (([] : Str))), .string (bs (([] : Str)))] := hB143
    have hO144z := hO144.size
    refine sd rfl (yl_assign rfl rfl (SeqR.done (tn (CW.ret (tr (rr rfl (.cons ⟨_, rfl, run_loadN Tryd.ty48 (cs := [.int .i64 (0), .int .i64 (0), .slice none 0 0, .slice none 0 0, .string (bs (([] : Str))), .string (bs (([] : Str))), .string (bs (([] : Str)))]) rfl (hB143.cells (n := 7) rfl)⟩ (.cons rfl .nil)) ?_))))))
    have hM145 : (i_Table_readStmt p_0 p_1) = (((⟨0, (⟨0, (⟨[]⟩ : DRow), (⟨[]⟩ : DRow)⟩ : DRowAct), ([] : Str), ([] : Str), ([] : Str)⟩ : DStmt), false)) := by simp only [i_Table_readStmt, hb37, hb42, hb80, cond_true, cond_false, loopE_done, loopE_ret]
    rw [hM145]
    exact ⟨none, 0, w142.heap.size, w142.heap.size, none, 0, w142.heap.size, w142.heap.size, rfl, (OwnL.nil _ _ _ _ _ _), (OwnL.nil _ _ _ _ _ _), ⟨⟨(okL.nil _), (okL.nil _)⟩, (okS.lit rfl), (okS.lit rfl), (okS.lit rfl)⟩, (by omega), (by omega), (by omega), (Below.only (Ex.trans (Below.only (Ex.trans (Below.only (Ex.trans (Ex.trans (Ex.trans (Ex.trans (Ex.refl w) hE14) hE20) hE25) hE33) hO36 (by omega)) hE49) hO54 (by omega)) hE79) hO144 (by omega))⟩
  ·refine CW.cond_f rfl hb42 (CW.seq (CW.region (sd rfl (yl_move rfl rfl (sd rfl (yl_len Tryd.un22 rfl rfl (sd rfl (yl_eql rfl rfl rfl (sd rfl (yl_move rfl rfl (sy rfl rfl hb37 (yl_move rfl rfl (sy rfl rfl hb37 (yl_indexAddrN Tryd.un22 Tryd.ty9 rfl rfl rfl eA41 (by first | omega | assumption | (simp only [IntKind.wrap_i64] at *; omega)) ?_))))))))))))))
   refine sy rfl rfl hb37 (yl_load1 Tryd.ty9 rfl rfl (eC41 0 _ rfl) (sy rfl rfl hb37 (yl_seql (a := ((g_strings_Split p_1 ([32] : Str)).getD 0 d_Str)) (b := ([100, 101, 108, 101, 116, 101] : Str)) rfl rfl rfl (sd rfl (yl_pick_t rfl rfl hb37 rfl (sd rfl (yl_assign rfl rfl (SeqR.done (tn (bcase (((g_strings_Split p_1 ([32] : Str)).getD 0 d_Str) == ([100, 101, 108, 101, 116, 101] : Str)) (fun hb155 => ?_) (fun hb155 => ?_)))))))))))
   ·refine CW.cond_t rfl hb155 (CW.region (sd rfl (yl_move rfl rfl ?_)))
    obtain ⟨eb157, eo157, ec157, eA157, eS157, ebl157, el157, eR157, eC157⟩ := RdS.atD (OwnL.rd good_Str q40) d_Str (i := 2) (by first | omega | assumption)
    obtain rfl := eR157
    have eC157 : Cells w34 eb157 (eo157 + 2 * 1) [.string (bs (((g_strings_Split p_1 ([32] : Str)).getD 2 d_Str)))] := eC157
    refine sd rfl (yl_indexAddrN Tryd.un22 Tryd.ty9 rfl rfl rfl eA157 (by first | omega | assumption | (simp only [IntKind.wrap_i64] at *; omega)) (sd rfl (yl_load1 Tryd.ty9 rfl rfl (eC157 0 _ rfl) (sd rfl (yl_call Tryd.en60 rfl (opvs_cons rfl opvs_nil) (Cal.mono (c_i_rowOf ((g_strings_Split p_1 ([32] : Str)).getD 2 d_Str) (okL.getD ho23 ok_d_Str _)) ?_))))))
    rintro v161 w158 ⟨A159, c159, lo159, hi159, rfl, h159, ho160, hrn163, hE162⟩
    have hE162z := Ex.size hE162
    refine sd rfl (yl_build (cs := [.int .i64 (2), .slice A159 (((i_rowOf ((g_strings_Split p_1 ([32] : Str)).getD 2 d_Str)).Vals).length) c159, .slice none 0 0]) rfl (opvs_cons rfl (opvs_cons rfl opvs_nil)) (by kernel_rfl) (sd rfl (yl_fieldAddr Tryd.fd48_1 rfl rfl (SeqR.u rfl rfl (yl_store (vs := [.int .i64 (2), .slice A159 (((i_rowOf ((g_strings_Split p_1 ([32] : Str)).getD 2 d_Str)).Vals).length) c159, .slice none 0 0]) Tryd.ty46 rfl rfl rfl rfl rfl rfl (Box.ex hB35 hE162) (Nat.le_of_ble_eq_true rfl) ?_)))))
    intro w165 hB166 hO167
    have hB166 : Box w165 b28 48 [.int .i64 (1), .int .i64 (2), .slice A159 (((i_rowOf ((g_strings_Split p_1 ([32] : Str)).getD 2 d_Str)).Vals).length) c159, .slice none 0 0, .string (bs (([] : Str))), .string (bs (([] : Str))), .string (bs (([] : Str)))] := hB166
    have hO167z := hO167.size
    refine SeqR.done (bn (tn (CW.seq (CW.seq (CW.region ?_)))))
    have q173 := Box.only (Box.ex (Box.only (Box.ex (Box.ex (Box.ex hB13 hE20) hE25) hE33) hO36 (by omega)) hE162) hO167 (by omega)
    refine sd rfl (yl_loadN (cs := [.string (bs (p_0.Name)), .slice A1 p_0.Cols.length c1, .slice A2 p_0.Idxs.length c2]) Tryd.ty36 rfl rfl (q173.cells (n := 3) rfl) rfl (sd rfl (yl_loadN (cs := [.int .i64 (1), .int .i64 (2), .slice A159 (((i_rowOf ((g_strings_Split p_1 ([32] : Str)).getD 2 d_Str)).Vals).length) c159, .slice none 0 0, .string (bs (([] : Str))), .string (bs (([] : Str))), .string (bs (([] : Str)))]) Tryd.ty48 rfl rfl (hB166.cells (n := 7) rfl) rfl ?_)))
    have q180 := RdS.only good_Str (RdS.ex good_Str (RdS.only good_Str (RdS.ex good_Str (RdS.ex good_Str (RdS.ex good_Str (RdS.ex good_Str h1 hE14) hE20) hE25) hE33) hO36 (by simp only [Iv]; omega)) hE162) hO167 (by simp only [Iv]; omega)
    have q187 := RdS.only good_Idx (RdS.ex good_Idx (RdS.only good_Idx (RdS.ex good_Idx (RdS.ex good_Idx (RdS.ex good_Idx (RdS.ex good_Idx h2 hE14) hE20) hE25) hE33) hO36 (by simp only [Iv]; omega)) hE162) hO167 (by simp only [Iv]; omega)
    have q189 := OwnL.only good_Str h159 hO167 (by omega)
    refine sd rfl (yl_call Tryd.en61 rfl (opvs_cons rfl (opvs_cons rfl opvs_nil)) (Cal.mono (c_i_Table_isStmt p_0 (⟨1, (⟨2, (i_rowOf ((g_strings_Split p_1 ([32] : Str)).getD 2 d_Str)), (⟨[]⟩ : DRow)⟩ : DRowAct), ([] : Str), ([] : Str), ([] : Str)⟩ : DStmt) (RdS.up q180 good_Str) (RdS.up q187 good_Idx) (RdS.up (OwnL.rd good_Str q189) good_Str) (RdS.nil _ _ _ _ _ _ (by decide)) o3 (⟨⟨ho160, (okL.nil _)⟩, (okS.lit rfl), (okS.lit rfl), (okS.lit rfl)⟩) (by first | omega | assumption | (simp only [IntKind.wrap_i64] at *; omega))) ?_))
    rintro v191 w190 ⟨rfl, hE192⟩
    have hE192z := Ex.size hE192
    refine sd rfl (yl_not rfl rfl (sd rfl (yl_move rfl rfl (bcase (i_Table_isStmt p_0 (⟨1, (⟨2, (i_rowOf ((g_strings_Split p_1 ([32] : Str)).getD 2 d_Str)), (⟨[]⟩ : DRow)⟩ : DRowAct), ([] : Str), ([] : Str), ([] : Str)⟩ : DStmt)) (fun hb193 => ?_) (fun hb193 => ?_)))))
    ·have hb193p := f_isStmt pre0 hb193
     refine sy rfl rfl (not_t hb193) (yl_loadN (cs := [.string (bs (p_0.Name)), .slice A1 p_0.Cols.length c1, .slice A2 p_0.Idxs.length c2]) Tryd.ty36 rfl rfl ((Box.ex q173 hE192).cells (n := 3) rfl) rfl ?_)
     have q195 := Box.ex hB166 hE192
     refine sy rfl rfl (not_t hb193) (yl_loadN (cs := [.int .i64 (1), .int .i64 (2), .slice A159 (((i_rowOf ((g_strings_Split p_1 ([32] : Str)).getD 2 d_Str)).Vals).length) c159, .slice none 0 0, .string (bs (([] : Str))), .string (bs (([] : Str))), .string (bs (([] : Str)))]) Tryd.ty48 rfl rfl (q195.cells (n := 7) rfl) rfl ?_)
     have q199 := OwnL.ex good_Str q189 hE192
     refine sy rfl rfl (not_t hb193) (yl_call Tryd.en62 rfl (opvs_cons rfl (opvs_cons rfl opvs_nil)) (Cal.mono (c_i_Table_stmtText p_0 (⟨1, (⟨2, (i_rowOf ((g_strings_Split p_1 ([32] : Str)).getD 2 d_Str)), (⟨[]⟩ : DRow)⟩ : DRowAct), ([] : Str), ([] : Str), ([] : Str)⟩ : DStmt) (RdS.up (RdS.ex good_Str q180 hE192) good_Str) (RdS.up (RdS.ex good_Idx q187 hE192) good_Idx) (RdS.up (OwnL.rd good_Str q199) good_Str) (RdS.nil _ _ _ _ _ _ (by decide)) o3 (⟨⟨ho160, (okL.nil _)⟩, (okS.lit rfl), (okS.lit rfl), (okS.lit rfl)⟩) (by first | omega | assumption | (simp only [IntKind.wrap_i64] at *; omega))) ?_))
     rintro v201 w200 ⟨rfl, hE202⟩
     have hE202z := Ex.size hE202
     refine sy rfl rfl (not_t hb193) (yl_move rfl rfl (sy rfl rfl (not_t hb193) (yl_sneq (a := (i_Table_stmtText p_0 (⟨1, (⟨2, (i_rowOf ((g_strings_Split p_1 ([32] : Str)).getD 2 d_Str)), (⟨[]⟩ : DRow)⟩ : DRowAct), ([] : Str), ([] : Str), ([] : Str)⟩ : DStmt))) (b := p_1) rfl rfl rfl (sd rfl (yl_pick_f rfl rfl (not_t hb193) rfl (SeqR.done (tn (bcase ((i_Table_stmtText p_0 (⟨1, (⟨2, (i_rowOf ((g_strings_Split p_1 ([32] : Str)).getD 2 d_Str)), (⟨[]⟩ : DRow)⟩ : DRowAct), ([] : Str), ([] : Str), ([] : Str)⟩ : DStmt)) == p_1) (fun hb203 => ?_) (fun hb203 => ?_)))))))))
     ·refine CW.cond_f rfl (not_t hb203) (CW.skip (tn (CW.seq (CW.region (sd rfl (yl_loadN (cs := [.int .i64 (1), .int .i64 (2), .slice A159 (((i_rowOf ((g_strings_Split p_1 ([32] : Str)).getD 2 d_Str)).Vals).length) c159, .slice none 0 0, .string (bs (([] : Str))), .string (bs (([] : Str))), .string (bs (([] : Str)))]) Tryd.ty48 rfl rfl ((Box.ex q195 hE202).cells (n := 7) rfl) rfl (SeqR.u rfl rfl (yl_store (vs := [.int .i64 (1), .int .i64 (2), .slice A159 (((i_rowOf ((g_strings_Split p_1 ([32] : Str)).getD 2 d_Str)).Vals).length) c159, .slice none 0 0, .string (bs (([] : Str))), .string (bs (([] : Str))), .string (bs (([] : Str)))]) Tryd.ty48 rfl rfl rfl rfl rfl rfl (Box.ex (Box.ex (Box.only (Box.ex (Box.only (Box.ex (Box.ex hB19 hE25) hE33) hO36 (by omega)) hE162) hO167 (by omega)) hE192) hE202) (Nat.le_of_ble_eq_true rfl) ?_))))))))
      intro w212 hB213 hO214
      have hB213 : Box w212 b15 48 [.int .i64 (1), .int .i64 (2), .slice A159 (((i_rowOf ((g_strings_Split p_1 ([32] : Str)).getD 2 d_Str)).Vals).length) c159, .slice none 0 0, .string (bs (([] : Str))), .string (bs (([] : Str))), .string (bs (([] : Str)))] := hB213
      have hO214z := hO214.size
      refine sd rfl (yl_assign rfl rfl (SeqR.done (tn (CW.ret (rr rfl (.cons ⟨_, rfl, run_loadN Tryd.ty48 (cs := [.int .i64 (1), .int .i64 (2), .slice A159 (((i_rowOf ((g_strings_Split p_1 ([32] : Str)).getD 2 d_Str)).Vals).length) c159, .slice none 0 0, .string (bs (([] : Str))), .string (bs (([] : Str))), .string (bs (([] : Str)))]) rfl (hB213.cells (n := 7) rfl)⟩ (.cons rfl .nil)) ?_)))))
      have hM215 : (i_Table_readStmt p_0 p_1) = (((⟨1, (⟨2, (i_rowOf ((g_strings_Split p_1 ([32] : Str)).getD 2 d_Str)), (⟨[]⟩ : DRow)⟩ : DRowAct), ([] : Str), ([] : Str), ([] : Str)⟩ : DStmt), true)) := by simp only [i_Table_readStmt, hb37, hb42, hb155, hb193, hb203, cond_true, cond_false, loopE_done, loopE_ret]
      rw [hM215]
      exact ⟨A159, c159, lo159, hi159, none, 0, w212.heap.size, w212.heap.size, rfl, (OwnL.only good_Str (OwnL.ex good_Str q199 hE202) hO214 (by omega)), (OwnL.nil _ _ _ _ _ _), ⟨⟨ho160, (okL.nil _)⟩, (okS.lit rfl), (okS.lit rfl), (okS.lit rfl)⟩, (by omega), (by omega), (by omega), (Below.only (Ex.trans (Ex.trans (Below.only (Ex.trans (Below.only (Ex.trans (Ex.trans (Ex.trans (Ex.trans (Ex.refl w) hE14) hE20) hE25) hE33) hO36 (by omega)) hE162) hO167 (by omega)) hE192) hE202) hO214 (by omega))⟩
     ·refine CW.cond_t rfl (not_f hb203) (CW.seq (CW.region (sd rfl (yl_build (cs := [.int .i64 (0), .int .i64 (0), .slice none 0 0, .slice none 0 0, .string (bs (([] : Str))), .string (bs (([] : Str))), .string (bs (([] : Str)))]) rfl opvs_nil (by kernel_rfl) (SeqR.u rfl rfl (yl_store (vs := [.int .i64 (0), .int .i64 (0), .slice none 0 0, .slice none 0 0, .string (bs (([] : Str))), .string (bs (([] : Str))), .string (bs (([] : Str)))]) Tryd.ty48 rfl rfl rfl rfl rfl rfl (Box.ex (Box.ex (Box.only (Box.ex (Box.only (Box.ex (Box.ex hB19 hE25) hE33) hO36 (by omega)) hE162) hO167 (by omega)) hE192) hE202) (Nat.le_of_ble_eq_true rfl) ?_))))))
      intro w235 hB236 hO237
      have hB236 : Box w235 b15 48 [.int .i64 (0), .int .i64 (0), .slice none 0 0, .slice none 0 0, .string (bs (([] : Str))), .string (bs (([] : Str))), .string (bs (([] : Str)))] := hB236
      have hO237z := hO237.size
      refine sd rfl (yl_assign rfl rfl (SeqR.done (tn (CW.ret (tr (rr rfl (.cons ⟨_, rfl, run_loadN Tryd.ty48 (cs := [.int .i64 (0), .int .i64 (0), .slice none 0 0, .slice none 0 0, .string (bs (([] : Str))), .string (bs (([] : Str))), .string (bs (([] : Str)))]) rfl (hB236.cells (n := 7) rfl)⟩ (.cons rfl .nil)) ?_))))))
      have hM238 : (i_Table_readStmt p_0 p_1) = (((⟨0, (⟨0, (⟨[]⟩ : DRow), (⟨[]⟩ : DRow)⟩ : DRowAct), ([] : Str), ([] : Str), ([] : Str)⟩ : DStmt), false)) := by simp only [i_Table_readStmt, hb37, hb42, hb155, hb193, hb203, cond_true, cond_false, loopE_done, loopE_ret]
      rw [hM238]
      exact ⟨none, 0, w235.heap.size, w235.heap.size, none, 0, w235.heap.size, w235.heap.size, rfl, (OwnL.nil _ _ _ _ _ _), (OwnL.nil _ _ _ _ _ _), ⟨⟨(okL.nil _), (okL.nil _)⟩, (okS.lit rfl), (okS.lit rfl), (okS.lit rfl)⟩, (by omega), (by omega), (by omega), (Below.only (Ex.trans (Ex.trans (Below.only (Ex.trans (Below.only (Ex.trans (Ex.trans (Ex.trans (Ex.trans (Ex.refl w) hE14) hE20) hE25) hE33) hO36 (by omega)) hE162) hO167 (by omega)) hE192) hE202) hO237 (by omega))⟩
    ·refine sz rfl rfl (not_f hb193) (sz rfl rfl (not_f hb193) (sz rfl rfl (not_f hb193) (sz rfl rfl (not_f hb193) (sz rfl rfl (not_f hb193) (sd rfl (yl_pick_t rfl rfl (not_f hb193) rfl (SeqR.done (tn (CW.cond_t rfl rfl ?_)))))))))
     refine CW.seq (CW.region (sd rfl (yl_build (cs := [.int .i64 (0), .int .i64 (0), .slice none 0 0, .slice none 0 0, .string (bs (([] : Str))), .string (bs (([] : Str))), .string (bs (([] : Str)))]) rfl opvs_nil (by kernel_rfl) (SeqR.u rfl rfl (yl_store (vs := [.int .i64 (0), .int .i64 (0), .slice none 0 0, .slice none 0 0, .string (bs (([] : Str))), .string (bs (([] : Str))), .string (bs (([] : Str)))]) Tryd.ty48 rfl rfl rfl rfl rfl rfl (Box.ex (Box.only (Box.ex (Box.only (Box.ex (Box.ex hB19 hE25) hE33) hO36 (by omega)) hE162) hO167 (by omega)) hE192) (Nat.le_of_ble_eq_true rfl) ?_)))))
     intro w255 hB256 hO257
     have hB256 : Box w255 b15 48 [.int .i64 (0), .int .i64 (0), .slice none 0 0, .slice none 0 0, .string (bs (([] : Str))), .string (bs (([] : Str))), .string (bs (([] : Str)))] := hB256
     have hO257z := hO257.size
     refine sd rfl (yl_assign rfl rfl (SeqR.done (tn (CW.ret (tr (rr rfl (.cons ⟨_, rfl, run_loadN Tryd.ty48 (cs := [.int .i64 (0), .int .i64 (0), .slice none 0 0, .slice none 0 0, .string (bs (([] : Str))), .string (bs (([] : Str))), .string (bs (([] : Str)))]) rfl (hB256.cells (n := 7) rfl)⟩ (.cons rfl .nil)) ?_))))))
     have hM258 : (i_Table_readStmt p_0 p_1) = (((⟨0, (⟨0, (⟨[]⟩ : DRow), (⟨[]⟩ : DRow)⟩ : DRowAct), ([] : Str), ([] : Str), ([] : Str)⟩ : DStmt), false)) := by simp only [i_Table_readStmt, hb37, hb42, hb155, hb193, cond_true, cond_false, loopE_done, loopE_ret]
     rw [hM258]
     exact ⟨none, 0, w255.heap.size, w255.heap.size, none, 0, w255.heap.size, w255.heap.size, rfl, (OwnL.nil _ _ _ _ _ _), (OwnL.nil _ _ _ _ _ _), ⟨⟨(okL.nil _), (okL.nil _)⟩, (okS.lit rfl), (okS.lit rfl), (okS.lit rfl)⟩, (by omega), (by omega), (by omega), (Below.only (Ex.trans (Below.only (Ex.trans (Below.only (Ex.trans (Ex.trans (Ex.trans (Ex.trans (Ex.refl w) hE14) hE20) hE25) hE33) hO36 (by omega)) hE162) hO167 (by omega)) hE192) hO257 (by omega))⟩
   ·refine CW.cond_f rfl hb155 (CW.seq (CW.region (sd rfl (yl_move rfl rfl (sd rfl (yl_len Tryd.un22 rfl rfl (sd rfl (yl_eql rfl rfl rfl (sd rfl (yl_move rfl rfl (bcase (decide (((g_strings_Split p_1 ([32] : Str)).length : Int) = 5)) (fun hb268 => ?_) (fun hb268 => ?_))))))))))))
    ·have hb268p := dec_t hb268
     refine sy rfl rfl hb268 (yl_move rfl rfl (sy rfl rfl hb268 (yl_indexAddrN Tryd.un22 Tryd.ty9 rfl rfl rfl eA41 (by first | omega | assumption | (simp only [IntKind.wrap_i64] at *; omega)) (sy rfl rfl hb268 (yl_load1 Tryd.ty9 rfl rfl (eC41 0 _ rfl) (sy rfl rfl hb268 (yl_seql (a := ((g_strings_Split p_1 ([32] : Str)).getD 0 d_Str)) (b := ([117, 112, 100, 97, 116, 101] : Str)) rfl rfl rfl (sd rfl (yl_pick_t rfl rfl hb268 rfl (sd rfl (yl_assign rfl rfl (SeqR.done (tn (bcase (((g_strings_Split p_1 ([32] : Str)).getD 0 d_Str) == ([117, 112, 100, 97, 116, 101] : Str)) (fun hb269 => ?_) (fun hb269 => ?_)))))))))))))))
     ·refine CW.cond_t rfl hb269 ?_
      obtain ⟨eb271, eo271, ec271, eA271, eS271, ebl271, el271, eR271, eC271⟩ := RdS.atD (OwnL.rd good_Str q40) d_Str (i := 2) (by first | omega | assumption)
      obtain rfl := eR271
      have eC271 : Cells w34 eb271 (eo271 + 2 * 1) [.string (bs (((g_strings_Split p_1 ([32] : Str)).getD 2 d_Str)))] := eC271
      obtain ⟨eb276, eo276, ec276, eA276, eS276, ebl276, el276, eR276, eC276⟩ := RdS.atD (OwnL.rd good_Str q40) d_Str (i := 4) (by first | omega | assumption)
      obtain rfl := eR276
      have eC276 : Cells w34 eb276 (eo276 + 4 * 1) [.string (bs (((g_strings_Split p_1 ([32] : Str)).getD 4 d_Str)))] := eC276
      refine CW.drawsI 7 (vgetI [DetI (.slice A22 ((g_strings_Split p_1 ([32] : Str)).length) c22), DetI (.pointer (some ⟨eb271, eo271 + 2 * 1, none⟩)), DetI (.string (bs (((g_strings_Split p_1 ([32] : Str)).getD 2 d_Str)))), fun lo hi v wq => ∃ A273 c273 lo273 hi273, v = .agg #[.slice A273 (((i_rowOf ((g_strings_Split p_1 ([32] : Str)).getD 2 d_Str)).Vals).length) c273] ∧ OwnL wq lo273 hi273 9 1 (RF e_Str) A273 (((i_rowOf ((g_strings_Split p_1 ([32] : Str)).getD 2 d_Str)).Vals).length) c273 ((i_rowOf ((g_strings_Split p_1 ([32] : Str)).getD 2 d_Str)).Vals) ∧ ok_Row (i_rowOf ((g_strings_Split p_1 ([32] : Str)).getD 2 d_Str)) ∧ (lo ≤ lo273 ∧ lo273 ≤ hi273 ∧ hi273 ≤ hi), DetI (.slice A22 ((g_strings_Split p_1 ([32] : Str)).length) c22), DetI (.pointer (some ⟨eb276, eo276 + 4 * 1, none⟩)), DetI (.string (bs (((g_strings_Split p_1 ([32] : Str)).getD 4 d_Str))))]) Tryd.follows rfl rfl rfl rfl rfl rfl (vgetI_stable ⟨StableI.det _, StableI.det _, StableI.det _, (fun _ _ _ _ _ ⟨A273, c273, lo273, hi273, hv, h273, ho274, hr0⟩ e => ⟨A273, c273, lo273, hi273, hv, OwnL.ex good_Str h273 e, ho274, hr0⟩), StableI.det _, StableI.det _, StableI.det _, trivial⟩) ⟨?_, ?_, ?_, ?_, ?_, ?_, ?_, trivial⟩ ?_
      ·exact fun _ _ h => os rfl ((yl_move rfl (h.old 6 _ rfl rfl) kI))
      ·intro L282 w283 hi284
       have hE285 := hi284.ex
       have hE285z := Ex.size hE285
       exact os rfl ((yl_indexAddrN Tryd.un22 Tryd.ty9 rfl (hi284.dt 0 53 rfl rfl rfl) rfl eA271 (by first | omega | assumption | (simp only [IntKind.wrap_i64] at *; omega)) kI))
      ·exact fun _ _ h => os rfl ((yl_load1 Tryd.ty9 rfl (h.dt 1 54 rfl rfl rfl) ((Cells.ex eC271 h.ex) 0 _ rfl) kI))
      ·intro L293 w294 hi295
       refine OpR.op' rfl (yl_call Tryd.en60 rfl (opvs_cons (hi295.dt 2 55 rfl rfl rfl) opvs_nil) (Cal.mono (c_i_rowOf ((g_strings_Split p_1 ([32] : Str)).getD 2 d_Str) (okL.getD ho23 ok_d_Str _)) ?_))
       rintro v301 w298 ⟨A299, c299, lo299, hi299, rfl, h299, ho300, hrn303, hE302⟩
       exact ⟨⟨A299, c299, lo299, hi299, rfl, h299, ho300, hrn303⟩, hE302⟩
      ·exact fun _ _ h => os rfl ((yl_move rfl (h.old 6 _ rfl rfl) kI))
      ·intro L309 w310 hi311
       have hE312 := hi311.ex
       have hE312z := Ex.size hE312
       exact os rfl ((yl_indexAddrN Tryd.un22 Tryd.ty9 rfl (hi311.dt 4 57 rfl rfl rfl) rfl eA276 (by first | omega | assumption | (simp only [IntKind.wrap_i64] at *; omega)) kI))
      ·exact fun _ _ h => os rfl ((yl_load1 Tryd.ty9 rfl (h.dt 5 58 rfl rfl rfl) ((Cells.ex eC276 h.ex) 0 _ rfl) kI))
      ·intro fl323 fh324 L320 w321 hp322
       have hE325 := hp322.ex
       have hE325z := Ex.size hE325
       have hx329 := hp322.old 7 _ rfl rfl
       have hr331 := hp322.rng 3 rfl
       obtain ⟨_, hx330, A273_332, c273_333, lo273_334, hi273_335, rfl, h336, h337, hrn338⟩ := hp322.new 3 56 rfl rfl
       refine sd rfl (yl_call Tryd.en60 rfl (opvs_cons (hp322.nt 6 59 rfl rfl rfl) opvs_nil) (Cal.mono (c_i_rowOf ((g_strings_Split p_1 ([32] : Str)).getD 4 d_Str) (okL.getD ho23 ok_d_Str _)) ?_))
       rintro v343 w340 ⟨A341, c341, lo341, hi341, rfl, h341, ho342, hrn345, hE344⟩
       have hE344z := Ex.size hE344
       refine sd rfl (yl_build (cs := [.int .i64 (3), .slice A273_332 (((i_rowOf ((g_strings_Split p_1 ([32] : Str)).getD 2 d_Str)).Vals).length) c273_333, .slice A341 (((i_rowOf ((g_strings_Split p_1 ([32] : Str)).getD 4 d_Str)).Vals).length) c341]) rfl (opvs_cons rfl (opvs_cons hx330 (opvs_cons rfl opvs_nil))) (by kernel_rfl) (sd rfl (yl_fieldAddr Tryd.fd48_1 rfl hx329 (SeqR.u rfl rfl (yl_store (vs := [.int .i64 (3), .slice A273_332 (((i_rowOf ((g_strings_Split p_1 ([32] : Str)).getD 2 d_Str)).Vals).length) c273_333, .slice A341 (((i_rowOf ((g_strings_Split p_1 ([32] : Str)).getD 4 d_Str)).Vals).length) c341]) Tryd.ty46 rfl rfl rfl rfl rfl rfl (Box.ex (Box.ex hB35 hE325) hE344) (Nat.le_of_ble_eq_true rfl) ?_)))))
       intro w348 hB349 hO350
       have hB349 : Box w348 b28 48 [.int .i64 (1), .int .i64 (3), .slice A273_332 (((i_rowOf ((g_strings_Split p_1 ([32] : Str)).getD 2 d_Str)).Vals).length) c273_333, .slice A341 (((i_rowOf ((g_strings_Split p_1 ([32] : Str)).getD 4 d_Str)).Vals).length) c341, .string (bs (([] : Str))), .string (bs (([] : Str))), .string (bs (([] : Str)))] := hB349
       have hO350z := hO350.size
       refine SeqR.done (bn (tn (CW.sub (Sub.cons (d := 1) (hp322.old 1 _ rfl rfl) (Sub.cons (d := 2) (hp322.old 2 _ rfl rfl) (Sub.cons (d := 4) (hp322.old 4 _ rfl rfl) (Sub.cons (d := 7) hx329 (Sub.nil _))))) (CW.seq (CW.seq (CW.region ?_))))))
       have q357 := Box.only (Box.ex (Box.ex (Box.only (Box.ex (Box.ex (Box.ex hB13 hE20) hE25) hE33) hO36 (by omega)) hE325) hE344) hO350 (by omega)
       refine sd rfl (yl_loadN (cs := [.string (bs (p_0.Name)), .slice A1 p_0.Cols.length c1, .slice A2 p_0.Idxs.length c2]) Tryd.ty36 rfl rfl (q357.cells (n := 3) rfl) rfl (sd rfl (yl_loadN (cs := [.int .i64 (1), .int .i64 (3), .slice A273_332 (((i_rowOf ((g_strings_Split p_1 ([32] : Str)).getD 2 d_Str)).Vals).length) c273_333, .slice A341 (((i_rowOf ((g_strings_Split p_1 ([32] : Str)).getD 4 d_Str)).Vals).length) c341, .string (bs (([] : Str))), .string (bs (([] : Str))), .string (bs (([] : Str)))]) Tryd.ty48 rfl rfl (hB349.cells (n := 7) rfl) rfl ?_)))
       have q365 := RdS.only good_Str (RdS.ex good_Str (RdS.ex good_Str (RdS.only good_Str (RdS.ex good_Str (RdS.ex good_Str (RdS.ex good_Str (RdS.ex good_Str h1 hE14) hE20) hE25) hE33) hO36 (by simp only [Iv]; omega)) hE325) hE344) hO350 (by simp only [Iv]; omega)
       have q373 := RdS.only good_Idx (RdS.ex good_Idx (RdS.ex good_Idx (RdS.only good_Idx (RdS.ex good_Idx (RdS.ex good_Idx (RdS.ex good_Idx (RdS.ex good_Idx h2 hE14) hE20) hE25) hE33) hO36 (by simp only [Iv]; omega)) hE325) hE344) hO350 (by simp only [Iv]; omega)
       have q376 := OwnL.only good_Str (OwnL.ex good_Str h336 hE344) hO350 (by omega)
       have q378 := OwnL.only good_Str h341 hO350 (by omega)
       refine sd rfl (yl_call Tryd.en61 rfl (opvs_cons rfl (opvs_cons rfl opvs_nil)) (Cal.mono (c_i_Table_isStmt p_0 (⟨1, (⟨3, (i_rowOf ((g_strings_Split p_1 ([32] : Str)).getD 2 d_Str)), (i_rowOf ((g_strings_Split p_1 ([32] : Str)).getD 4 d_Str))⟩ : DRowAct), ([] : Str), ([] : Str), ([] : Str)⟩ : DStmt) (RdS.up q365 good_Str) (RdS.up q373 good_Idx) (RdS.up (OwnL.rd good_Str q376) good_Str) (RdS.up (OwnL.rd good_Str q378) good_Str) o3 (⟨⟨h337, ho342⟩, (okS.lit rfl), (okS.lit rfl), (okS.lit rfl)⟩) (by first | omega | assumption | (simp only [IntKind.wrap_i64] at *; omega))) ?_))
       rintro v380 w379 ⟨rfl, hE381⟩
       have hE381z := Ex.size hE381
       refine sd rfl (yl_not rfl rfl (sd rfl (yl_move rfl rfl (bcase (i_Table_isStmt p_0 (⟨1, (⟨3, (i_rowOf ((g_strings_Split p_1 ([32] : Str)).getD 2 d_Str)), (i_rowOf ((g_strings_Split p_1 ([32] : Str)).getD 4 d_Str))⟩ : DRowAct), ([] : Str), ([] : Str), ([] : Str)⟩ : DStmt)) (fun hb382 => ?_) (fun hb382 => ?_)))))
       ·have hb382p := f_isStmt pre0 hb382
        refine sy rfl rfl (not_t hb382) (yl_loadN (cs := [.string (bs (p_0.Name)), .slice A1 p_0.Cols.length c1, .slice A2 p_0.Idxs.length c2]) Tryd.ty36 rfl rfl ((Box.ex q357 hE381).cells (n := 3) rfl) rfl ?_)
        have q384 := Box.ex hB349 hE381
        refine sy rfl rfl (not_t hb382) (yl_loadN (cs := [.int .i64 (1), .int .i64 (3), .slice A273_332 (((i_rowOf ((g_strings_Split p_1 ([32] : Str)).getD 2 d_Str)).Vals).length) c273_333, .slice A341 (((i_rowOf ((g_strings_Split p_1 ([32] : Str)).getD 4 d_Str)).Vals).length) c341, .string (bs (([] : Str))), .string (bs (([] : Str))), .string (bs (([] : Str)))]) Tryd.ty48 rfl rfl (q384.cells (n := 7) rfl) rfl ?_)
        have q388 := OwnL.ex good_Str q376 hE381
        have q390 := OwnL.ex good_Str q378 hE381
        refine sy rfl rfl (not_t hb382) (yl_call Tryd.en62 rfl (opvs_cons rfl (opvs_cons rfl opvs_nil)) (Cal.mono (c_i_Table_stmtText p_0 (⟨1, (⟨3, (i_rowOf ((g_strings_Split p_1 ([32] : Str)).getD 2 d_Str)), (i_rowOf ((g_strings_Split p_1 ([32] : Str)).getD 4 d_Str))⟩ : DRowAct), ([] : Str), ([] : Str), ([] : Str)⟩ : DStmt) (RdS.up (RdS.ex good_Str q365 hE381) good_Str) (RdS.up (RdS.ex good_Idx q373 hE381) good_Idx) (RdS.up (OwnL.rd good_Str q388) good_Str) (RdS.up (OwnL.rd good_Str q390) good_Str) o3 (⟨⟨h337, ho342⟩, (okS.lit rfl), (okS.lit rfl), (okS.lit rfl)⟩) (by first | omega | assumption | (simp only [IntKind.wrap_i64] at *; omega))) ?_))
        rintro v392 w391 ⟨rfl, hE393⟩
        have hE393z := Ex.size hE393
        refine sy rfl rfl (not_t hb382) (yl_move rfl rfl (sy rfl rfl (not_t hb382) (yl_sneq (a := (i_Table_stmtText p_0 (⟨1, (⟨3, (i_rowOf ((g_strings_Split p_1 ([32] : Str)).getD 2 d_Str)), (i_rowOf ((g_strings_Split p_1 ([32] : Str)).getD 4 d_Str))⟩ : DRowAct), ([] : Str), ([] : Str), ([] : Str)⟩ : DStmt))) (b := p_1) rfl rfl rfl (sd rfl (yl_pick_f rfl rfl (not_t hb382) rfl (SeqR.done (tn (bcase ((i_Table_stmtText p_0 (⟨1, (⟨3, (i_rowOf ((g_strings_Split p_1 ([32] : Str)).getD 2 d_Str)), (i_rowOf ((g_strings_Split p_1 ([32] : Str)).getD 4 d_Str))⟩ : DRowAct), ([] : Str), ([] : Str), ([] : Str)⟩ : DStmt)) == p_1) (fun hb394 => ?_) (fun hb394 => ?_)))))))))
        ·refine CW.cond_f rfl (not_t hb394) (CW.skip (tn (CW.seq (CW.region (sd rfl (yl_loadN (cs := [.int .i64 (1), .int .i64 (3), .slice A273_332 (((i_rowOf ((g_strings_Split p_1 ([32] : Str)).getD 2 d_Str)).Vals).length) c273_333, .slice A341 (((i_rowOf ((g_strings_Split p_1 ([32] : Str)).getD 4 d_Str)).Vals).length) c341, .string (bs (([] : Str))), .string (bs (([] : Str))), .string (bs (([] : Str)))]) Tryd.ty48 rfl rfl ((Box.ex q384 hE393).cells (n := 7) rfl) rfl (SeqR.u rfl rfl (yl_store (vs := [.int .i64 (1), .int .i64 (3), .slice A273_332 (((i_rowOf ((g_strings_Split p_1 ([32] : Str)).getD 2 d_Str)).Vals).length) c273_333, .slice A341 (((i_rowOf ((g_strings_Split p_1 ([32] : Str)).getD 4 d_Str)).Vals).length) c341, .string (bs (([] : Str))), .string (bs (([] : Str))), .string (bs (([] : Str)))]) Tryd.ty48 rfl rfl rfl rfl rfl rfl (Box.ex (Box.ex (Box.only (Box.ex (Box.ex (Box.only (Box.ex (Box.ex hB19 hE25) hE33) hO36 (by omega)) hE325) hE344) hO350 (by omega)) hE381) hE393) (Nat.le_of_ble_eq_true rfl) ?_))))))))
         intro w404 hB405 hO406
         have hB405 : Box w404 b15 48 [.int .i64 (1), .int .i64 (3), .slice A273_332 (((i_rowOf ((g_strings_Split p_1 ([32] : Str)).getD 2 d_Str)).Vals).length) c273_333, .slice A341 (((i_rowOf ((g_strings_Split p_1 ([32] : Str)).getD 4 d_Str)).Vals).length) c341, .string (bs (([] : Str))), .string (bs (([] : Str))), .string (bs (([] : Str)))] := hB405
         have hO406z := hO406.size
         refine sd rfl (yl_assign rfl rfl (SeqR.done (tn (CW.ret (rr rfl (.cons ⟨_, rfl, run_loadN Tryd.ty48 (cs := [.int .i64 (1), .int .i64 (3), .slice A273_332 (((i_rowOf ((g_strings_Split p_1 ([32] : Str)).getD 2 d_Str)).Vals).length) c273_333, .slice A341 (((i_rowOf ((g_strings_Split p_1 ([32] : Str)).getD 4 d_Str)).Vals).length) c341, .string (bs (([] : Str))), .string (bs (([] : Str))), .string (bs (([] : Str)))]) rfl (hB405.cells (n := 7) rfl)⟩ (.cons rfl .nil)) ?_)))))
         have hM407 : (i_Table_readStmt p_0 p_1) = (((⟨1, (⟨3, (i_rowOf ((g_strings_Split p_1 ([32] : Str)).getD 2 d_Str)), (i_rowOf ((g_strings_Split p_1 ([32] : Str)).getD 4 d_Str))⟩ : DRowAct), ([] : Str), ([] : Str), ([] : Str)⟩ : DStmt), true)) := by simp only [i_Table_readStmt, hb37, hb42, hb155, hb268, hb269, hb382, hb394, cond_true, cond_false, loopE_done, loopE_ret]
         rw [hM407]
         exact ⟨A273_332, c273_333, lo273_334, hi273_335, A341, c341, lo341, hi341, rfl, (OwnL.only good_Str (OwnL.ex good_Str q388 hE393) hO406 (by omega)), (OwnL.only good_Str (OwnL.ex good_Str q390 hE393) hO406 (by omega)), ⟨⟨h337, ho342⟩, (okS.lit rfl), (okS.lit rfl), (okS.lit rfl)⟩, (by omega), (by omega), (by omega), (Below.only (Ex.trans (Ex.trans (Below.only (Ex.trans (Ex.trans (Below.only (Ex.trans (Ex.trans (Ex.trans (Ex.trans (Ex.refl w) hE14) hE20) hE25) hE33) hO36 (by omega)) hE325) hE344) hO350 (by omega)) hE381) hE393) hO406 (by omega))⟩
        ·refine CW.cond_t rfl (not_f hb394) (CW.seq (CW.region (sd rfl (yl_build (cs := [.int .i64 (0), .int .i64 (0), .slice none 0 0, .slice none 0 0, .string (bs (([] : Str))), .string (bs (([] : Str))), .string (bs (([] : Str)))]) rfl opvs_nil (by kernel_rfl) (SeqR.u rfl rfl (yl_store (vs := [.int .i64 (0), .int .i64 (0), .slice none 0 0, .slice none 0 0, .string (bs (([] : Str))), .string (bs (([] : Str))), .string (bs (([] : Str)))]) Tryd.ty48 rfl rfl rfl rfl rfl rfl (Box.ex (Box.ex (Box.only (Box.ex (Box.ex (Box.only (Box.ex (Box.ex hB19 hE25) hE33) hO36 (by omega)) hE325) hE344) hO350 (by omega)) hE381) hE393) (Nat.le_of_ble_eq_true rfl) ?_))))))
         intro w431 hB432 hO433
         have hB432 : Box w431 b15 48 [.int .i64 (0), .int .i64 (0), .slice none 0 0, .slice none 0 0, .string (bs (([] : Str))), .string (bs (([] : Str))), .string (bs (([] : Str)))] := hB432
         have hO433z := hO433.size
         refine sd rfl (yl_assign rfl rfl (SeqR.done (tn (CW.ret (tr (rr rfl (.cons ⟨_, rfl, run_loadN Tryd.ty48 (cs := [.int .i64 (0), .int .i64 (0), .slice none 0 0, .slice none 0 0, .string (bs (([] : Str))), .string (bs (([] : Str))), .string (bs (([] : Str)))]) rfl (hB432.cells (n := 7) rfl)⟩ (.cons rfl .nil)) ?_))))))
         have hM434 : (i_Table_readStmt p_0 p_1) = (((⟨0, (⟨0, (⟨[]⟩ : DRow), (⟨[]⟩ : DRow)⟩ : DRowAct), ([] : Str), ([] : Str), ([] : Str)⟩ : DStmt), false)) := by simp only [i_Table_readStmt, hb37, hb42, hb155, hb268, hb269, hb382, hb394, cond_true, cond_false, loopE_done, loopE_ret]
         rw [hM434]
         exact ⟨none, 0, w431.heap.size, w431.heap.size, none, 0, w431.heap.size, w431.heap.size, rfl, (OwnL.nil _ _ _ _ _ _), (OwnL.nil _ _ _ _ _ _), ⟨⟨(okL.nil _), (okL.nil _)⟩, (okS.lit rfl), (okS.lit rfl), (okS.lit rfl)⟩, (by omega), (by omega), (by omega), (Below.only (Ex.trans (Ex.trans (Below.only (Ex.trans (Ex.trans (Below.only (Ex.trans (Ex.trans (Ex.trans (Ex.trans (Ex.refl w) hE14) hE20) hE25) hE33) hO36 (by omega)) hE325) hE344) hO350 (by omega)) hE381) hE393) hO433 (by omega))⟩
       ·refine sz rfl rfl (not_f hb382) (sz rfl rfl (not_f hb382) (sz rfl rfl (not_f hb382) (sz rfl rfl (not_f hb382) (sz rfl rfl (not_f hb382) (sd rfl (yl_pick_t rfl rfl (not_f hb382) rfl (SeqR.done (tn (CW.cond_t rfl rfl ?_)))))))))
        refine CW.seq (CW.region (sd rfl (yl_build (cs := [.int .i64 (0), .int .i64 (0), .slice none 0 0, .slice none 0 0, .string (bs (([] : Str))), .string (bs (([] : Str))), .string (bs (([] : Str)))]) rfl opvs_nil (by kernel_rfl) (SeqR.u rfl rfl (yl_store (vs := [.int .i64 (0), .int .i64 (0), .slice none 0 0, .slice none 0 0, .string (bs (([] : Str))), .string (bs (([] : Str))), .string (bs (([] : Str)))]) Tryd.ty48 rfl rfl rfl rfl rfl rfl (Box.ex (Box.only (Box.ex (Box.ex (Box.only (Box.ex (Box.ex hB19 hE25) hE33) hO36 (by omega)) hE325) hE344) hO350 (by omega)) hE381) (Nat.le_of_ble_eq_true rfl) ?_)))))
        intro w453 hB454 hO455
        have hB454 : Box w453 b15 48 [.int .i64 (0), .int .i64 (0), .slice none 0 0, .slice none 0 0, .string (bs (([] : Str))), .string (bs (([] : Str))), .string (bs (([] : Str)))] := hB454
        have hO455z := hO455.size
        refine sd rfl (yl_assign rfl rfl (SeqR.done (tn (CW.ret (tr (rr rfl (.cons ⟨_, rfl, run_loadN Tryd.ty48 (cs := [.int .i64 (0), .int .i64 (0), .slice none 0 0, .slice none 0 0, .string (bs (([] : Str))), .string (bs (([] : Str))), .string (bs (([] : Str)))]) rfl (hB454.cells (n := 7) rfl)⟩ (.cons rfl .nil)) ?_))))))
        have hM456 : (i_Table_readStmt p_0 p_1) = (((⟨0, (⟨0, (⟨[]⟩ : DRow), (⟨[]⟩ : DRow)⟩ : DRowAct), ([] : Str), ([] : Str), ([] : Str)⟩ : DStmt), false)) := by simp only [i_Table_readStmt, hb37, hb42, hb155, hb268, hb269, hb382, cond_true, cond_false, loopE_done, loopE_ret]
        rw [hM456]
        exact ⟨none, 0, w453.heap.size, w453.heap.size, none, 0, w453.heap.size, w453.heap.size, rfl, (OwnL.nil _ _ _ _ _ _), (OwnL.nil _ _ _ _ _ _), ⟨⟨(okL.nil _), (okL.nil _)⟩, (okS.lit rfl), (okS.lit rfl), (okS.lit rfl)⟩, (by omega), (by omega), (by omega), (Below.only (Ex.trans (Below.only (Ex.trans (Ex.trans (Below.only (Ex.trans (Ex.trans (Ex.trans (Ex.trans (Ex.refl w) hE14) hE20) hE25) hE33) hO36 (by omega)) hE325) hE344) hO350 (by omega)) hE381) hO455 (by omega))⟩
     ·refine CW.cond_f rfl hb269 (CW.seq (CW.region (sd rfl (yl_move rfl rfl (sd rfl (yl_len Tryd.un22 rfl rfl (sd rfl (yl_eql rfl rfl rfl (sd rfl (yl_assign rfl rfl (SeqR.done (tn ?_))))))))))))
      refine CW.cond_t rfl hb37 (CW.region (sd rfl (yl_move rfl rfl ?_)))
      obtain ⟨eb468, eo468, ec468, eA468, eS468, ebl468, el468, eR468, eC468⟩ := RdS.atD (OwnL.rd good_Str q40) d_Str (i := 2) (by first | omega | assumption)
      obtain rfl := eR468
      have eC468 : Cells w34 eb468 (eo468 + 2 * 1) [.string (bs (((g_strings_Split p_1 ([32] : Str)).getD 2 d_Str)))] := eC468
      refine sd rfl (yl_indexAddrN Tryd.un22 Tryd.ty9 rfl rfl rfl eA468 (by first | omega | assumption | (simp only [IntKind.wrap_i64] at *; omega)) (sd rfl (yl_load1 Tryd.ty9 rfl rfl (eC468 0 _ rfl) (sd rfl (yl_build (cs := [.int .i64 (2), .int .i64 (0), .slice none 0 0, .slice none 0 0, .string (bs (([] : Str))), .string (bs (((g_strings_Split p_1 ([32] : Str)).getD 2 d_Str))), .string (bs (([] : Str)))]) rfl (opvs_cons rfl (opvs_cons rfl opvs_nil)) (by kernel_rfl) (SeqR.u rfl rfl (yl_store (vs := [.int .i64 (2), .int .i64 (0), .slice none 0 0, .slice none 0 0, .string (bs (([] : Str))), .string (bs (((g_strings_Split p_1 ([32] : Str)).getD 2 d_Str))), .string (bs (([] : Str)))]) Tryd.ty48 rfl rfl rfl rfl rfl rfl hB35 (Nat.le_of_ble_eq_true rfl) ?_)))))))
      intro w469 hB470 hO471
      have hB470 : Box w469 b28 48 [.int .i64 (2), .int .i64 (0), .slice none 0 0, .slice none 0 0, .string (bs (([] : Str))), .string (bs (((g_strings_Split p_1 ([32] : Str)).getD 2 d_Str))), .string (bs (([] : Str)))] := hB470
      have hO471z := hO471.size
      refine SeqR.done (bn (tn (CW.seq (CW.seq (CW.region ?_)))))
      have q476 := Box.only (Box.only (Box.ex (Box.ex (Box.ex hB13 hE20) hE25) hE33) hO36 (by omega)) hO471 (by omega)
      refine sd rfl (yl_loadN (cs := [.string (bs (p_0.Name)), .slice A1 p_0.Cols.length c1, .slice A2 p_0.Idxs.length c2]) Tryd.ty36 rfl rfl (q476.cells (n := 3) rfl) rfl (sd rfl (yl_loadN (cs := [.int .i64 (2), .int .i64 (0), .slice none 0 0, .slice none 0 0, .string (bs (([] : Str))), .string (bs (((g_strings_Split p_1 ([32] : Str)).getD 2 d_Str))), .string (bs (([] : Str)))]) Tryd.ty48 rfl rfl (hB470.cells (n := 7) rfl) rfl ?_)))
      have q482 := RdS.only good_Str (RdS.only good_Str (RdS.ex good_Str (RdS.ex good_Str (RdS.ex good_Str (RdS.ex good_Str h1 hE14) hE20) hE25) hE33) hO36 (by simp only [Iv]; omega)) hO471 (by simp only [Iv]; omega)
      have q488 := RdS.only good_Idx (RdS.only good_Idx (RdS.ex good_Idx (RdS.ex good_Idx (RdS.ex good_Idx (RdS.ex good_Idx h2 hE14) hE20) hE25) hE33) hO36 (by simp only [Iv]; omega)) hO471 (by simp only [Iv]; omega)
      refine sd rfl (yl_call Tryd.en61 rfl (opvs_cons rfl (opvs_cons rfl opvs_nil)) (Cal.mono (c_i_Table_isStmt p_0 (⟨2, (⟨0, (⟨[]⟩ : DRow), (⟨[]⟩ : DRow)⟩ : DRowAct), ([] : Str), ((g_strings_Split p_1 ([32] : Str)).getD 2 d_Str), ([] : Str)⟩ : DStmt) (RdS.up q482 good_Str) (RdS.up q488 good_Idx) (RdS.nil _ _ _ _ _ _ (by decide)) (RdS.nil _ _ _ _ _ _ (by decide)) o3 (⟨⟨(okL.nil _), (okL.nil _)⟩, (okS.lit rfl), (okL.getD ho23 ok_d_Str _), (okS.lit rfl)⟩) (by first | omega | assumption | (simp only [IntKind.wrap_i64] at *; omega))) ?_))
      rintro v490 w489 ⟨rfl, hE491⟩
      have hE491z := Ex.size hE491
      refine sd rfl (yl_not rfl rfl (sd rfl (yl_move rfl rfl (bcase (i_Table_isStmt p_0 (⟨2, (⟨0, (⟨[]⟩ : DRow), (⟨[]⟩ : DRow)⟩ : DRowAct), ([] : Str), ((g_strings_Split p_1 ([32] : Str)).getD 2 d_Str), ([] : Str)⟩ : DStmt)) (fun hb492 => ?_) (fun hb492 => ?_)))))
      ·have hb492p := f_isStmt pre0 hb492
       refine sy rfl rfl (not_t hb492) (yl_loadN (cs := [.string (bs (p_0.Name)), .slice A1 p_0.Cols.length c1, .slice A2 p_0.Idxs.length c2]) Tryd.ty36 rfl rfl ((Box.ex q476 hE491).cells (n := 3) rfl) rfl ?_)
       have q494 := Box.ex hB470 hE491
       refine sy rfl rfl (not_t hb492) (yl_loadN (cs := [.int .i64 (2), .int .i64 (0), .slice none 0 0, .slice none 0 0, .string (bs (([] : Str))), .string (bs (((g_strings_Split p_1 ([32] : Str)).getD 2 d_Str))), .string (bs (([] : Str)))]) Tryd.ty48 rfl rfl (q494.cells (n := 7) rfl) rfl (sy rfl rfl (not_t hb492) (yl_call Tryd.en62 rfl (opvs_cons rfl (opvs_cons rfl opvs_nil)) (Cal.mono (c_i_Table_stmtText p_0 (⟨2, (⟨0, (⟨[]⟩ : DRow), (⟨[]⟩ : DRow)⟩ : DRowAct), ([] : Str), ((g_strings_Split p_1 ([32] : Str)).getD 2 d_Str), ([] : Str)⟩ : DStmt) (RdS.up (RdS.ex good_Str q482 hE491) good_Str) (RdS.up (RdS.ex good_Idx q488 hE491) good_Idx) (RdS.nil _ _ _ _ _ _ (by decide)) (RdS.nil _ _ _ _ _ _ (by decide)) o3 (⟨⟨(okL.nil _), (okL.nil _)⟩, (okS.lit rfl), (okL.getD ho23 ok_d_Str _), (okS.lit rfl)⟩) (by first | omega | assumption | (simp only [IntKind.wrap_i64] at *; omega))) ?_))))
       rintro v498 w497 ⟨rfl, hE499⟩
       have hE499z := Ex.size hE499
       refine sy rfl rfl (not_t hb492) (yl_move rfl rfl (sy rfl rfl (not_t hb492) (yl_sneq (a := (i_Table_stmtText p_0 (⟨2, (⟨0, (⟨[]⟩ : DRow), (⟨[]⟩ : DRow)⟩ : DRowAct), ([] : Str), ((g_strings_Split p_1 ([32] : Str)).getD 2 d_Str), ([] : Str)⟩ : DStmt))) (b := p_1) rfl rfl rfl (sd rfl (yl_pick_f rfl rfl (not_t hb492) rfl (SeqR.done (tn (bcase ((i_Table_stmtText p_0 (⟨2, (⟨0, (⟨[]⟩ : DRow), (⟨[]⟩ : DRow)⟩ : DRowAct), ([] : Str), ((g_strings_Split p_1 ([32] : Str)).getD 2 d_Str), ([] : Str)⟩ : DStmt)) == p_1) (fun hb500 => ?_) (fun hb500 => ?_)))))))))
       ·refine CW.cond_f rfl (not_t hb500) (CW.skip (tn (CW.seq (CW.region (sd rfl (yl_loadN (cs := [.int .i64 (2), .int .i64 (0), .slice none 0 0, .slice none 0 0, .string (bs (([] : Str))), .string (bs (((g_strings_Split p_1 ([32] : Str)).getD 2 d_Str))), .string (bs (([] : Str)))]) Tryd.ty48 rfl rfl ((Box.ex q494 hE499).cells (n := 7) rfl) rfl (SeqR.u rfl rfl (yl_store (vs := [.int .i64 (2), .int .i64 (0), .slice none 0 0, .slice none 0 0, .string (bs (([] : Str))), .string (bs (((g_strings_Split p_1 ([32] : Str)).getD 2 d_Str))), .string (bs (([] : Str)))]) Tryd.ty48 rfl rfl rfl rfl rfl rfl (Box.ex (Box.ex (Box.only (Box.only (Box.ex (Box.ex hB19 hE25) hE33) hO36 (by omega)) hO471 (by omega)) hE491) hE499) (Nat.le_of_ble_eq_true rfl) ?_))))))))
        intro w508 hB509 hO510
        have hB509 : Box w508 b15 48 [.int .i64 (2), .int .i64 (0), .slice none 0 0, .slice none 0 0, .string (bs (([] : Str))), .string (bs (((g_strings_Split p_1 ([32] : Str)).getD 2 d_Str))), .string (bs (([] : Str)))] := hB509
        have hO510z := hO510.size
        refine sd rfl (yl_assign rfl rfl (SeqR.done (tn (CW.ret (rr rfl (.cons ⟨_, rfl, run_loadN Tryd.ty48 (cs := [.int .i64 (2), .int .i64 (0), .slice none 0 0, .slice none 0 0, .string (bs (([] : Str))), .string (bs (((g_strings_Split p_1 ([32] : Str)).getD 2 d_Str))), .string (bs (([] : Str)))]) rfl (hB509.cells (n := 7) rfl)⟩ (.cons rfl .nil)) ?_)))))
        have hM511 : (i_Table_readStmt p_0 p_1) = (((⟨2, (⟨0, (⟨[]⟩ : DRow), (⟨[]⟩ : DRow)⟩ : DRowAct), ([] : Str), ((g_strings_Split p_1 ([32] : Str)).getD 2 d_Str), ([] : Str)⟩ : DStmt), true)) := by simp only [i_Table_readStmt, hb37, hb42, hb155, hb268, hb269, hb492, hb500, cond_true, cond_false, loopE_done, loopE_ret]
        rw [hM511]
        exact ⟨none, 0, w508.heap.size, w508.heap.size, none, 0, w508.heap.size, w508.heap.size, rfl, (OwnL.nil _ _ _ _ _ _), (OwnL.nil _ _ _ _ _ _), ⟨⟨(okL.nil _), (okL.nil _)⟩, (okS.lit rfl), (okL.getD ho23 ok_d_Str _), (okS.lit rfl)⟩, (by omega), (by omega), (by omega), (Below.only (Ex.trans (Ex.trans (Below.only (Below.only (Ex.trans (Ex.trans (Ex.trans (Ex.trans (Ex.refl w) hE14) hE20) hE25) hE33) hO36 (by omega)) hO471 (by omega)) hE491) hE499) hO510 (by omega))⟩
       ·refine CW.cond_t rfl (not_f hb500) (CW.seq (CW.region (sd rfl (yl_build (cs := [.int .i64 (0), .int .i64 (0), .slice none 0 0, .slice none 0 0, .string (bs (([] : Str))), .string (bs (([] : Str))), .string (bs (([] : Str)))]) rfl opvs_nil (by kernel_rfl) (SeqR.u rfl rfl (yl_store (vs := [.int .i64 (0), .int .i64 (0), .slice none 0 0, .slice none 0 0, .string (bs (([] : Str))), .string (bs (([] : Str))), .string (bs (([] : Str)))]) Tryd.ty48 rfl rfl rfl rfl rfl rfl (Box.ex (Box.ex (Box.only (Box.only (Box.ex (Box.ex hB19 hE25) hE33) hO36 (by omega)) hO471 (by omega)) hE491) hE499) (Nat.le_of_ble_eq_true rfl) ?_))))))
        intro w527 hB528 hO529
        have hB528 : Box w527 b15 48 [.int .i64 (0), .int .i64 (0), .slice none 0 0, .slice none 0 0, .string (bs (([] : Str))), .string (bs (([] : Str))), .string (bs (([] : Str)))] := hB528
        have hO529z := hO529.size
        refine sd rfl (yl_assign rfl rfl (SeqR.done (tn (CW.ret (tr (rr rfl (.cons ⟨_, rfl, run_loadN Tryd.ty48 (cs := [.int .i64 (0), .int .i64 (0), .slice none 0 0, .slice none 0 0, .string (bs (([] : Str))), .string (bs (([] : Str))), .string (bs (([] : Str)))]) rfl (hB528.cells (n := 7) rfl)⟩ (.cons rfl .nil)) ?_))))))
        have hM530 : (i_Table_readStmt p_0 p_1) = (((⟨0, (⟨0, (⟨[]⟩ : DRow), (⟨[]⟩ : DRow)⟩ : DRowAct), ([] : Str), ([] : Str), ([] : Str)⟩ : DStmt), false)) := by simp only [i_Table_readStmt, hb37, hb42, hb155, hb268, hb269, hb492, hb500, cond_true, cond_false, loopE_done, loopE_ret]
        rw [hM530]
        exact ⟨none, 0, w527.heap.size, w527.heap.size, none, 0, w527.heap.size, w527.heap.size, rfl, (OwnL.nil _ _ _ _ _ _), (OwnL.nil _ _ _ _ _ _), ⟨⟨(okL.nil _), (okL.nil _)⟩, (okS.lit rfl), (okS.lit rfl), (okS.lit rfl)⟩, (by omega), (by omega), (by omega), (Below.only (Ex.trans (Ex.trans (Below.only (Below.only (Ex.trans (Ex.trans (Ex.trans (Ex.trans (Ex.refl w) hE14) hE20) hE25) hE33) hO36 (by omega)) hO471 (by omega)) hE491) hE499) hO529 (by omega))⟩
      ·refine sz rfl rfl (not_f hb492) (sz rfl rfl (not_f hb492) (sz rfl rfl (not_f hb492) (sz rfl rfl (not_f hb492) (sz rfl rfl (not_f hb492) (sd rfl (yl_pick_t rfl rfl (not_f hb492) rfl (SeqR.done (tn (CW.cond_t rfl rfl ?_)))))))))
       refine CW.seq (CW.region (sd rfl (yl_build (cs := [.int .i64 (0), .int .i64 (0), .slice none 0 0, .slice none 0 0, .string (bs (([] : Str))), .string (bs (([] : Str))), .string (bs (([] : Str)))]) rfl opvs_nil (by kernel_rfl) (SeqR.u rfl rfl (yl_store (vs := [.int .i64 (0), .int .i64 (0), .slice none 0 0, .slice none 0 0, .string (bs (([] : Str))), .string (bs (([] : Str))), .string (bs (([] : Str)))]) Tryd.ty48 rfl rfl rfl rfl rfl rfl (Box.ex (Box.only (Box.only (Box.ex (Box.ex hB19 hE25) hE33) hO36 (by omega)) hO471 (by omega)) hE491) (Nat.le_of_ble_eq_true rfl) ?_)))))
       intro w545 hB546 hO547
       have hB546 : Box w545 b15 48 [.int .i64 (0), .int .i64 (0), .slice none 0 0, .slice none 0 0, .string (bs (([] : Str))), .string (bs (([] : Str))), .string (bs (([] : Str)))] := hB546
       have hO547z := hO547.size
       refine sd rfl (yl_assign rfl rfl (SeqR.done (tn (CW.ret (tr (rr rfl (.cons ⟨_, rfl, run_loadN Tryd.ty48 (cs := [.int .i64 (0), .int .i64 (0), .slice none 0 0, .slice none 0 0, .string (bs (([] : Str))), .string (bs (([] : Str))), .string (bs (([] : Str)))]) rfl (hB546.cells (n := 7) rfl)⟩ (.cons rfl .nil)) ?_))))))
       have hM548 : (i_Table_readStmt p_0 p_1) = (((⟨0, (⟨0, (⟨[]⟩ : DRow), (⟨[]⟩ : DRow)⟩ : DRowAct), ([] : Str), ([] : Str), ([] : Str)⟩ : DStmt), false)) := by simp only [i_Table_readStmt, hb37, hb42, hb155, hb268, hb269, hb492, cond_true, cond_false, loopE_done, loopE_ret]
       rw [hM548]
       exact ⟨none, 0, w545.heap.size, w545.heap.size, none, 0, w545.heap.size, w545.heap.size, rfl, (OwnL.nil _ _ _ _ _ _), (OwnL.nil _ _ _ _ _ _), ⟨⟨(okL.nil _), (okL.nil _)⟩, (okS.lit rfl), (okS.lit rfl), (okS.lit rfl)⟩, (by omega), (by omega), (by omega), (Below.only (Ex.trans (Below.only (Below.only (Ex.trans (Ex.trans (Ex.trans (Ex.trans (Ex.refl w) hE14) hE20) hE25) hE33) hO36 (by omega)) hO471 (by omega)) hE491) hO547 (by omega))⟩
    ·have hb268p := dec_f hb268
     refine sz rfl rfl hb268 (sz rfl rfl hb268 (sz rfl rfl hb268 (sz rfl rfl hb268 (sd rfl (yl_pick_f rfl rfl hb268 rfl (sd rfl (yl_assign rfl rfl (SeqR.done (tn (CW.cond_f rfl rfl ?_))))))))))
     refine CW.seq (CW.region (sd rfl (yl_move rfl rfl (sd rfl (yl_len Tryd.un22 rfl rfl (sd rfl (yl_eql rfl rfl rfl (sd rfl (yl_assign rfl rfl (SeqR.done (tn (CW.cond_t rfl hb37 ?_))))))))))))
     refine CW.region (sd rfl (yl_move rfl rfl ?_))
     obtain ⟨eb558, eo558, ec558, eA558, eS558, ebl558, el558, eR558, eC558⟩ := RdS.atD (OwnL.rd good_Str q40) d_Str (i := 2) (by first | omega | assumption)
     obtain rfl := eR558
     have eC558 : Cells w34 eb558 (eo558 + 2 * 1) [.string (bs (((g_strings_Split p_1 ([32] : Str)).getD 2 d_Str)))] := eC558
     refine sd rfl (yl_indexAddrN Tryd.un22 Tryd.ty9 rfl rfl rfl eA558 (by first | omega | assumption | (simp only [IntKind.wrap_i64] at *; omega)) (sd rfl (yl_load1 Tryd.ty9 rfl rfl (eC558 0 _ rfl) (sd rfl (yl_build (cs := [.int .i64 (2), .int .i64 (0), .slice none 0 0, .slice none 0 0, .string (bs (([] : Str))), .string (bs (((g_strings_Split p_1 ([32] : Str)).getD 2 d_Str))), .string (bs (([] : Str)))]) rfl (opvs_cons rfl (opvs_cons rfl opvs_nil)) (by kernel_rfl) (SeqR.u rfl rfl (yl_store (vs := [.int .i64 (2), .int .i64 (0), .slice none 0 0, .slice none 0 0, .string (bs (([] : Str))), .string (bs (((g_strings_Split p_1 ([32] : Str)).getD 2 d_Str))), .string (bs (([] : Str)))]) Tryd.ty48 rfl rfl rfl rfl rfl rfl hB35 (Nat.le_of_ble_eq_true rfl) ?_)))))))
     intro w559 hB560 hO561
     have hB560 : Box w559 b28 48 [.int .i64 (2), .int .i64 (0), .slice none 0 0, .slice none 0 0, .string (bs (([] : Str))), .string (bs (((g_strings_Split p_1 ([32] : Str)).getD 2 d_Str))), .string (bs (([] : Str)))] := hB560
     have hO561z := hO561.size
     refine SeqR.done (bn (tn (CW.seq (CW.seq (CW.region ?_)))))
     have q566 := Box.only (Box.only (Box.ex (Box.ex (Box.ex hB13 hE20) hE25) hE33) hO36 (by omega)) hO561 (by omega)
     refine sd rfl (yl_loadN (cs := [.string (bs (p_0.Name)), .slice A1 p_0.Cols.length c1, .slice A2 p_0.Idxs.length c2]) Tryd.ty36 rfl rfl (q566.cells (n := 3) rfl) rfl (sd rfl (yl_loadN (cs := [.int .i64 (2), .int .i64 (0), .slice none 0 0, .slice none 0 0, .string (bs (([] : Str))), .string (bs (((g_strings_Split p_1 ([32] : Str)).getD 2 d_Str))), .string (bs (([] : Str)))]) Tryd.ty48 rfl rfl (hB560.cells (n := 7) rfl) rfl ?_)))
     have q572 := RdS.only good_Str (RdS.only good_Str (RdS.ex good_Str (RdS.ex good_Str (RdS.ex good_Str (RdS.ex good_Str h1 hE14) hE20) hE25) hE33) hO36 (by simp only [Iv]; omega)) hO561 (by simp only [Iv]; omega)
     have q578 := RdS.only good_Idx (RdS.only good_Idx (RdS.ex good_Idx (RdS.ex good_Idx (RdS.ex good_Idx (RdS.ex good_Idx h2 hE14) hE20) hE25) hE33) hO36 (by simp only [Iv]; omega)) hO561 (by simp only [Iv]; omega)
     refine sd rfl (yl_call Tryd.en61 rfl (opvs_cons rfl (opvs_cons rfl opvs_nil)) (Cal.mono (c_i_Table_isStmt p_0 (⟨2, (⟨0, (⟨[]⟩ : DRow), (⟨[]⟩ : DRow)⟩ : DRowAct), ([] : Str), ((g_strings_Split p_1 ([32] : Str)).getD 2 d_Str), ([] : Str)⟩ : DStmt) (RdS.up q572 good_Str) (RdS.up q578 good_Idx) (RdS.nil _ _ _ _ _ _ (by decide)) (RdS.nil _ _ _ _ _ _ (by decide)) o3 (⟨⟨(okL.nil _), (okL.nil _)⟩, (okS.lit rfl), (okL.getD ho23 ok_d_Str _), (okS.lit rfl)⟩) (by first | omega | assumption | (simp only [IntKind.wrap_i64] at *; omega))) ?_))
     rintro v580 w579 ⟨rfl, hE581⟩
     have hE581z := Ex.size hE581
     refine sd rfl (yl_not rfl rfl (sd rfl (yl_move rfl rfl (bcase (i_Table_isStmt p_0 (⟨2, (⟨0, (⟨[]⟩ : DRow), (⟨[]⟩ : DRow)⟩ : DRowAct), ([] : Str), ((g_strings_Split p_1 ([32] : Str)).getD 2 d_Str), ([] : Str)⟩ : DStmt)) (fun hb582 => ?_) (fun hb582 => ?_)))))
     ·have hb582p := f_isStmt pre0 hb582
      refine sy rfl rfl (not_t hb582) (yl_loadN (cs := [.string (bs (p_0.Name)), .slice A1 p_0.Cols.length c1, .slice A2 p_0.Idxs.length c2]) Tryd.ty36 rfl rfl ((Box.ex q566 hE581).cells (n := 3) rfl) rfl ?_)
      have q584 := Box.ex hB560 hE581
      refine sy rfl rfl (not_t hb582) (yl_loadN (cs := [.int .i64 (2), .int .i64 (0), .slice none 0 0, .slice none 0 0, .string (bs (([] : Str))), .string (bs (((g_strings_Split p_1 ([32] : Str)).getD 2 d_Str))), .string (bs (([] : Str)))]) Tryd.ty48 rfl rfl (q584.cells (n := 7) rfl) rfl (sy rfl rfl (not_t hb582) (yl_call Tryd.en62 rfl (opvs_cons rfl (opvs_cons rfl opvs_nil)) (Cal.mono (c_i_Table_stmtText p_0 (⟨2, (⟨0, (⟨[]⟩ : DRow), (⟨[]⟩ : DRow)⟩ : DRowAct), ([] : Str), ((g_strings_Split p_1 ([32] : Str)).getD 2 d_Str), ([] : Str)⟩ : DStmt) (RdS.up (RdS.ex good_Str q572 hE581) good_Str) (RdS.up (RdS.ex good_Idx q578 hE581) good_Idx) (RdS.nil _ _ _ _ _ _ (by decide)) (RdS.nil _ _ _ _ _ _ (by decide)) o3 (⟨⟨(okL.nil _), (okL.nil _)⟩, (okS.lit rfl), (okL.getD ho23 ok_d_Str _), (okS.lit rfl)⟩) (by first | omega | assumption | (simp only [IntKind.wrap_i64] at *; omega))) ?_))))
      rintro v588 w587 ⟨rfl, hE589⟩
      have hE589z := Ex.size hE589
      refine sy rfl rfl (not_t hb582) (yl_move rfl rfl (sy rfl rfl (not_t hb582) (yl_sneq (a := (i_Table_stmtText p_0 (⟨2, (⟨0, (⟨[]⟩ : DRow), (⟨[]⟩ : DRow)⟩ : DRowAct), ([] : Str), ((g_strings_Split p_1 ([32] : Str)).getD 2 d_Str), ([] : Str)⟩ : DStmt))) (b := p_1) rfl rfl rfl (sd rfl (yl_pick_f rfl rfl (not_t hb582) rfl (SeqR.done (tn (bcase ((i_Table_stmtText p_0 (⟨2, (⟨0, (⟨[]⟩ : DRow), (⟨[]⟩ : DRow)⟩ : DRowAct), ([] : Str), ((g_strings_Split p_1 ([32] : Str)).getD 2 d_Str), ([] : Str)⟩ : DStmt)) == p_1) (fun hb590 => ?_) (fun hb590 => ?_)))))))))
      ·refine CW.cond_f rfl (not_t hb590) (CW.skip (tn (CW.seq (CW.region (sd rfl (yl_loadN (cs := [.int .i64 (2), .int .i64 (0), .slice none 0 0, .slice none 0 0, .string (bs (([] : Str))), .string (bs (((g_strings_Split p_1 ([32] : Str)).getD 2 d_Str))), .string (bs (([] : Str)))]) Tryd.ty48 rfl rfl ((Box.ex q584 hE589).cells (n := 7) rfl) rfl (SeqR.u rfl rfl (yl_store (vs := [.int .i64 (2), .int .i64 (0), .slice none 0 0, .slice none 0 0, .string (bs (([] : Str))), .string (bs (((g_strings_Split p_1 ([32] : Str)).getD 2 d_Str))), .string (bs (([] : Str)))]) Tryd.ty48 rfl rfl rfl rfl rfl rfl (Box.ex (Box.ex (Box.only (Box.only (Box.ex (Box.ex hB19 hE25) hE33) hO36 (by omega)) hO561 (by omega)) hE581) hE589) (Nat.le_of_ble_eq_true rfl) ?_))))))))
       intro w598 hB599 hO600
       have hB599 : Box w598 b15 48 [.int .i64 (2), .int .i64 (0), .slice none 0 0, .slice none 0 0, .string (bs (([] : Str))), .string (bs (((g_strings_Split p_1 ([32] : Str)).getD 2 d_Str))), .string (bs (([] : Str)))] := hB599
       have hO600z := hO600.size
       refine sd rfl (yl_assign rfl rfl (SeqR.done (tn (CW.ret (rr rfl (.cons ⟨_, rfl, run_loadN Tryd.ty48 (cs := [.int .i64 (2), .int .i64 (0), .slice none 0 0, .slice none 0 0, .string (bs (([] : Str))), .string (bs (((g_strings_Split p_1 ([32] : Str)).getD 2 d_Str))), .string (bs (([] : Str)))]) rfl (hB599.cells (n := 7) rfl)⟩ (.cons rfl .nil)) ?_)))))
       have hM601 : (i_Table_readStmt p_0 p_1) = (((⟨2, (⟨0, (⟨[]⟩ : DRow), (⟨[]⟩ : DRow)⟩ : DRowAct), ([] : Str), ((g_strings_Split p_1 ([32] : Str)).getD 2 d_Str), ([] : Str)⟩ : DStmt), true)) := by simp only [i_Table_readStmt, hb37, hb42, hb155, hb268, hb582, hb590, cond_true, cond_false, loopE_done, loopE_ret]
       rw [hM601]
       exact ⟨none, 0, w598.heap.size, w598.heap.size, none, 0, w598.heap.size, w598.heap.size, rfl, (OwnL.nil _ _ _ _ _ _), (OwnL.nil _ _ _ _ _ _), ⟨⟨(okL.nil _), (okL.nil _)⟩, (okS.lit rfl), (okL.getD ho23 ok_d_Str _), (okS.lit rfl)⟩, (by omega), (by omega), (by omega), (Below.only (Ex.trans (Ex.trans (Below.only (Below.only (Ex.trans (Ex.trans (Ex.trans (Ex.trans (Ex.refl w) hE14) hE20) hE25) hE33) hO36 (by omega)) hO561 (by omega)) hE581) hE589) hO600 (by omega))⟩
      ·refine CW.cond_t rfl (not_f hb590) (CW.seq (CW.region (sd rfl (yl_build (cs := [.int .i64 (0), .int .i64 (0), .slice none 0 0, .slice none 0 0, .string (bs (([] : Str))), .string (bs (([] : Str))), .string (bs (([] : Str)))]) rfl opvs_nil (by kernel_rfl) (SeqR.u rfl rfl (yl_store (vs := [.int .i64 (0), .int .i64 (0), .slice none 0 0, .slice none 0 0, .string (bs (([] : Str))), .string (bs (([] : Str))), .string (bs (([] : Str)))]) Tryd.ty48 rfl rfl rfl rfl rfl rfl (Box.ex (Box.ex (Box.only (Box.only (Box.ex (Box.ex hB19 hE25) hE33) hO36 (by omega)) hO561 (by omega)) hE581) hE589) (Nat.le_of_ble_eq_true rfl) ?_))))))
       intro w617 hB618 hO619
       have hB618 : Box w617 b15 48 [.int .i64 (0), .int .i64 (0), .slice none 0 0, .slice none 0 0, .string (bs (([] : Str))), .string (bs (([] : Str))), .string (bs (([] : Str)))] := hB618
       have hO619z := hO619.size
       refine sd rfl (yl_assign rfl rfl (SeqR.done (tn (CW.ret (tr (rr rfl (.cons ⟨_, rfl, run_loadN Tryd.ty48 (cs := [.int .i64 (0), .int .i64 (0), .slice none 0 0, .slice none 0 0, .string (bs (([] : Str))), .string (bs (([] : Str))), .string (bs (([] : Str)))]) rfl (hB618.cells (n := 7) rfl)⟩ (.cons rfl .nil)) ?_))))))
       have hM620 : (i_Table_readStmt p_0 p_1) = (((⟨0, (⟨0, (⟨[]⟩ : DRow), (⟨[]⟩ : DRow)⟩ : DRowAct), ([] : Str), ([] : Str), ([] : Str)⟩ : DStmt), false)) := by simp only [i_Table_readStmt, hb37, hb42, hb155, hb268, hb582, hb590, cond_true, cond_false, loopE_done, loopE_ret]
       rw [hM620]
       exact ⟨none, 0, w617.heap.size, w617.heap.size, none, 0, w617.heap.size, w617.heap.size, rfl, (OwnL.nil _ _ _ _ _ _), (OwnL.nil _ _ _ _ _ _), ⟨⟨(okL.nil _), (okL.nil _)⟩, (okS.lit rfl), (okS.lit rfl), (okS.lit rfl)⟩, (by omega), (by omega), (by omega), (Below.only (Ex.trans (Ex.trans (Below.only (Below.only (Ex.trans (Ex.trans (Ex.trans (Ex.trans (Ex.refl w) hE14) hE20) hE25) hE33) hO36 (by omega)) hO561 (by omega)) hE581) hE589) hO619 (by omega))⟩
     ·refine sz rfl rfl (not_f hb582) (sz rfl rfl (not_f hb582) (sz rfl rfl (not_f hb582) (sz rfl rfl (not_f hb582) (sz rfl rfl (not_f hb582) (sd rfl (yl_pick_t rfl rfl (not_f hb582) rfl (SeqR.done (tn (CW.cond_t rfl rfl ?_)))))))))
      refine CW.seq (CW.region (sd rfl (yl_build (cs := [.int .i64 (0), .int .i64 (0), .slice none 0 0, .slice none 0 0, .string (bs (([] : Str))), .string (bs (([] : Str))), .string (bs (([] : Str)))]) rfl opvs_nil (by kernel_rfl) (SeqR.u rfl rfl (yl_store (vs := [.int .i64 (0), .int .i64 (0), .slice none 0 0, .slice none 0 0, .string (bs (([] : Str))), .string (bs (([] : Str))), .string (bs (([] : Str)))]) Tryd.ty48 rfl rfl rfl rfl rfl rfl (Box.ex (Box.only (Box.only (Box.ex (Box.ex hB19 hE25) hE33) hO36 (by omega)) hO561 (by omega)) hE581) (Nat.le_of_ble_eq_true rfl) ?_)))))
      intro w635 hB636 hO637
      have hB636 : Box w635 b15 48 [.int .i64 (0), .int .i64 (0), .slice none 0 0, .slice none 0 0, .string (bs (([] : Str))), .string (bs (([] : Str))), .string (bs (([] : Str)))] := hB636
      have hO637z := hO637.size
      refine sd rfl (yl_assign rfl rfl (SeqR.done (tn (CW.ret (tr (rr rfl (.cons ⟨_, rfl, run_loadN Tryd.ty48 (cs := [.int .i64 (0), .int .i64 (0), .slice none 0 0, .slice none 0 0, .string (bs (([] : Str))), .string (bs (([] : Str))), .string (bs (([] : Str)))]) rfl (hB636.cells (n := 7) rfl)⟩ (.cons rfl .nil)) ?_))))))
      have hM638 : (i_Table_readStmt p_0 p_1) = (((⟨0, (⟨0, (⟨[]⟩ : DRow), (⟨[]⟩ : DRow)⟩ : DRowAct), ([] : Str), ([] : Str), ([] : Str)⟩ : DStmt), false)) := by simp only [i_Table_readStmt, hb37, hb42, hb155, hb268, hb582, cond_true, cond_false, loopE_done, loopE_ret]
      rw [hM638]
      exact ⟨none, 0, w635.heap.size, w635.heap.size, none, 0, w635.heap.size, w635.heap.size, rfl, (OwnL.nil _ _ _ _ _ _), (OwnL.nil _ _ _ _ _ _), ⟨⟨(okL.nil _), (okL.nil _)⟩, (okS.lit rfl), (okS.lit rfl), (okS.lit rfl)⟩, (by omega), (by omega), (by omega), (Below.only (Ex.trans (Below.only (Below.only (Ex.trans (Ex.trans (Ex.trans (Ex.trans (Ex.refl w) hE14) hE20) hE25) hE33) hO36 (by omega)) hO561 (by omega)) hE581) hO637 (by omega))⟩
 ·have hb37p := dec_f hb37
  refine sz rfl rfl hb37 (sz rfl rfl hb37 (sz rfl rfl hb37 (sz rfl rfl hb37 (sd rfl (yl_pick_f rfl rfl hb37 rfl (sd rfl (yl_assign rfl rfl (SeqR.done (tn (CW.cond_f rfl rfl ?_))))))))))
  refine CW.seq (CW.region (sd rfl (yl_move rfl rfl (sd rfl (yl_len Tryd.un22 rfl rfl (sd rfl (yl_eql rfl rfl rfl (sd rfl (yl_move rfl rfl (sz rfl rfl hb37 (sz rfl rfl hb37 (sz rfl rfl hb37 ?_))))))))))))
  refine sz rfl rfl hb37 (sd rfl (yl_pick_f rfl rfl hb37 rfl (sd rfl (yl_assign rfl rfl (SeqR.done (tn (CW.cond_f rfl rfl (CW.seq (CW.region (sd rfl (yl_move rfl rfl ?_)))))))))))
  refine sd rfl (yl_len Tryd.un22 rfl rfl (sd rfl (yl_eql rfl rfl rfl (sd rfl (yl_move rfl rfl (bcase (decide (((g_strings_Split p_1 ([32] : Str)).length : Int) = 5)) (fun hb647 => ?_) (fun hb647 => ?_)))))))
  ·have hb647p := dec_t hb647
   refine sy rfl rfl hb647 (yl_move rfl rfl ?_)
   have q650 := OwnL.only good_Str (OwnL.ex good_Str h22 hE33) hO36 (by omega)
   obtain ⟨eb651, eo651, ec651, eA651, eS651, ebl651, el651, eR651, eC651⟩ := RdS.atD (OwnL.rd good_Str q650) d_Str (i := 0) (by first | omega | assumption)
   obtain rfl := eR651
   have eC651 : Cells w34 eb651 (eo651 + 0 * 1) [.string (bs (((g_strings_Split p_1 ([32] : Str)).getD 0 d_Str)))] := eC651
   refine sy rfl rfl hb647 (yl_indexAddrN Tryd.un22 Tryd.ty9 rfl rfl rfl eA651 (by first | omega | assumption | (simp only [IntKind.wrap_i64] at *; omega)) (sy rfl rfl hb647 (yl_load1 Tryd.ty9 rfl rfl (eC651 0 _ rfl) (sy rfl rfl hb647 (yl_seql (a := ((g_strings_Split p_1 ([32] : Str)).getD 0 d_Str)) (b := ([117, 112, 100, 97, 116, 101] : Str)) rfl rfl rfl (sd rfl (yl_pick_t rfl rfl hb647 rfl (sd rfl (yl_assign rfl rfl (SeqR.done (tn (bcase (((g_strings_Split p_1 ([32] : Str)).getD 0 d_Str) == ([117, 112, 100, 97, 116, 101] : Str)) (fun hb652 => ?_) (fun hb652 => ?_)))))))))))))
   ·refine CW.cond_t rfl hb652 ?_
    obtain ⟨eb654, eo654, ec654, eA654, eS654, ebl654, el654, eR654, eC654⟩ := RdS.atD (OwnL.rd good_Str q650) d_Str (i := 2) (by first | omega | assumption)
    obtain rfl := eR654
    have eC654 : Cells w34 eb654 (eo654 + 2 * 1) [.string (bs (((g_strings_Split p_1 ([32] : Str)).getD 2 d_Str)))] := eC654
    obtain ⟨eb659, eo659, ec659, eA659, eS659, ebl659, el659, eR659, eC659⟩ := RdS.atD (OwnL.rd good_Str q650) d_Str (i := 4) (by first | omega | assumption)
    obtain rfl := eR659
    have eC659 : Cells w34 eb659 (eo659 + 4 * 1) [.string (bs (((g_strings_Split p_1 ([32] : Str)).getD 4 d_Str)))] := eC659
    refine CW.drawsI 7 (vgetI [DetI (.slice A22 ((g_strings_Split p_1 ([32] : Str)).length) c22), DetI (.pointer (some ⟨eb654, eo654 + 2 * 1, none⟩)), DetI (.string (bs (((g_strings_Split p_1 ([32] : Str)).getD 2 d_Str)))), fun lo hi v wq => ∃ A656 c656 lo656 hi656, v = .agg #[.slice A656 (((i_rowOf ((g_strings_Split p_1 ([32] : Str)).getD 2 d_Str)).Vals).length) c656] ∧ OwnL wq lo656 hi656 9 1 (RF e_Str) A656 (((i_rowOf ((g_strings_Split p_1 ([32] : Str)).getD 2 d_Str)).Vals).length) c656 ((i_rowOf ((g_strings_Split p_1 ([32] : Str)).getD 2 d_Str)).Vals) ∧ ok_Row (i_rowOf ((g_strings_Split p_1 ([32] : Str)).getD 2 d_Str)) ∧ (lo ≤ lo656 ∧ lo656 ≤ hi656 ∧ hi656 ≤ hi), DetI (.slice A22 ((g_strings_Split p_1 ([32] : Str)).length) c22), DetI (.pointer (some ⟨eb659, eo659 + 4 * 1, none⟩)), DetI (.string (bs (((g_strings_Split p_1 ([32] : Str)).getD 4 d_Str))))]) Tryd.follows rfl rfl rfl rfl rfl rfl (vgetI_stable ⟨StableI.det _, StableI.det _, StableI.det _, (fun _ _ _ _ _ ⟨A656, c656, lo656, hi656, hv, h656, ho657, hr0⟩ e => ⟨A656, c656, lo656, hi656, hv, OwnL.ex good_Str h656 e, ho657, hr0⟩), StableI.det _, StableI.det _, StableI.det _, trivial⟩) ⟨?_, ?_, ?_, ?_, ?_, ?_, ?_, trivial⟩ ?_
    ·exact fun _ _ h => os rfl ((yl_move rfl (h.old 6 _ rfl rfl) kI))
    ·intro L665 w666 hi667
     have hE668 := hi667.ex
     have hE668z := Ex.size hE668
     exact os rfl ((yl_indexAddrN Tryd.un22 Tryd.ty9 rfl (hi667.dt 0 53 rfl rfl rfl) rfl eA654 (by first | omega | assumption | (simp only [IntKind.wrap_i64] at *; omega)) kI))
    ·exact fun _ _ h => os rfl ((yl_load1 Tryd.ty9 rfl (h.dt 1 54 rfl rfl rfl) ((Cells.ex eC654 h.ex) 0 _ rfl) kI))
    ·intro L676 w677 hi678
     refine OpR.op' rfl (yl_call Tryd.en60 rfl (opvs_cons (hi678.dt 2 55 rfl rfl rfl) opvs_nil) (Cal.mono (c_i_rowOf ((g_strings_Split p_1 ([32] : Str)).getD 2 d_Str) (okL.getD ho23 ok_d_Str _)) ?_))
     rintro v684 w681 ⟨A682, c682, lo682, hi682, rfl, h682, ho683, hrn686, hE685⟩
     exact ⟨⟨A682, c682, lo682, hi682, rfl, h682, ho683, hrn686⟩, hE685⟩
    ·exact fun _ _ h => os rfl ((yl_move rfl (h.old 6 _ rfl rfl) kI))
    ·intro L692 w693 hi694
     have hE695 := hi694.ex
     have hE695z := Ex.size hE695
     exact os rfl ((yl_indexAddrN Tryd.un22 Tryd.ty9 rfl (hi694.dt 4 57 rfl rfl rfl) rfl eA659 (by first | omega | assumption | (simp only [IntKind.wrap_i64] at *; omega)) kI))
    ·exact fun _ _ h => os rfl ((yl_load1 Tryd.ty9 rfl (h.dt 5 58 rfl rfl rfl) ((Cells.ex eC659 h.ex) 0 _ rfl) kI))
    ·intro fl706 fh707 L703 w704 hp705
     have hE708 := hp705.ex
     have hE708z := Ex.size hE708
     have hx712 := hp705.old 7 _ rfl rfl
     have hr714 := hp705.rng 3 rfl
     obtain ⟨_, hx713, A656_715, c656_716, lo656_717, hi656_718, rfl, h719, h720, hrn721⟩ := hp705.new 3 56 rfl rfl
     refine sd rfl (yl_call Tryd.en60 rfl (opvs_cons (hp705.nt 6 59 rfl rfl rfl) opvs_nil) (Cal.mono (c_i_rowOf ((g_strings_Split p_1 ([32] : Str)).getD 4 d_Str) (okL.getD ho23 ok_d_Str _)) ?_))
     rintro v726 w723 ⟨A724, c724, lo724, hi724, rfl, h724, ho725, hrn728, hE727⟩
     have hE727z := Ex.size hE727
     refine sd rfl (yl_build (cs := [.int .i64 (3), .slice A656_715 (((i_rowOf ((g_strings_Split p_1 ([32] : Str)).getD 2 d_Str)).Vals).length) c656_716, .slice A724 (((i_rowOf ((g_strings_Split p_1 ([32] : Str)).getD 4 d_Str)).Vals).length) c724]) rfl (opvs_cons rfl (opvs_cons hx713 (opvs_cons rfl opvs_nil))) (by kernel_rfl) (sd rfl (yl_fieldAddr Tryd.fd48_1 rfl hx712 (SeqR.u rfl rfl (yl_store (vs := [.int .i64 (3), .slice A656_715 (((i_rowOf ((g_strings_Split p_1 ([32] : Str)).getD 2 d_Str)).Vals).length) c656_716, .slice A724 (((i_rowOf ((g_strings_Split p_1 ([32] : Str)).getD 4 d_Str)).Vals).length) c724]) Tryd.ty46 rfl rfl rfl rfl rfl rfl (Box.ex (Box.ex hB35 hE708) hE727) (Nat.le_of_ble_eq_true rfl) ?_)))))
     intro w731 hB732 hO733
     have hB732 : Box w731 b28 48 [.int .i64 (1), .int .i64 (3), .slice A656_715 (((i_rowOf ((g_strings_Split p_1 ([32] : Str)).getD 2 d_Str)).Vals).length) c656_716, .slice A724 (((i_rowOf ((g_strings_Split p_1 ([32] : Str)).getD 4 d_Str)).Vals).length) c724, .string (bs (([] : Str))), .string (bs (([] : Str))), .string (bs (([] : Str)))] := hB732
     have hO733z := hO733.size
     refine SeqR.done (bn (tn (CW.sub (Sub.cons (d := 1) (hp705.old 1 _ rfl rfl) (Sub.cons (d := 2) (hp705.old 2 _ rfl rfl) (Sub.cons (d := 4) (hp705.old 4 _ rfl rfl) (Sub.cons (d := 7) hx712 (Sub.nil _))))) (CW.seq (CW.seq (CW.region ?_))))))
     have q740 := Box.only (Box.ex (Box.ex (Box.only (Box.ex (Box.ex (Box.ex hB13 hE20) hE25) hE33) hO36 (by omega)) hE708) hE727) hO733 (by omega)
     refine sd rfl (yl_loadN (cs := [.string (bs (p_0.Name)), .slice A1 p_0.Cols.length c1, .slice A2 p_0.Idxs.length c2]) Tryd.ty36 rfl rfl (q740.cells (n := 3) rfl) rfl (sd rfl (yl_loadN (cs := [.int .i64 (1), .int .i64 (3), .slice A656_715 (((i_rowOf ((g_strings_Split p_1 ([32] : Str)).getD 2 d_Str)).Vals).length) c656_716, .slice A724 (((i_rowOf ((g_strings_Split p_1 ([32] : Str)).getD 4 d_Str)).Vals).length) c724, .string (bs (([] : Str))), .string (bs (([] : Str))), .string (bs (([] : Str)))]) Tryd.ty48 rfl rfl (hB732.cells (n := 7) rfl) rfl ?_)))
     have q748 := RdS.only good_Str (RdS.ex good_Str (RdS.ex good_Str (RdS.only good_Str (RdS.ex good_Str (RdS.ex good_Str (RdS.ex good_Str (RdS.ex good_Str h1 hE14) hE20) hE25) hE33) hO36 (by simp only [Iv]; omega)) hE708) hE727) hO733 (by simp only [Iv]; omega)
     have q756 := RdS.only good_Idx (RdS.ex good_Idx (RdS.ex good_Idx (RdS.only good_Idx (RdS.ex good_Idx (RdS.ex good_Idx (RdS.ex good_Idx (RdS.ex good_Idx h2 hE14) hE20) hE25) hE33) hO36 (by simp only [Iv]; omega)) hE708) hE727) hO733 (by simp only [Iv]; omega)
     have q759 := OwnL.only good_Str (OwnL.ex good_Str h719 hE727) hO733 (by omega)
     have q761 := OwnL.only good_Str h724 hO733 (by omega)
     refine sd rfl (yl_call Tryd.en61 rfl (opvs_cons rfl (opvs_cons rfl opvs_nil)) (Cal.mono (c_i_Table_isStmt p_0 (⟨1, (⟨3, (i_rowOf ((g_strings_Split p_1 ([32] : Str)).getD 2 d_Str)), (i_rowOf ((g_strings_Split p_1 ([32] : Str)).getD 4 d_Str))⟩ : DRowAct), ([] : Str), ([] : Str), ([] : Str)⟩ : DStmt) (RdS.up q748 good_Str) (RdS.up q756 good_Idx) (RdS.up (OwnL.rd good_Str q759) good_Str) (RdS.up (OwnL.rd good_Str q761) good_Str) o3 (⟨⟨h720, ho725⟩, (okS.lit rfl), (okS.lit rfl), (okS.lit rfl)⟩) (by first | omega | assumption | (simp only [IntKind.wrap_i64] at *; omega))) ?_))
     rintro v763 w762 ⟨rfl, hE764⟩
     have hE764z := Ex.size hE764
     refine sd rfl (yl_not rfl rfl (sd rfl (yl_move rfl rfl (bcase (i_Table_isStmt p_0 (⟨1, (⟨3, (i_rowOf ((g_strings_Split p_1 ([32] : Str)).getD 2 d_Str)), (i_rowOf ((g_strings_Split p_1 ([32] : Str)).getD 4 d_Str))⟩ : DRowAct), ([] : Str), ([] : Str), ([] : Str)⟩ : DStmt)) (fun hb765 => ?_) (fun hb765 => ?_)))))
     ·have hb765p := f_isStmt pre0 hb765
      refine sy rfl rfl (not_t hb765) (yl_loadN (cs := [.string (bs (p_0.Name)), .slice A1 p_0.Cols.length c1, .slice A2 p_0.Idxs.length c2]) Tryd.ty36 rfl rfl ((Box.ex q740 hE764).cells (n := 3) rfl) rfl ?_)
      have q767 := Box.ex hB732 hE764
      refine sy rfl rfl (not_t hb765) (yl_loadN (cs := [.int .i64 (1), .int .i64 (3), .slice A656_715 (((i_rowOf ((g_strings_Split p_1 ([32] : Str)).getD 2 d_Str)).Vals).length) c656_716, .slice A724 (((i_rowOf ((g_strings_Split p_1 ([32] : Str)).getD 4 d_Str)).Vals).length) c724, .string (bs (([] : Str))), .string (bs (([] : Str))), .string (bs (([] : Str)))]) Tryd.ty48 rfl rfl (q767.cells (n := 7) rfl) rfl ?_)
      have q771 := OwnL.ex good_Str q759 hE764
      have q773 := OwnL.ex good_Str q761 hE764
      refine sy rfl rfl (not_t hb765) (yl_call Tryd.en62 rfl (opvs_cons rfl (opvs_cons rfl opvs_nil)) (Cal.mono (c_i_Table_stmtText p_0 (⟨1, (⟨3, (i_rowOf ((g_strings_Split p_1 ([32] : Str)).getD 2 d_Str)), (i_rowOf ((g_strings_Split p_1 ([32] : Str)).getD 4 d_Str))⟩ : DRowAct), ([] : Str), ([] : Str), ([] : Str)⟩ : DStmt) (RdS.up (RdS.ex good_Str q748 hE764) good_Str) (RdS.up (RdS.ex good_Idx q756 hE764) good_Idx) (RdS.up (OwnL.rd good_Str q771) good_Str) (RdS.up (OwnL.rd good_Str q773) good_Str) o3 (⟨⟨h720, ho725⟩, (okS.lit rfl), (okS.lit rfl), (okS.lit rfl)⟩) (by first | omega | assumption | (simp only [IntKind.wrap_i64] at *; omega))) ?_))
      rintro v775 w774 ⟨rfl, hE776⟩
      have hE776z := Ex.size hE776
      refine sy rfl rfl (not_t hb765) (yl_move rfl rfl (sy rfl rfl (not_t hb765) (yl_sneq (a := (i_Table_stmtText p_0 (⟨1, (⟨3, (i_rowOf ((g_strings_Split p_1 ([32] : Str)).getD 2 d_Str)), (i_rowOf ((g_strings_Split p_1 ([32] : Str)).getD 4 d_Str))⟩ : DRowAct), ([] : Str), ([] : Str), ([] : Str)⟩ : DStmt))) (b := p_1) rfl rfl rfl (sd rfl (yl_pick_f rfl rfl (not_t hb765) rfl (SeqR.done (tn (bcase ((i_Table_stmtText p_0 (⟨1, (⟨3, (i_rowOf ((g_strings_Split p_1 ([32] : Str)).getD 2 d_Str)), (i_rowOf ((g_strings_Split p_1 ([32] : Str)).getD 4 d_Str))⟩ : DRowAct), ([] : Str), ([] : Str), ([] : Str)⟩ : DStmt)) == p_1) (fun hb777 => ?_) (fun hb777 => ?_)))))))))
      ·refine CW.cond_f rfl (not_t hb777) (CW.skip (tn (CW.seq (CW.region (sd rfl (yl_loadN (cs := [.int .i64 (1), .int .i64 (3), .slice A656_715 (((i_rowOf ((g_strings_Split p_1 ([32] : Str)).getD 2 d_Str)).Vals).length) c656_716, .slice A724 (((i_rowOf ((g_strings_Split p_1 ([32] : Str)).getD 4 d_Str)).Vals).length) c724, .string (bs (([] : Str))), .string (bs (([] : Str))), .string (bs (([] : Str)))]) Tryd.ty48 rfl rfl ((Box.ex q767 hE776).cells (n := 7) rfl) rfl (SeqR.u rfl rfl (yl_store (vs := [.int .i64 (1), .int .i64 (3), .slice A656_715 (((i_rowOf ((g_strings_Split p_1 ([32] : Str)).getD 2 d_Str)).Vals).length) c656_716, .slice A724 (((i_rowOf ((g_strings_Split p_1 ([32] : Str)).getD 4 d_Str)).Vals).length) c724, .string (bs (([] : Str))), .string (bs (([] : Str))), .string (bs (([] : Str)))]) Tryd.ty48 rfl rfl rfl rfl rfl rfl (Box.ex (Box.ex (Box.only (Box.ex (Box.ex (Box.only (Box.ex (Box.ex hB19 hE25) hE33) hO36 (by omega)) hE708) hE727) hO733 (by omega)) hE764) hE776) (Nat.le_of_ble_eq_true rfl) ?_))))))))
       intro w787 hB788 hO789
       have hB788 : Box w787 b15 48 [.int .i64 (1), .int .i64 (3), .slice A656_715 (((i_rowOf ((g_strings_Split p_1 ([32] : Str)).getD 2 d_Str)).Vals).length) c656_716, .slice A724 (((i_rowOf ((g_strings_Split p_1 ([32] : Str)).getD 4 d_Str)).Vals).length) c724, .string (bs (([] : Str))), .string (bs (([] : Str))), .string (bs (([] : Str)))] := hB788
       have hO789z := hO789.size
       refine sd rfl (yl_assign rfl rfl (SeqR.done (tn (CW.ret (rr rfl (.cons ⟨_, rfl, run_loadN Tryd.ty48 (cs := [.int .i64 (1), .int .i64 (3), .slice A656_715 (((i_rowOf ((g_strings_Split p_1 ([32] : Str)).getD 2 d_Str)).Vals).length) c656_716, .slice A724 (((i_rowOf ((g_strings_Split p_1 ([32] : Str)).getD 4 d_Str)).Vals).length) c724, .string (bs (([] : Str))), .string (bs (([] : Str))), .string (bs (([] : Str)))]) rfl (hB788.cells (n := 7) rfl)⟩ (.cons rfl .nil)) ?_)))))
       have hM790 : (i_Table_readStmt p_0 p_1) = (((⟨1, (⟨3, (i_rowOf ((g_strings_Split p_1 ([32] : Str)).getD 2 d_Str)), (i_rowOf ((g_strings_Split p_1 ([32] : Str)).getD 4 d_Str))⟩ : DRowAct), ([] : Str), ([] : Str), ([] : Str)⟩ : DStmt), true)) := by simp only [i_Table_readStmt, hb37, hb647, hb652, hb765, hb777, cond_true, cond_false, loopE_done, loopE_ret]
       rw [hM790]
       exact ⟨A656_715, c656_716, lo656_717, hi656_718, A724, c724, lo724, hi724, rfl, (OwnL.only good_Str (OwnL.ex good_Str q771 hE776) hO789 (by omega)), (OwnL.only good_Str (OwnL.ex good_Str q773 hE776) hO789 (by omega)), ⟨⟨h720, ho725⟩, (okS.lit rfl), (okS.lit rfl), (okS.lit rfl)⟩, (by omega), (by omega), (by omega), (Below.only (Ex.trans (Ex.trans (Below.only (Ex.trans (Ex.trans (Below.only (Ex.trans (Ex.trans (Ex.trans (Ex.trans (Ex.refl w) hE14) hE20) hE25) hE33) hO36 (by omega)) hE708) hE727) hO733 (by omega)) hE764) hE776) hO789 (by omega))⟩
      ·refine CW.cond_t rfl (not_f hb777) (CW.seq (CW.region (sd rfl (yl_build (cs := [.int .i64 (0), .int .i64 (0), .slice none 0 0, .slice none 0 0, .string (bs (([] : Str))), .string (bs (([] : Str))), .string (bs (([] : Str)))]) rfl opvs_nil (by kernel_rfl) (SeqR.u rfl rfl (yl_store (vs := [.int .i64 (0), .int .i64 (0), .slice none 0 0, .slice none 0 0, .string (bs (([] : Str))), .string (bs (([] : Str))), .string (bs (([] : Str)))]) Tryd.ty48 rfl rfl rfl rfl rfl rfl (Box.ex (Box.ex (Box.only (Box.ex (Box.ex (Box.only (Box.ex (Box.ex hB19 hE25) hE33) hO36 (by omega)) hE708) hE727) hO733 (by omega)) hE764) hE776) (Nat.le_of_ble_eq_true rfl) ?_))))))
       intro w814 hB815 hO816
       have hB815 : Box w814 b15 48 [.int .i64 (0), .int .i64 (0), .slice none 0 0, .slice none 0 0, .string (bs (([] : Str))), .string (bs (([] : Str))), .string (bs (([] : Str)))] := hB815
       have hO816z := hO816.size
       refine sd rfl (yl_assign rfl rfl (SeqR.done (tn (CW.ret (tr (rr rfl (.cons ⟨_, rfl, run_loadN Tryd.ty48 (cs := [.int .i64 (0), .int .i64 (0), .slice none 0 0, .slice none 0 0, .string (bs (([] : Str))), .string (bs (([] : Str))), .string (bs (([] : Str)))]) rfl (hB815.cells (n := 7) rfl)⟩ (.cons rfl .nil)) ?_))))))
       have hM817 : (i_Table_readStmt p_0 p_1) = (((⟨0, (⟨0, (⟨[]⟩ : DRow), (⟨[]⟩ : DRow)⟩ : DRowAct), ([] : Str), ([] : Str), ([] : Str)⟩ : DStmt), false)) := by simp only [i_Table_readStmt, hb37, hb647, hb652, hb765, hb777, cond_true, cond_false, loopE_done, loopE_ret]
       rw [hM817]
       exact ⟨none, 0, w814.heap.size, w814.heap.size, none, 0, w814.heap.size, w814.heap.size, rfl, (OwnL.nil _ _ _ _ _ _), (OwnL.nil _ _ _ _ _ _), ⟨⟨(okL.nil _), (okL.nil _)⟩, (okS.lit rfl), (okS.lit rfl), (okS.lit rfl)⟩, (by omega), (by omega), (by omega), (Below.only (Ex.trans (Ex.trans (Below.only (Ex.trans (Ex.trans (Below.only (Ex.trans (Ex.trans (Ex.trans (Ex.trans (Ex.refl w) hE14) hE20) hE25) hE33) hO36 (by omega)) hE708) hE727) hO733 (by omega)) hE764) hE776) hO816 (by omega))⟩
     ·refine sz rfl rfl (not_f hb765) (sz rfl rfl (not_f hb765) (sz rfl rfl (not_f hb765) (sz rfl rfl (not_f hb765) (sz rfl rfl (not_f hb765) (sd rfl (yl_pick_t rfl rfl (not_f hb765) rfl (SeqR.done (tn (CW.cond_t rfl rfl ?_)))))))))
      refine CW.seq (CW.region (sd rfl (yl_build (cs := [.int .i64 (0), .int .i64 (0), .slice none 0 0, .slice none 0 0, .string (bs (([] : Str))), .string (bs (([] : Str))), .string (bs (([] : Str)))]) rfl opvs_nil (by kernel_rfl) (SeqR.u rfl rfl (yl_store (vs := [.int .i64 (0), .int .i64 (0), .slice none 0 0, .slice none 0 0, .string (bs (([] : Str))), .string (bs (([] : Str))), .string (bs (([] : Str)))]) Tryd.ty48 rfl rfl rfl rfl rfl rfl (Box.ex (Box.only (Box.ex (Box.ex (Box.only (Box.ex (Box.ex hB19 hE25) hE33) hO36 (by omega)) hE708) hE727) hO733 (by omega)) hE764) (Nat.le_of_ble_eq_true rfl) ?_)))))
      intro w836 hB837 hO838
      have hB837 : Box w836 b15 48 [.int .i64 (0), .int .i64 (0), .slice none 0 0, .slice none 0 0, .string (bs (([] : Str))), .string (bs (([] : Str))), .string (bs (([] : Str)))] := hB837
      have hO838z := hO838.size
      refine sd rfl (yl_assign rfl rfl (SeqR.done (tn (CW.ret (tr (rr rfl (.cons ⟨_, rfl, run_loadN Tryd.ty48 (cs := [.int .i64 (0), .int .i64 (0), .slice none 0 0, .slice none 0 0, .string (bs (([] : Str))), .string (bs (([] : Str))), .string (bs (([] : Str)))]) rfl (hB837.cells (n := 7) rfl)⟩ (.cons rfl .nil)) ?_))))))
      have hM839 : (i_Table_readStmt p_0 p_1) = (((⟨0, (⟨0, (⟨[]⟩ : DRow), (⟨[]⟩ : DRow)⟩ : DRowAct), ([] : Str), ([] : Str), ([] : Str)⟩ : DStmt), false)) := by simp only [i_Table_readStmt, hb37, hb647, hb652, hb765, cond_true, cond_false, loopE_done, loopE_ret]
      rw [hM839]
      exact ⟨none, 0, w836.heap.size, w836.heap.size, none, 0, w836.heap.size, w836.heap.size, rfl, (OwnL.nil _ _ _ _ _ _), (OwnL.nil _ _ _ _ _ _), ⟨⟨(okL.nil _), (okL.nil _)⟩, (okS.lit rfl), (okS.lit rfl), (okS.lit rfl)⟩, (by omega), (by omega), (by omega), (Below.only (Ex.trans (Below.only (Ex.trans (Ex.trans (Below.only (Ex.trans (Ex.trans (Ex.trans (Ex.trans (Ex.refl w) hE14) hE20) hE25) hE33) hO36 (by omega)) hE708) hE727) hO733 (by omega)) hE764) hO838 (by omega))⟩
   ·refine CW.cond_f rfl hb652 (CW.seq (CW.region (sd rfl (yl_move rfl rfl (sd rfl (yl_len Tryd.un22 rfl rfl (sd rfl (yl_eql rfl rfl rfl (sd rfl (yl_assign rfl rfl (SeqR.done (tn ?_))))))))))))
    refine CW.cond_f rfl hb37 (CW.seq (CW.region (sd rfl (yl_move rfl rfl (sd rfl (yl_len Tryd.un22 rfl rfl (sd rfl (yl_eql rfl rfl rfl (sd rfl (yl_assign rfl rfl (SeqR.done (tn ?_))))))))))))
    refine CW.cond_t rfl hb647 ?_
    obtain ⟨eb851, eo851, ec851, eA851, eS851, ebl851, el851, eR851, eC851⟩ := RdS.atD (OwnL.rd good_Str q650) d_Str (i := 2) (by first | omega | assumption)
    obtain rfl := eR851
    have eC851 : Cells w34 eb851 (eo851 + 2 * 1) [.string (bs (((g_strings_Split p_1 ([32] : Str)).getD 2 d_Str)))] := eC851
    obtain ⟨eb853, eo853, ec853, eA853, eS853, ebl853, el853, eR853, eC853⟩ := RdS.atD (OwnL.rd good_Str q650) d_Str (i := 3) (by first | omega | assumption)
    obtain rfl := eR853
    have eC853 : Cells w34 eb853 (eo853 + 3 * 1) [.string (bs (((g_strings_Split p_1 ([32] : Str)).getD 3 d_Str)))] := eC853
    obtain ⟨eb855, eo855, ec855, eA855, eS855, ebl855, el855, eR855, eC855⟩ := RdS.atD (OwnL.rd good_Str q650) d_Str (i := 4) (by first | omega | assumption)
    obtain rfl := eR855
    have eC855 : Cells w34 eb855 (eo855 + 4 * 1) [.string (bs (((g_strings_Split p_1 ([32] : Str)).getD 4 d_Str)))] := eC855
    refine CW.drawsI 9 (vgetI [DetI (.slice A22 ((g_strings_Split p_1 ([32] : Str)).length) c22), DetI (.pointer (some ⟨eb851, eo851 + 2 * 1, none⟩)), DetI (.string (bs (((g_strings_Split p_1 ([32] : Str)).getD 2 d_Str)))), DetI (.slice A22 ((g_strings_Split p_1 ([32] : Str)).length) c22), DetI (.pointer (some ⟨eb853, eo853 + 3 * 1, none⟩)), DetI (.string (bs (((g_strings_Split p_1 ([32] : Str)).getD 3 d_Str)))), DetI (.slice A22 ((g_strings_Split p_1 ([32] : Str)).length) c22), DetI (.pointer (some ⟨eb855, eo855 + 4 * 1, none⟩)), DetI (.string (bs (((g_strings_Split p_1 ([32] : Str)).getD 4 d_Str))))]) Tryd.follows rfl rfl rfl rfl rfl rfl (vgetI_stable ⟨StableI.det _, StableI.det _, StableI.det _, StableI.det _, StableI.det _, StableI.det _, StableI.det _, StableI.det _, StableI.det _, trivial⟩) ⟨?_, ?_, ?_, ?_, ?_, ?_, ?_, ?_, ?_, trivial⟩ ?_
    ·exact fun _ _ h => os rfl ((yl_move rfl (h.old 6 _ rfl rfl) kI))
    ·intro L861 w862 hi863
     have hE864 := hi863.ex
     have hE864z := Ex.size hE864
     exact os rfl ((yl_indexAddrN Tryd.un22 Tryd.ty9 rfl (hi863.dt 0 75 rfl rfl rfl) rfl eA851 (by first | omega | assumption | (simp only [IntKind.wrap_i64] at *; omega)) kI))
    ·exact fun _ _ h => os rfl ((yl_load1 Tryd.ty9 rfl (h.dt 1 76 rfl rfl rfl) ((Cells.ex eC851 h.ex) 0 _ rfl) kI))
    ·exact fun _ _ h => os rfl ((yl_move rfl (h.old 6 _ rfl rfl) kI))
    ·intro L877 w878 hi879
     have hE880 := hi879.ex
     have hE880z := Ex.size hE880
     exact os rfl ((yl_indexAddrN Tryd.un22 Tryd.ty9 rfl (hi879.dt 3 78 rfl rfl rfl) rfl eA853 (by first | omega | assumption | (simp only [IntKind.wrap_i64] at *; omega)) kI))
    ·exact fun _ _ h => os rfl ((yl_load1 Tryd.ty9 rfl (h.dt 4 79 rfl rfl rfl) ((Cells.ex eC853 h.ex) 0 _ rfl) kI))
    ·exact fun _ _ h => os rfl ((yl_move rfl (h.old 6 _ rfl rfl) kI))
    ·intro L893 w894 hi895
     have hE896 := hi895.ex
     have hE896z := Ex.size hE896
     exact os rfl ((yl_indexAddrN Tryd.un22 Tryd.ty9 rfl (hi895.dt 6 81 rfl rfl rfl) rfl eA855 (by first | omega | assumption | (simp only [IntKind.wrap_i64] at *; omega)) kI))
    ·exact fun _ _ h => os rfl ((yl_load1 Tryd.ty9 rfl (h.dt 7 82 rfl rfl rfl) ((Cells.ex eC855 h.ex) 0 _ rfl) kI))
    ·intro fl907 fh908 L904 w905 hp906
     have hE909 := hp906.ex
     have hE909z := Ex.size hE909
     have hx913 := hp906.old 7 _ rfl rfl
     refine sd rfl (yl_build (cs := [.int .i64 (3), .int .i64 (0), .slice none 0 0, .slice none 0 0, .string (bs (((g_strings_Split p_1 ([32] : Str)).getD 2 d_Str))), .string (bs (((g_strings_Split p_1 ([32] : Str)).getD 3 d_Str))), .string (bs (((g_strings_Split p_1 ([32] : Str)).getD 4 d_Str)))]) rfl (opvs_cons rfl (opvs_cons (hp906.nt 2 77 rfl rfl rfl) (opvs_cons (hp906.nt 5 80 rfl rfl rfl) (opvs_cons (hp906.nt 8 83 rfl rfl rfl) opvs_nil)))) (by kernel_rfl) (SeqR.u rfl rfl (yl_store (vs := [.int .i64 (3), .int .i64 (0), .slice none 0 0, .slice none 0 0, .string (bs (((g_strings_Split p_1 ([32] : Str)).getD 2 d_Str))), .string (bs (((g_strings_Split p_1 ([32] : Str)).getD 3 d_Str))), .string (bs (((g_strings_Split p_1 ([32] : Str)).getD 4 d_Str)))]) Tryd.ty48 rfl hx913 rfl rfl rfl rfl (Box.ex hB35 hE909) (Nat.le_of_ble_eq_true rfl) ?_)))
     intro w918 hB919 hO920
     have hB919 : Box w918 b28 48 [.int .i64 (3), .int .i64 (0), .slice none 0 0, .slice none 0 0, .string (bs (((g_strings_Split p_1 ([32] : Str)).getD 2 d_Str))), .string (bs (((g_strings_Split p_1 ([32] : Str)).getD 3 d_Str))), .string (bs (((g_strings_Split p_1 ([32] : Str)).getD 4 d_Str)))] := hB919
     have hO920z := hO920.size
     refine SeqR.done (bn (tn (CW.sub (Sub.cons (d := 1) (hp906.old 1 _ rfl rfl) (Sub.cons (d := 2) (hp906.old 2 _ rfl rfl) (Sub.cons (d := 4) (hp906.old 4 _ rfl rfl) (Sub.cons (d := 7) hx913 (Sub.nil _))))) (CW.seq (CW.seq (CW.region ?_))))))
     have q926 := Box.only (Box.ex (Box.only (Box.ex (Box.ex (Box.ex hB13 hE20) hE25) hE33) hO36 (by omega)) hE909) hO920 (by omega)
     refine sd rfl (yl_loadN (cs := [.string (bs (p_0.Name)), .slice A1 p_0.Cols.length c1, .slice A2 p_0.Idxs.length c2]) Tryd.ty36 rfl rfl (q926.cells (n := 3) rfl) rfl (sd rfl (yl_loadN (cs := [.int .i64 (3), .int .i64 (0), .slice none 0 0, .slice none 0 0, .string (bs (((g_strings_Split p_1 ([32] : Str)).getD 2 d_Str))), .string (bs (((g_strings_Split p_1 ([32] : Str)).getD 3 d_Str))), .string (bs (((g_strings_Split p_1 ([32] : Str)).getD 4 d_Str)))]) Tryd.ty48 rfl rfl (hB919.cells (n := 7) rfl) rfl ?_)))
     have q933 := RdS.only good_Str (RdS.ex good_Str (RdS.only good_Str (RdS.ex good_Str (RdS.ex good_Str (RdS.ex good_Str (RdS.ex good_Str h1 hE14) hE20) hE25) hE33) hO36 (by simp only [Iv]; omega)) hE909) hO920 (by simp only [Iv]; omega)
     have q940 := RdS.only good_Idx (RdS.ex good_Idx (RdS.only good_Idx (RdS.ex good_Idx (RdS.ex good_Idx (RdS.ex good_Idx (RdS.ex good_Idx h2 hE14) hE20) hE25) hE33) hO36 (by simp only [Iv]; omega)) hE909) hO920 (by simp only [Iv]; omega)
     refine sd rfl (yl_call Tryd.en61 rfl (opvs_cons rfl (opvs_cons rfl opvs_nil)) (Cal.mono (c_i_Table_isStmt p_0 (⟨3, (⟨0, (⟨[]⟩ : DRow), (⟨[]⟩ : DRow)⟩ : DRowAct), ((g_strings_Split p_1 ([32] : Str)).getD 2 d_Str), ((g_strings_Split p_1 ([32] : Str)).getD 3 d_Str), ((g_strings_Split p_1 ([32] : Str)).getD 4 d_Str)⟩ : DStmt) (RdS.up q933 good_Str) (RdS.up q940 good_Idx) (RdS.nil _ _ _ _ _ _ (by decide)) (RdS.nil _ _ _ _ _ _ (by decide)) o3 (⟨⟨(okL.nil _), (okL.nil _)⟩, (okL.getD ho23 ok_d_Str _), (okL.getD ho23 ok_d_Str _), (okL.getD ho23 ok_d_Str _)⟩) (by first | omega | assumption | (simp only [IntKind.wrap_i64] at *; omega))) ?_))
     rintro v942 w941 ⟨rfl, hE943⟩
     have hE943z := Ex.size hE943
     refine sd rfl (yl_not rfl rfl (sd rfl (yl_move rfl rfl (bcase (i_Table_isStmt p_0 (⟨3, (⟨0, (⟨[]⟩ : DRow), (⟨[]⟩ : DRow)⟩ : DRowAct), ((g_strings_Split p_1 ([32] : Str)).getD 2 d_Str), ((g_strings_Split p_1 ([32] : Str)).getD 3 d_Str), ((g_strings_Split p_1 ([32] : Str)).getD 4 d_Str)⟩ : DStmt)) (fun hb944 => ?_) (fun hb944 => ?_)))))
     ·have hb944p := f_isStmt pre0 hb944
      refine sy rfl rfl (not_t hb944) (yl_loadN (cs := [.string (bs (p_0.Name)), .slice A1 p_0.Cols.length c1, .slice A2 p_0.Idxs.length c2]) Tryd.ty36 rfl rfl ((Box.ex q926 hE943).cells (n := 3) rfl) rfl ?_)
      have q946 := Box.ex hB919 hE943
      refine sy rfl rfl (not_t hb944) (yl_loadN (cs := [.int .i64 (3), .int .i64 (0), .slice none 0 0, .slice none 0 0, .string (bs (((g_strings_Split p_1 ([32] : Str)).getD 2 d_Str))), .string (bs (((g_strings_Split p_1 ([32] : Str)).getD 3 d_Str))), .string (bs (((g_strings_Split p_1 ([32] : Str)).getD 4 d_Str)))]) Tryd.ty48 rfl rfl (q946.cells (n := 7) rfl) rfl (sy rfl rfl (not_t hb944) (yl_call Tryd.en62 rfl (opvs_cons rfl (opvs_cons rfl opvs_nil)) (Cal.mono (c_i_Table_stmtText p_0 (⟨3, (⟨0, (⟨[]⟩ : DRow), (⟨[]⟩ : DRow)⟩ : DRowAct), ((g_strings_Split p_1 ([32] : Str)).getD 2 d_Str), ((g_strings_Split p_1 ([32] : Str)).getD 3 d_Str), ((g_strings_Split p_1 ([32] : Str)).getD 4 d_Str)⟩ : DStmt) (RdS.up (RdS.ex good_Str q933 hE943) good_Str) (RdS.up (RdS.ex good_Idx q940 hE943) good_Idx) (RdS.nil _ _ _ _ _ _ (by decide)) (RdS.nil _ _ _ _ _ _ (by decide)) o3 (⟨⟨(okL.nil _), (okL.nil _)⟩, (okL.getD ho23 ok_d_Str _), (okL.getD ho23 ok_d_Str _), (okL.getD ho23 ok_d_Str _)⟩) (by first | omega | assumption | (simp only [IntKind.wrap_i64] at *; omega))) ?_))))
      rintro v950 w949 ⟨rfl, hE951⟩
      have hE951z := Ex.size hE951
      refine sy rfl rfl (not_t hb944) (yl_move rfl rfl (sy rfl rfl (not_t hb944) (yl_sneq (a := (i_Table_stmtText p_0 (⟨3, (⟨0, (⟨[]⟩ : DRow), (⟨[]⟩ : DRow)⟩ : DRowAct), ((g_strings_Split p_1 ([32] : Str)).getD 2 d_Str), ((g_strings_Split p_1 ([32] : Str)).getD 3 d_Str), ((g_strings_Split p_1 ([32] : Str)).getD 4 d_Str)⟩ : DStmt))) (b := p_1) rfl rfl rfl (sd rfl (yl_pick_f rfl rfl (not_t hb944) rfl (SeqR.done (tn (bcase ((i_Table_stmtText p_0 (⟨3, (⟨0, (⟨[]⟩ : DRow), (⟨[]⟩ : DRow)⟩ : DRowAct), ((g_strings_Split p_1 ([32] : Str)).getD 2 d_Str), ((g_strings_Split p_1 ([32] : Str)).getD 3 d_Str), ((g_strings_Split p_1 ([32] : Str)).getD 4 d_Str)⟩ : DStmt)) == p_1) (fun hb952 => ?_) (fun hb952 => ?_)))))))))
      ·refine CW.cond_f rfl (not_t hb952) (CW.skip (tn (CW.seq (CW.region (sd rfl (yl_loadN (cs := [.int .i64 (3), .int .i64 (0), .slice none 0 0, .slice none 0 0, .string (bs (((g_strings_Split p_1 ([32] : Str)).getD 2 d_Str))), .string (bs (((g_strings_Split p_1 ([32] : Str)).getD 3 d_Str))), .string (bs (((g_strings_Split p_1 ([32] : Str)).getD 4 d_Str)))]) Tryd.ty48 rfl rfl ((Box.ex q946 hE951).cells (n := 7) rfl) rfl (SeqR.u rfl rfl (yl_store (vs := [.int .i64 (3), .int .i64 (0), .slice none 0 0, .slice none 0 0, .string (bs (((g_strings_Split p_1 ([32] : Str)).getD 2 d_Str))), .string (bs (((g_strings_Split p_1 ([32] : Str)).getD 3 d_Str))), .string (bs (((g_strings_Split p_1 ([32] : Str)).getD 4 d_Str)))]) Tryd.ty48 rfl rfl rfl rfl rfl rfl (Box.ex (Box.ex (Box.only (Box.ex (Box.only (Box.ex (Box.ex hB19 hE25) hE33) hO36 (by omega)) hE909) hO920 (by omega)) hE943) hE951) (Nat.le_of_ble_eq_true rfl) ?_))))))))
       intro w961 hB962 hO963
       have hB962 : Box w961 b15 48 [.int .i64 (3), .int .i64 (0), .slice none 0 0, .slice none 0 0, .string (bs (((g_strings_Split p_1 ([32] : Str)).getD 2 d_Str))), .string (bs (((g_strings_Split p_1 ([32] : Str)).getD 3 d_Str))), .string (bs (((g_strings_Split p_1 ([32] : Str)).getD 4 d_Str)))] := hB962
       have hO963z := hO963.size
       refine sd rfl (yl_assign rfl rfl (SeqR.done (tn (CW.ret (rr rfl (.cons ⟨_, rfl, run_loadN Tryd.ty48 (cs := [.int .i64 (3), .int .i64 (0), .slice none 0 0, .slice none 0 0, .string (bs (((g_strings_Split p_1 ([32] : Str)).getD 2 d_Str))), .string (bs (((g_strings_Split p_1 ([32] : Str)).getD 3 d_Str))), .string (bs (((g_strings_Split p_1 ([32] : Str)).getD 4 d_Str)))]) rfl (hB962.cells (n := 7) rfl)⟩ (.cons rfl .nil)) ?_)))))
       have hM964 : (i_Table_readStmt p_0 p_1) = (((⟨3, (⟨0, (⟨[]⟩ : DRow), (⟨[]⟩ : DRow)⟩ : DRowAct), ((g_strings_Split p_1 ([32] : Str)).getD 2 d_Str), ((g_strings_Split p_1 ([32] : Str)).getD 3 d_Str), ((g_strings_Split p_1 ([32] : Str)).getD 4 d_Str)⟩ : DStmt), true)) := by simp only [i_Table_readStmt, hb37, hb647, hb652, hb944, hb952, cond_true, cond_false, loopE_done, loopE_ret]
       rw [hM964]
       exact ⟨none, 0, w961.heap.size, w961.heap.size, none, 0, w961.heap.size, w961.heap.size, rfl, (OwnL.nil _ _ _ _ _ _), (OwnL.nil _ _ _ _ _ _), ⟨⟨(okL.nil _), (okL.nil _)⟩, (okL.getD ho23 ok_d_Str _), (okL.getD ho23 ok_d_Str _), (okL.getD ho23 ok_d_Str _)⟩, (by omega), (by omega), (by omega), (Below.only (Ex.trans (Ex.trans (Below.only (Ex.trans (Below.only (Ex.trans (Ex.trans (Ex.trans (Ex.trans (Ex.refl w) hE14) hE20) hE25) hE33) hO36 (by omega)) hE909) hO920 (by omega)) hE943) hE951) hO963 (by omega))⟩
      ·refine CW.cond_t rfl (not_f hb952) (CW.seq (CW.region (sd rfl (yl_build (cs := [.int .i64 (0), .int .i64 (0), .slice none 0 0, .slice none 0 0, .string (bs (([] : Str))), .string (bs (([] : Str))), .string (bs (([] : Str)))]) rfl opvs_nil (by kernel_rfl) (SeqR.u rfl rfl (yl_store (vs := [.int .i64 (0), .int .i64 (0), .slice none 0 0, .slice none 0 0, .string (bs (([] : Str))), .string (bs (([] : Str))), .string (bs (([] : Str)))]) Tryd.ty48 rfl rfl rfl rfl rfl rfl (Box.ex (Box.ex (Box.only (Box.ex (Box.only (Box.ex (Box.ex hB19 hE25) hE33) hO36 (by omega)) hE909) hO920 (by omega)) hE943) hE951) (Nat.le_of_ble_eq_true rfl) ?_))))))
       intro w982 hB983 hO984
       have hB983 : Box w982 b15 48 [.int .i64 (0), .int .i64 (0), .slice none 0 0, .slice none 0 0, .string (bs (([] : Str))), .string (bs (([] : Str))), .string (bs (([] : Str)))] := hB983
       have hO984z := hO984.size
       refine sd rfl (yl_assign rfl rfl (SeqR.done (tn (CW.ret (tr (rr rfl (.cons ⟨_, rfl, run_loadN Tryd.ty48 (cs := [.int .i64 (0), .int .i64 (0), .slice none 0 0, .slice none 0 0, .string (bs (([] : Str))), .string (bs (([] : Str))), .string (bs (([] : Str)))]) rfl (hB983.cells (n := 7) rfl)⟩ (.cons rfl .nil)) ?_))))))
       have hM985 : (i_Table_readStmt p_0 p_1) = (((⟨0, (⟨0, (⟨[]⟩ : DRow), (⟨[]⟩ : DRow)⟩ : DRowAct), ([] : Str), ([] : Str), ([] : Str)⟩ : DStmt), false)) := by simp only [i_Table_readStmt, hb37, hb647, hb652, hb944, hb952, cond_true, cond_false, loopE_done, loopE_ret]
       rw [hM985]
       exact ⟨none, 0, w982.heap.size, w982.heap.size, none, 0, w982.heap.size, w982.heap.size, rfl, (OwnL.nil _ _ _ _ _ _), (OwnL.nil _ _ _ _ _ _), ⟨⟨(okL.nil _), (okL.nil _)⟩, (okS.lit rfl), (okS.lit rfl), (okS.lit rfl)⟩, (by omega), (by omega), (by omega), (Below.only (Ex.trans (Ex.trans (Below.only (Ex.trans (Below.only (Ex.trans (Ex.trans (Ex.trans (Ex.trans (Ex.refl w) hE14) hE20) hE25) hE33) hO36 (by omega)) hE909) hO920 (by omega)) hE943) hE951) hO984 (by omega))⟩
     ·refine sz rfl rfl (not_f hb944) (sz rfl rfl (not_f hb944) (sz rfl rfl (not_f hb944) (sz rfl rfl (not_f hb944) (sz rfl rfl (not_f hb944) (sd rfl (yl_pick_t rfl rfl (not_f hb944) rfl (SeqR.done (tn (CW.cond_t rfl rfl ?_)))))))))
      refine CW.seq (CW.region (sd rfl (yl_build (cs := [.int .i64 (0), .int .i64 (0), .slice none 0 0, .slice none 0 0, .string (bs (([] : Str))), .string (bs (([] : Str))), .string (bs (([] : Str)))]) rfl opvs_nil (by kernel_rfl) (SeqR.u rfl rfl (yl_store (vs := [.int .i64 (0), .int .i64 (0), .slice none 0 0, .slice none 0 0, .string (bs (([] : Str))), .string (bs (([] : Str))), .string (bs (([] : Str)))]) Tryd.ty48 rfl rfl rfl rfl rfl rfl (Box.ex (Box.only (Box.ex (Box.only (Box.ex (Box.ex hB19 hE25) hE33) hO36 (by omega)) hE909) hO920 (by omega)) hE943) (Nat.le_of_ble_eq_true rfl) ?_)))))
      intro w1002 hB1003 hO1004
      have hB1003 : Box w1002 b15 48 [.int .i64 (0), .int .i64 (0), .slice none 0 0, .slice none 0 0, .string (bs (([] : Str))), .string (bs (([] : Str))), .string (bs (([] : Str)))] := hB1003
      have hO1004z := hO1004.size
      refine sd rfl (yl_assign rfl rfl (SeqR.done (tn (CW.ret (tr (rr rfl (.cons ⟨_, rfl, run_loadN Tryd.ty48 (cs := [.int .i64 (0), .int .i64 (0), .slice none 0 0, .slice none 0 0, .string (bs (([] : Str))), .string (bs (([] : Str))), .string (bs (([] : Str)))]) rfl (hB1003.cells (n := 7) rfl)⟩ (.cons rfl .nil)) ?_))))))
      have hM1005 : (i_Table_readStmt p_0 p_1) = (((⟨0, (⟨0, (⟨[]⟩ : DRow), (⟨[]⟩ : DRow)⟩ : DRowAct), ([] : Str), ([] : Str), ([] : Str)⟩ : DStmt), false)) := by simp only [i_Table_readStmt, hb37, hb647, hb652, hb944, cond_true, cond_false, loopE_done, loopE_ret]
      rw [hM1005]
      exact ⟨none, 0, w1002.heap.size, w1002.heap.size, none, 0, w1002.heap.size, w1002.heap.size, rfl, (OwnL.nil _ _ _ _ _ _), (OwnL.nil _ _ _ _ _ _), ⟨⟨(okL.nil _), (okL.nil _)⟩, (okS.lit rfl), (okS.lit rfl), (okS.lit rfl)⟩, (by omega), (by omega), (by omega), (Below.only (Ex.trans (Below.only (Ex.trans (Below.only (Ex.trans (Ex.trans (Ex.trans (Ex.trans (Ex.refl w) hE14) hE20) hE25) hE33) hO36 (by omega)) hE909) hO920 (by omega)) hE943) hO1004 (by omega))⟩
  ·have hb647p := dec_f hb647
   refine sz rfl rfl hb647 (sz rfl rfl hb647 (sz rfl rfl hb647 (sz rfl rfl hb647 (sd rfl (yl_pick_f rfl rfl hb647 rfl (sd rfl (yl_assign rfl rfl (SeqR.done (tn (CW.cond_f rfl rfl ?_))))))))))
   refine CW.seq (CW.region (sd rfl (yl_move rfl rfl (sd rfl (yl_len Tryd.un22 rfl rfl (sd rfl (yl_eql rfl rfl rfl (sd rfl (yl_assign rfl rfl (SeqR.done (tn (CW.cond_f rfl hb37 ?_))))))))))))
   refine CW.seq (CW.region (sd rfl (yl_move rfl rfl (sd rfl (yl_len Tryd.un22 rfl rfl (sd rfl (yl_eql rfl rfl rfl (sd rfl (yl_assign rfl rfl (SeqR.done (tn (CW.cond_f rfl hb647 ?_))))))))))))
   refine CW.skip (bn (tn (CW.seq (CW.seq (CW.region ?_)))))
   have q1018 := Box.only (Box.ex (Box.ex (Box.ex hB13 hE20) hE25) hE33) hO36 (by omega)
   refine sd rfl (yl_loadN (cs := [.string (bs (p_0.Name)), .slice A1 p_0.Cols.length c1, .slice A2 p_0.Idxs.length c2]) Tryd.ty36 rfl rfl (q1018.cells (n := 3) rfl) rfl (sd rfl (yl_loadN (cs := [.int .i64 (1), .int .i64 (0), .slice none 0 0, .slice none 0 0, .string (bs (([] : Str))), .string (bs (([] : Str))), .string (bs (([] : Str)))]) Tryd.ty48 rfl rfl (hB35.cells (n := 7) rfl) rfl ?_)))
   have q1023 := RdS.only good_Str (RdS.ex good_Str (RdS.ex good_Str (RdS.ex good_Str (RdS.ex good_Str h1 hE14) hE20) hE25) hE33) hO36 (by simp only [Iv]; omega)
   have q1028 := RdS.only good_Idx (RdS.ex good_Idx (RdS.ex good_Idx (RdS.ex good_Idx (RdS.ex good_Idx h2 hE14) hE20) hE25) hE33) hO36 (by simp only [Iv]; omega)
   refine sd rfl (yl_call Tryd.en61 rfl (opvs_cons rfl (opvs_cons rfl opvs_nil)) (Cal.mono (c_i_Table_isStmt p_0 (⟨1, (⟨0, (⟨[]⟩ : DRow), (⟨[]⟩ : DRow)⟩ : DRowAct), ([] : Str), ([] : Str), ([] : Str)⟩ : DStmt) (RdS.up q1023 good_Str) (RdS.up q1028 good_Idx) (RdS.nil _ _ _ _ _ _ (by decide)) (RdS.nil _ _ _ _ _ _ (by decide)) o3 (⟨⟨(okL.nil _), (okL.nil _)⟩, (okS.lit rfl), (okS.lit rfl), (okS.lit rfl)⟩) (by first | omega | assumption | (simp only [IntKind.wrap_i64] at *; omega))) ?_))
   rintro v1030 w1029 ⟨rfl, hE1031⟩
   have hE1031z := Ex.size hE1031
   refine sd rfl (yl_not rfl rfl (sd rfl (yl_move rfl rfl (bcase (i_Table_isStmt p_0 (⟨1, (⟨0, (⟨[]⟩ : DRow), (⟨[]⟩ : DRow)⟩ : DRowAct), ([] : Str), ([] : Str), ([] : Str)⟩ : DStmt)) (fun hb1032 => ?_) (fun hb1032 => ?_)))))
   ·have hb1032p := f_isStmt pre0 hb1032
    refine sy rfl rfl (not_t hb1032) (yl_loadN (cs := [.string (bs (p_0.Name)), .slice A1 p_0.Cols.length c1, .slice A2 p_0.Idxs.length c2]) Tryd.ty36 rfl rfl ((Box.ex q1018 hE1031).cells (n := 3) rfl) rfl ?_)
    have q1034 := Box.ex hB35 hE1031
    refine sy rfl rfl (not_t hb1032) (yl_loadN (cs := [.int .i64 (1), .int .i64 (0), .slice none 0 0, .slice none 0 0, .string (bs (([] : Str))), .string (bs (([] : Str))), .string (bs (([] : Str)))]) Tryd.ty48 rfl rfl (q1034.cells (n := 7) rfl) rfl (sy rfl rfl (not_t hb1032) (yl_call Tryd.en62 rfl (opvs_cons rfl (opvs_cons rfl opvs_nil)) (Cal.mono (c_i_Table_stmtText p_0 (⟨1, (⟨0, (⟨[]⟩ : DRow), (⟨[]⟩ : DRow)⟩ : DRowAct), ([] : Str), ([] : Str), ([] : Str)⟩ : DStmt) (RdS.up (RdS.ex good_Str q1023 hE1031) good_Str) (RdS.up (RdS.ex good_Idx q1028 hE1031) good_Idx) (RdS.nil _ _ _ _ _ _ (by decide)) (RdS.nil _ _ _ _ _ _ (by decide)) o3 (⟨⟨(okL.nil _), (okL.nil _)⟩, (okS.lit rfl), (okS.lit rfl), (okS.lit rfl)⟩) (by first | omega | assumption | (simp only [IntKind.wrap_i64] at *; omega))) ?_))))
    rintro v1038 w1037 ⟨rfl, hE1039⟩
    have hE1039z := Ex.size hE1039
    refine sy rfl rfl (not_t hb1032) (yl_move rfl rfl (sy rfl rfl (not_t hb1032) (yl_sneq (a := (i_Table_stmtText p_0 (⟨1, (⟨0, (⟨[]⟩ : DRow), (⟨[]⟩ : DRow)⟩ : DRowAct), ([] : Str), ([] : Str), ([] : Str)⟩ : DStmt))) (b := p_1) rfl rfl rfl (sd rfl (yl_pick_f rfl rfl (not_t hb1032) rfl (SeqR.done (tn (bcase ((i_Table_stmtText p_0 (⟨1, (⟨0, (⟨[]⟩ : DRow), (⟨[]⟩ : DRow)⟩ : DRowAct), ([] : Str), ([] : Str), ([] : Str)⟩ : DStmt)) == p_1) (fun hb1040 => ?_) (fun hb1040 => ?_)))))))))
    ·refine CW.cond_f rfl (not_t hb1040) (CW.skip (tn (CW.seq (CW.region (sd rfl (yl_loadN (cs := [.int .i64 (1), .int .i64 (0), .slice none 0 0, .slice none 0 0, .string (bs (([] : Str))), .string (bs (([] : Str))), .string (bs (([] : Str)))]) Tryd.ty48 rfl rfl ((Box.ex q1034 hE1039).cells (n := 7) rfl) rfl (SeqR.u rfl rfl (yl_store (vs := [.int .i64 (1), .int .i64 (0), .slice none 0 0, .slice none 0 0, .string (bs (([] : Str))), .string (bs (([] : Str))), .string (bs (([] : Str)))]) Tryd.ty48 rfl rfl rfl rfl rfl rfl (Box.ex (Box.ex (Box.only (Box.ex (Box.ex hB19 hE25) hE33) hO36 (by omega)) hE1031) hE1039) (Nat.le_of_ble_eq_true rfl) ?_))))))))
     intro w1047 hB1048 hO1049
     have hB1048 : Box w1047 b15 48 [.int .i64 (1), .int .i64 (0), .slice none 0 0, .slice none 0 0, .string (bs (([] : Str))), .string (bs (([] : Str))), .string (bs (([] : Str)))] := hB1048
     have hO1049z := hO1049.size
     refine sd rfl (yl_assign rfl rfl (SeqR.done (tn (CW.ret (rr rfl (.cons ⟨_, rfl, run_loadN Tryd.ty48 (cs := [.int .i64 (1), .int .i64 (0), .slice none 0 0, .slice none 0 0, .string (bs (([] : Str))), .string (bs (([] : Str))), .string (bs (([] : Str)))]) rfl (hB1048.cells (n := 7) rfl)⟩ (.cons rfl .nil)) ?_)))))
     have hM1050 : (i_Table_readStmt p_0 p_1) = (((⟨1, (⟨0, (⟨[]⟩ : DRow), (⟨[]⟩ : DRow)⟩ : DRowAct), ([] : Str), ([] : Str), ([] : Str)⟩ : DStmt), true)) := by simp only [i_Table_readStmt, hb37, hb647, hb1032, hb1040, cond_true, cond_false, loopE_done, loopE_ret]
     rw [hM1050]
     exact ⟨none, 0, w1047.heap.size, w1047.heap.size, none, 0, w1047.heap.size, w1047.heap.size, rfl, (OwnL.nil _ _ _ _ _ _), (OwnL.nil _ _ _ _ _ _), ⟨⟨(okL.nil _), (okL.nil _)⟩, (okS.lit rfl), (okS.lit rfl), (okS.lit rfl)⟩, (by omega), (by omega), (by omega), (Below.only (Ex.trans (Ex.trans (Below.only (Ex.trans (Ex.trans (Ex.trans (Ex.trans (Ex.refl w) hE14) hE20) hE25) hE33) hO36 (by omega)) hE1031) hE1039) hO1049 (by omega))⟩
    ·refine CW.cond_t rfl (not_f hb1040) (CW.seq (CW.region (sd rfl (yl_build (cs := [.int .i64 (0), .int .i64 (0), .slice none 0 0, .slice none 0 0, .string (bs (([] : Str))), .string (bs (([] : Str))), .string (bs (([] : Str)))]) rfl opvs_nil (by kernel_rfl) (SeqR.u rfl rfl (yl_store (vs := [.int .i64 (0), .int .i64 (0), .slice none 0 0, .slice none 0 0, .string (bs (([] : Str))), .string (bs (([] : Str))), .string (bs (([] : Str)))]) Tryd.ty48 rfl rfl rfl rfl rfl rfl (Box.ex (Box.ex (Box.only (Box.ex (Box.ex hB19 hE25) hE33) hO36 (by omega)) hE1031) hE1039) (Nat.le_of_ble_eq_true rfl) ?_))))))
     intro w1064 hB1065 hO1066
     have hB1065 : Box w1064 b15 48 [.int .i64 (0), .int .i64 (0), .slice none 0 0, .slice none 0 0, .string (bs (([] : Str))), .string (bs (([] : Str))), .string (bs (([] : Str)))] := hB1065
     have hO1066z := hO1066.size
     refine sd rfl (yl_assign rfl rfl (SeqR.done (tn (CW.ret (tr (rr rfl (.cons ⟨_, rfl, run_loadN Tryd.ty48 (cs := [.int .i64 (0), .int .i64 (0), .slice none 0 0, .slice none 0 0, .string (bs (([] : Str))), .string (bs (([] : Str))), .string (bs (([] : Str)))]) rfl (hB1065.cells (n := 7) rfl)⟩ (.cons rfl .nil)) ?_))))))
     have hM1067 : (i_Table_readStmt p_0 p_1) = (((⟨0, (⟨0, (⟨[]⟩ : DRow), (⟨[]⟩ : DRow)⟩ : DRowAct), ([] : Str), ([] : Str), ([] : Str)⟩ : DStmt), false)) := by simp only [i_Table_readStmt, hb37, hb647, hb1032, hb1040, cond_true, cond_false, loopE_done, loopE_ret]
     rw [hM1067]
     exact ⟨none, 0, w1064.heap.size, w1064.heap.size, none, 0, w1064.heap.size, w1064.heap.size, rfl, (OwnL.nil _ _ _ _ _ _), (OwnL.nil _ _ _ _ _ _), ⟨⟨(okL.nil _), (okL.nil _)⟩, (okS.lit rfl), (okS.lit rfl), (okS.lit rfl)⟩, (by omega), (by omega), (by omega), (Below.only (Ex.trans (Ex.trans (Below.only (Ex.trans (Ex.trans (Ex.trans (Ex.trans (Ex.refl w) hE14) hE20) hE25) hE33) hO36 (by omega)) hE1031) hE1039) hO1066 (by omega))⟩
   ·refine sz rfl rfl (not_f hb1032) (sz rfl rfl (not_f hb1032) (sz rfl rfl (not_f hb1032) (sz rfl rfl (not_f hb1032) (sz rfl rfl (not_f hb1032) (sd rfl (yl_pick_t rfl rfl (not_f hb1032) rfl (SeqR.done (tn (CW.cond_t rfl rfl ?_)))))))))
    refine CW.seq (CW.region (sd rfl (yl_build (cs := [.int .i64 (0), .int .i64 (0), .slice none 0 0, .slice none 0 0, .string (bs (([] : Str))), .string (bs (([] : Str))), .string (bs (([] : Str)))]) rfl opvs_nil (by kernel_rfl) (SeqR.u rfl rfl (yl_store (vs := [.int .i64 (0), .int .i64 (0), .slice none 0 0, .slice none 0 0, .string (bs (([] : Str))), .string (bs (([] : Str))), .string (bs (([] : Str)))]) Tryd.ty48 rfl rfl rfl rfl rfl rfl (Box.ex (Box.only (Box.ex (Box.ex hB19 hE25) hE33) hO36 (by omega)) hE1031) (Nat.le_of_ble_eq_true rfl) ?_)))))
    intro w1080 hB1081 hO1082
    have hB1081 : Box w1080 b15 48 [.int .i64 (0), .int .i64 (0), .slice none 0 0, .slice none 0 0, .string (bs (([] : Str))), .string (bs (([] : Str))), .string (bs (([] : Str)))] := hB1081
    have hO1082z := hO1082.size
    refine sd rfl (yl_assign rfl rfl (SeqR.done (tn (CW.ret (tr (rr rfl (.cons ⟨_, rfl, run_loadN Tryd.ty48 (cs := [.int .i64 (0), .int .i64 (0), .slice none 0 0, .slice none 0 0, .string (bs (([] : Str))), .string (bs (([] : Str))), .string (bs (([] : Str)))]) rfl (hB1081.cells (n := 7) rfl)⟩ (.cons rfl .nil)) ?_))))))
    have hM1083 : (i_Table_readStmt p_0 p_1) = (((⟨0, (⟨0, (⟨[]⟩ : DRow), (⟨[]⟩ : DRow)⟩ : DRowAct), ([] : Str), ([] : Str), ([] : Str)⟩ : DStmt), false)) := by simp only [i_Table_readStmt, hb37, hb647, hb1032, cond_true, cond_false, loopE_done, loopE_ret]
    rw [hM1083]
    exact ⟨none, 0, w1080.heap.size, w1080.heap.size, none, 0, w1080.heap.size, w1080.heap.size, rfl, (OwnL.nil _ _ _ _ _ _), (OwnL.nil _ _ _ _ _ _), ⟨⟨(okL.nil _), (okL.nil _)⟩, (okS.lit rfl), (okS.lit rfl), (okS.lit rfl)⟩, (by omega), (by omega), (by omega), (Below.only (Ex.trans (Below.only (Ex.trans (Ex.trans (Ex.trans (Ex.trans (Ex.refl w) hE14) hE20) hE25) hE33) hO36 (by omega)) hE1031) hO1082 (by omega))⟩
set_option maxRecDepth 100000 in
set_option maxHeartbeats 2000000 in
theorem c_i_ReadStmt {A1 : Option Addr} {c1 : Nat} {A2 : Option Addr} {c2 : Nat} {w : World} (p_t : DTable) (p_text : Str) (h1 : RdS w (Iv 0 w.heap.size) (RF e_Str) 1 A1 p_t.Cols.length c1 p_t.Cols) (h2 : RdS w (Iv 0 w.heap.size) (RF e_Idx) 3 A2 p_t.Idxs.length c2 p_t.Idxs) (o3 : ok_Table p_t) (o4 : okS p_text) : Cal Tryd.prog 17 #[.agg #[.string (bs (p_t.Name)), .slice A1 p_t.Cols.length c1, .slice A2 p_t.Idxs.length c2], .string (bs (p_text))] w fun v w' => ∃ A_1 c_1 lo_1 hi_1 A_2 c_2 lo_2 hi_2, v = .tuple #[.agg #[.int .i64 ((i_ReadStmt p_t p_text).1.Kind), .int .i64 ((i_ReadStmt p_t p_text).1.Act.Kind), .slice A_1 (((i_ReadStmt p_t p_text).1.Act.Old.Vals).length) c_1, .slice A_2 (((i_ReadStmt p_t p_text).1.Act.New.Vals).length) c_2, .string (bs ((i_ReadStmt p_t p_text).1.Idx)), .string (bs ((i_ReadStmt p_t p_text).1.Low)), .string (bs ((i_ReadStmt p_t p_text).1.High))], .bool ((i_ReadStmt p_t p_text).2)] ∧ OwnL w' lo_1 hi_1 9 1 (RF e_Str) A_1 (((i_ReadStmt p_t p_text).1.Act.Old.Vals).length) c_1 ((i_ReadStmt p_t p_text).1.Act.Old.Vals) ∧ OwnL w' lo_2 hi_2 9 1 (RF e_Str) A_2 (((i_ReadStmt p_t p_text).1.Act.New.Vals).length) c_2 ((i_ReadStmt p_t p_text).1.Act.New.Vals) ∧ ok_Stmt ((i_ReadStmt p_t p_text).1) ∧ (w.heap.size ≤ lo_1 ∧ lo_1 ≤ hi_1 ∧ hi_1 ≤ w'.heap.size) ∧ (w.heap.size ≤ lo_2 ∧ lo_2 ≤ hi_2 ∧ hi_2 ≤ w'.heap.size) ∧ (hi_1 ≤ lo_2 ∨ hi_2 ≤ lo_1) ∧ Ex w w' := by
 have hol5 : p_t.Name.length ≤ 1073741824 := o3.1
 have hol6 := o3.2.1.1
 have hol7 := o3.2.2.1
 have hol8 : p_text.length ≤ 1073741824 := o4
 refine Cal.of (vs := [.agg #[.string (bs (p_t.Name)), .slice A1 p_t.Cols.length c1, .slice A2 p_t.Idxs.length c2], .string (bs (p_text))]) Tryd.func17 rfl Tryd.ntmps17 rfl (CW.seq (CW.region (sd rfl (yl_box (cs := [.string (bs (p_t.Name)), .slice A1 p_t.Cols.length c1, .slice A2 p_t.Idxs.length c2]) rfl rfl rfl ?_))))
 intro b9 w10 hs11 hz12 hB13 hE14
 refine sd rfl (yl_alloc Tryd.ty48 (cs := [.int .i64 (0), .int .i64 (0), .slice none 0 0, .slice none 0 0, .string (bs (([] : Str))), .string (bs (([] : Str))), .string (bs (([] : Str)))]) rfl rfl ?_)
 intro b15 w16 hs17 hz18 hB19 hE20
 refine sd rfl (yl_assign rfl rfl (SeqR.done (tn (CW.seq (CW.seq (CW.region ?_))))))
 have q21 := Box.ex hB13 hE20
 refine sd rfl (yl_loadN (cs := [.string (bs (p_t.Name)), .slice A1 p_t.Cols.length c1, .slice A2 p_t.Idxs.length c2]) Tryd.ty36 rfl rfl (q21.cells (n := 3) rfl) rfl ?_)
 have q23 := RdS.ex good_Str (RdS.ex good_Str h1 hE14) hE20
 have q25 := RdS.ex good_Idx (RdS.ex good_Idx h2 hE14) hE20
 refine sd rfl (yl_call Tryd.en27 rfl (opvs_cons rfl opvs_nil) (Cal.mono (c_i_GoodTable p_t (RdS.up q23 good_Str) (RdS.up q25 good_Idx) o3) ?_))
 rintro v27 w26 ⟨rfl, hE28⟩
 have hE28z := Ex.size hE28
 refine sd rfl (yl_not rfl rfl (SeqR.done (tn (bcase (i_GoodTable p_t) (fun hb29 => ?_) (fun hb29 => ?_)))))
 ·have hb29p := f_i_GoodTable hb29
  refine CW.cond_f rfl (not_t hb29) (CW.skip (tn (CW.seq (CW.region (sd rfl (yl_loadN (cs := [.string (bs (p_t.Name)), .slice A1 p_t.Cols.length c1, .slice A2 p_t.Idxs.length c2]) Tryd.ty36 rfl rfl ((Box.ex q21 hE28).cells (n := 3) rfl) rfl (sd rfl (yl_move rfl rfl (sd rfl (yl_call Tryd.en35 rfl (opvs_cons rfl (opvs_cons rfl opvs_nil)) (Cal.mono (c_i_Table_readStmt p_t p_text (RdS.up (RdS.ex good_Str q23 hE28) good_Str) (RdS.up (RdS.ex good_Idx q25 hE28) good_Idx) o3 o4 (GoodTable_eq _ ▸ hb29)) ?_)))))))))))
  rintro v37 w33 ⟨A34, c34, lo34, hi34, A35, c35, lo35, hi35, rfl, h34, h35, ho36, hrn39, hrn40, hrn41, hE38⟩
  have hE38z := Ex.size hE38
  refine sd rfl (yl_extract rfl rfl rfl (sd rfl (yl_extract rfl rfl rfl (SeqR.u rfl rfl (yl_store (vs := [.int .i64 ((i_Table_readStmt p_t p_text).1.Kind), .int .i64 ((i_Table_readStmt p_t p_text).1.Act.Kind), .slice A34 (((i_Table_readStmt p_t p_text).1.Act.Old.Vals).length) c34, .slice A35 (((i_Table_readStmt p_t p_text).1.Act.New.Vals).length) c35, .string (bs ((i_Table_readStmt p_t p_text).1.Idx)), .string (bs ((i_Table_readStmt p_t p_text).1.Low)), .string (bs ((i_Table_readStmt p_t p_text).1.High))]) Tryd.ty48 rfl rfl rfl rfl rfl rfl (Box.ex (Box.ex hB19 hE28) hE38) (Nat.le_of_ble_eq_true rfl) ?_)))))
  intro w44 hB45 hO46
  have hB45 : Box w44 b15 48 [.int .i64 ((i_Table_readStmt p_t p_text).1.Kind), .int .i64 ((i_Table_readStmt p_t p_text).1.Act.Kind), .slice A34 (((i_Table_readStmt p_t p_text).1.Act.Old.Vals).length) c34, .slice A35 (((i_Table_readStmt p_t p_text).1.Act.New.Vals).length) c35, .string (bs ((i_Table_readStmt p_t p_text).1.Idx)), .string (bs ((i_Table_readStmt p_t p_text).1.Low)), .string (bs ((i_Table_readStmt p_t p_text).1.High))] := hB45
  have hO46z := hO46.size
  refine sd rfl (yl_assign rfl rfl (SeqR.done (tn (CW.ret (rr rfl (.cons ⟨_, rfl, run_loadN Tryd.ty48 (cs := [.int .i64 ((i_Table_readStmt p_t p_text).1.Kind), .int .i64 ((i_Table_readStmt p_t p_text).1.Act.Kind), .slice A34 (((i_Table_readStmt p_t p_text).1.Act.Old.Vals).length) c34, .slice A35 (((i_Table_readStmt p_t p_text).1.Act.New.Vals).length) c35, .string (bs ((i_Table_readStmt p_t p_text).1.Idx)), .string (bs ((i_Table_readStmt p_t p_text).1.Low)), .string (bs ((i_Table_readStmt p_t p_text).1.High))]) rfl (hB45.cells (n := 7) rfl)⟩ (.cons rfl .nil)) ?_)))))
  have hM47 : (i_ReadStmt p_t p_text) = (((i_Table_readStmt p_t p_text).1, (i_Table_readStmt p_t p_text).2)) := by simp only [i_ReadStmt, hb29, cond_true, cond_false, loopE_done, loopE_ret]
  rw [hM47]
  exact ⟨A34, c34, lo34, hi34, A35, c35, lo35, hi35, rfl, (OwnL.only good_Str h34 hO46 (by omega)), (OwnL.only good_Str h35 hO46 (by omega)), ho36, (by omega), (by omega), (by omega), (Below.only (Ex.trans (Ex.trans (Ex.trans (Ex.trans (Ex.refl w) hE14) hE20) hE28) hE38) hO46 (by omega))⟩
 ·refine CW.cond_t rfl (not_f hb29) (CW.seq (CW.region (sd rfl (yl_build (cs := [.int .i64 (0), .int .i64 (0), .slice none 0 0, .slice none 0 0, .string (bs (([] : Str))), .string (bs (([] : Str))), .string (bs (([] : Str)))]) rfl opvs_nil (by kernel_rfl) (SeqR.u rfl rfl (yl_store (vs := [.int .i64 (0), .int .i64 (0), .slice none 0 0, .slice none 0 0, .string (bs (([] : Str))), .string (bs (([] : Str))), .string (bs (([] : Str)))]) Tryd.ty48 rfl rfl rfl rfl rfl rfl (Box.ex hB19 hE28) (Nat.le_of_ble_eq_true rfl) ?_))))))
  intro w56 hB57 hO58
  have hB57 : Box w56 b15 48 [.int .i64 (0), .int .i64 (0), .slice none 0 0, .slice none 0 0, .string (bs (([] : Str))), .string (bs (([] : Str))), .string (bs (([] : Str)))] := hB57
  have hO58z := hO58.size
  refine sd rfl (yl_assign rfl rfl (SeqR.done (tn (CW.ret (tr (rr rfl (.cons ⟨_, rfl, run_loadN Tryd.ty48 (cs := [.int .i64 (0), .int .i64 (0), .slice none 0 0, .slice none 0 0, .string (bs (([] : Str))), .string (bs (([] : Str))), .string (bs (([] : Str)))]) rfl (hB57.cells (n := 7) rfl)⟩ (.cons rfl .nil)) ?_))))))
  have hM59 : (i_ReadStmt p_t p_text) = (((⟨0, (⟨0, (⟨[]⟩ : DRow), (⟨[]⟩ : DRow)⟩ : DRowAct), ([] : Str), ([] : Str), ([] : Str)⟩ : DStmt), false)) := by simp only [i_ReadStmt, hb29, cond_true, cond_false, loopE_done, loopE_ret]
  rw [hM59]
  exact ⟨none, 0, w56.heap.size, w56.heap.size, none, 0, w56.heap.size, w56.heap.size, rfl, (OwnL.nil _ _ _ _ _ _), (OwnL.nil _ _ _ _ _ _), ⟨⟨(okL.nil _), (okL.nil _)⟩, (okS.lit rfl), (okS.lit rfl), (okS.lit rfl)⟩, (by omega), (by omega), (by omega), (Below.only (Ex.trans (Ex.trans (Ex.trans (Ex.refl w) hE14) hE20) hE28) hO58 (by omega))⟩
set_option maxRecDepth 100000 in
set_option maxHeartbeats 2000000 in
theorem c_l_eqRow {A1 : Option Addr} {c1 : Nat} {A2 : Option Addr} {c2 : Nat} {w : World} (p_a : DRow) (p_b : DRow) (h1 : RdS w (Iv 0 w.heap.size) (RF e_Str) 1 A1 p_a.Vals.length c1 p_a.Vals) (h2 : RdS w (Iv 0 w.heap.size) (RF e_Str) 1 A2 p_b.Vals.length c2 p_b.Vals) : Cal Tryd.prog 11 #[.agg #[.slice A1 p_a.Vals.length c1], .agg #[.slice A2 p_b.Vals.length c2]] w fun v w' => v = .bool ((l_eqRow p_a p_b)) ∧ Ex w w' := by
 refine Cal.of (vs := [.agg #[.slice A1 p_a.Vals.length c1], .agg #[.slice A2 p_b.Vals.length c2]]) Tryd.func11 rfl Tryd.ntmps11 rfl (CW.seq (CW.region (sd rfl (yl_box (cs := [.slice A1 p_a.Vals.length c1]) rfl rfl rfl ?_))))
 intro b3 w4 hs5 hz6 hB7 hE8
 refine sd rfl (yl_box (cs := [.slice A2 p_b.Vals.length c2]) rfl rfl rfl ?_)
 intro b9 w10 hs11 hz12 hB13 hE14
 refine sd rfl (yl_assign rfl rfl (SeqR.done (tn (CW.seq (CW.seq (CW.region (sd rfl (yl_fieldAddr Tryd.fd31_0 rfl rfl (sd rfl (yl_load1 Tryd.ty22 rfl rfl (((Box.ex hB7 hE14).cell 0).trans rfl) (sd rfl (yl_fieldAddr Tryd.fd31_0 rfl rfl ?_))))))))))))
 refine sd rfl (yl_load1 Tryd.ty22 rfl rfl ((hB13.cell 0).trans rfl) (sd rfl (yl_call Tryd.en29 rfl (opvs_cons rfl (opvs_cons rfl opvs_nil)) (Cal.mono (c_l_eqStringS p_a.Vals p_b.Vals (RdS.up (RdS.ex good_Str (RdS.ex good_Str h1 hE8) hE14) good_Str) (RdS.up (RdS.ex good_Str (RdS.ex good_Str h2 hE8) hE14) good_Str)) ?_))))
 rintro v21 w20 ⟨rfl, hE22⟩
 have hE22z := Ex.size hE22
 refine sd rfl (yl_not rfl rfl (SeqR.done (tn (bcase (l_eqStringS p_a.Vals p_b.Vals) (fun hb23 => ?_) (fun hb23 => ?_)))))
 ·refine CW.cond_f rfl (not_t hb23) (CW.skip (tn (CW.seq (CW.region (sd rfl (yl_assign rfl rfl (SeqR.done (tn (CW.ret ?_)))))))))
  refine rr rfl (.cons rfl .nil) ?_
  have hM24 : (l_eqRow p_a p_b) = (true) := by simp only [l_eqRow, hb23, cond_true, cond_false, loopE_done, loopE_ret]
  rw [hM24]
  exact ⟨rfl, (Ex.trans (Ex.trans (Ex.trans (Ex.refl w) hE8) hE14) hE22)⟩
 ·refine CW.cond_t rfl (not_f hb23) (CW.seq (CW.region (sd rfl (yl_assign rfl rfl (SeqR.done (tn (CW.ret (tr (rr rfl (.cons rfl .nil) ?_)))))))))
  have hM28 : (l_eqRow p_a p_b) = (false) := by simp only [l_eqRow, hb23, cond_true, cond_false, loopE_done, loopE_ret]
  rw [hM28]
  exact ⟨rfl, (Ex.trans (Ex.trans (Ex.trans (Ex.refl w) hE8) hE14) hE22)⟩
set_option maxRecDepth 100000 in
set_option maxHeartbeats 2000000 in
theorem c_l_eqRowAct {A1 : Option Addr} {c1 : Nat} {A2 : Option Addr} {c2 : Nat} {A3 : Option Addr} {c3 : Nat} {A4 : Option Addr} {c4 : Nat} {w : World} (p_a : DRowAct) (p_b : DRowAct) (h1 : RdS w (Iv 0 w.heap.size) (RF e_Str) 1 A1 p_a.Old.Vals.length c1 p_a.Old.Vals) (h2 : RdS w (Iv 0 w.heap.size) (RF e_Str) 1 A2 p_a.New.Vals.length c2 p_a.New.Vals) (h3 : RdS w (Iv 0 w.heap.size) (RF e_Str) 1 A3 p_b.Old.Vals.length c3 p_b.Old.Vals) (h4 : RdS w (Iv 0 w.heap.size) (RF e_Str) 1 A4 p_b.New.Vals.length c4 p_b.New.Vals) : Cal Tryd.prog 36 #[.agg #[.int .i64 (p_a.Kind), .slice A1 p_a.Old.Vals.length c1, .slice A2 p_a.New.Vals.length c2], .agg #[.int .i64 (p_b.Kind), .slice A3 p_b.Old.Vals.length c3, .slice A4 p_b.New.Vals.length c4]] w fun v w' => v = .bool ((l_eqRowAct p_a p_b)) ∧ Ex w w' := by
 refine Cal.of (vs := [.agg #[.int .i64 (p_a.Kind), .slice A1 p_a.Old.Vals.length c1, .slice A2 p_a.New.Vals.length c2], .agg #[.int .i64 (p_b.Kind), .slice A3 p_b.Old.Vals.length c3, .slice A4 p_b.New.Vals.length c4]]) Tryd.func36 rfl Tryd.ntmps36 rfl (CW.seq (CW.region (sd rfl (yl_box (cs := [.int .i64 (p_a.Kind), .slice A1 p_a.Old.Vals.length c1, .slice A2 p_a.New.Vals.length c2]) rfl rfl rfl ?_))))
 intro b5 w6 hs7 hz8 hB9 hE10
 refine sd rfl (yl_box (cs := [.int .i64 (p_b.Kind), .slice A3 p_b.Old.Vals.length c3, .slice A4 p_b.New.Vals.length c4]) rfl rfl rfl ?_)
 intro b11 w12 hs13 hz14 hB15 hE16
 refine sd rfl (yl_assign rfl rfl (SeqR.done (tn (CW.seq (CW.seq (CW.region (sd rfl (yl_fieldAddr Tryd.fd46_0 rfl rfl ?_))))))))
 have q17 := Box.ex hB9 hE16
 refine sd rfl (yl_load1 Tryd.ty3 rfl rfl ((q17.cell 0).trans rfl) (sd rfl (yl_fieldAddr Tryd.fd46_0 rfl rfl (sd rfl (yl_load1 Tryd.ty3 rfl rfl ((hB15.cell 0).trans rfl) (sd rfl (yl_neq rfl rfl rfl (SeqR.done (tn (bcase (decide (p_a.Kind = p_b.Kind)) (fun hb18 => ?_) (fun hb18 => ?_)))))))))))
 ·have hb18p := dec_t hb18
  refine CW.cond_f rfl (not_t hb18) (CW.skip (tn (CW.seq (CW.seq (CW.region (sd rfl (yl_fieldAddr Tryd.fd46_1 rfl rfl (sd rfl (yl_loadN (cs := [.slice A1 p_a.Old.Vals.length c1]) Tryd.ty31 rfl rfl (q17.cells (n := 1) rfl) rfl (sd rfl (yl_fieldAddr Tryd.fd46_1 rfl rfl ?_)))))))))))
  refine sd rfl (yl_loadN (cs := [.slice A3 p_b.Old.Vals.length c3]) Tryd.ty31 rfl rfl (hB15.cells (n := 1) rfl) rfl (sd rfl (yl_call Tryd.en11 rfl (opvs_cons rfl (opvs_cons rfl opvs_nil)) (Cal.mono (c_l_eqRow p_a.Old p_b.Old (RdS.up (RdS.ex good_Str (RdS.ex good_Str h1 hE10) hE16) good_Str) (RdS.up (RdS.ex good_Str (RdS.ex good_Str h3 hE10) hE16) good_Str)) ?_))))
  rintro v24 w23 ⟨rfl, hE25⟩
  have hE25z := Ex.size hE25
  refine sd rfl (yl_not rfl rfl (SeqR.done (tn (bcase (l_eqRow p_a.Old p_b.Old) (fun hb26 => ?_) (fun hb26 => ?_)))))
  ·refine CW.cond_f rfl (not_t hb26) (CW.skip (tn (CW.seq (CW.seq (CW.region (sd rfl (yl_fieldAddr Tryd.fd46_2 rfl rfl (sd rfl (yl_loadN (cs := [.slice A2 p_a.New.Vals.length c2]) Tryd.ty31 rfl rfl ((Box.ex q17 hE25).cells (n := 1) rfl) rfl (sd rfl (yl_fieldAddr Tryd.fd46_2 rfl rfl ?_)))))))))))
   refine sd rfl (yl_loadN (cs := [.slice A4 p_b.New.Vals.length c4]) Tryd.ty31 rfl rfl ((Box.ex hB15 hE25).cells (n := 1) rfl) rfl (sd rfl (yl_call Tryd.en11 rfl (opvs_cons rfl (opvs_cons rfl opvs_nil)) (Cal.mono (c_l_eqRow p_a.New p_b.New (RdS.up (RdS.ex good_Str (RdS.ex good_Str (RdS.ex good_Str h2 hE10) hE16) hE25) good_Str) (RdS.up (RdS.ex good_Str (RdS.ex good_Str (RdS.ex good_Str h4 hE10) hE16) hE25) good_Str)) ?_))))
   rintro v36 w35 ⟨rfl, hE37⟩
   have hE37z := Ex.size hE37
   refine sd rfl (yl_not rfl rfl (SeqR.done (tn (bcase (l_eqRow p_a.New p_b.New) (fun hb38 => ?_) (fun hb38 => ?_)))))
   ·refine CW.cond_f rfl (not_t hb38) (CW.skip (tn (CW.seq (CW.region (sd rfl (yl_assign rfl rfl (SeqR.done (tn (CW.ret ?_)))))))))
    refine rr rfl (.cons rfl .nil) ?_
    have hM39 : (l_eqRowAct p_a p_b) = (true) := by simp only [l_eqRowAct, hb18, hb26, hb38, cond_true, cond_false, loopE_done, loopE_ret]
    rw [hM39]
    exact ⟨rfl, (Ex.trans (Ex.trans (Ex.trans (Ex.trans (Ex.refl w) hE10) hE16) hE25) hE37)⟩
   ·refine CW.cond_t rfl (not_f hb38) (CW.seq (CW.region (sd rfl (yl_assign rfl rfl (SeqR.done (tn (CW.ret (tr (rr rfl (.cons rfl .nil) ?_)))))))))
    have hM44 : (l_eqRowAct p_a p_b) = (false) := by simp only [l_eqRowAct, hb18, hb26, hb38, cond_true, cond_false, loopE_done, loopE_ret]
    rw [hM44]
    exact ⟨rfl, (Ex.trans (Ex.trans (Ex.trans (Ex.trans (Ex.refl w) hE10) hE16) hE25) hE37)⟩
  ·refine CW.cond_t rfl (not_f hb26) (CW.seq (CW.region (sd rfl (yl_assign rfl rfl (SeqR.done (tn (CW.ret (tr (rr rfl (.cons rfl .nil) ?_)))))))))
   have hM49 : (l_eqRowAct p_a p_b) = (false) := by simp only [l_eqRowAct, hb18, hb26, cond_true, cond_false, loopE_done, loopE_ret]
   rw [hM49]
   exact ⟨rfl, (Ex.trans (Ex.trans (Ex.trans (Ex.refl w) hE10) hE16) hE25)⟩
 ·have hb18p := dec_f hb18
  refine CW.cond_t rfl (not_f hb18) (CW.seq (CW.region (sd rfl (yl_assign rfl rfl (SeqR.done (tn (CW.ret (tr (rr rfl (.cons rfl .nil) ?_)))))))))
  have hM53 : (l_eqRowAct p_a p_b) = (false) := by simp only [l_eqRowAct, hb18, cond_true, cond_false, loopE_done, loopE_ret]
  rw [hM53]
  exact ⟨rfl, (Ex.trans (Ex.trans (Ex.refl w) hE10) hE16)⟩
set_option maxRecDepth 100000 in
set_option maxHeartbeats 2000000 in
theorem c_l_eqStmt {A1 : Option Addr} {c1 : Nat} {A2 : Option Addr} {c2 : Nat} {A3 : Option Addr} {c3 : Nat} {A4 : Option Addr} {c4 : Nat} {w : World} (p_a : DStmt) (p_b : DStmt) (h1 : RdS w (Iv 0 w.heap.size) (RF e_Str) 1 A1 p_a.Act.Old.Vals.length c1 p_a.Act.Old.Vals) (h2 : RdS w (Iv 0 w.heap.size) (RF e_Str) 1 A2 p_a.Act.New.Vals.length c2 p_a.Act.New.Vals) (h3 : RdS w (Iv 0 w.heap.size) (RF e_Str) 1 A3 p_b.Act.Old.Vals.length c3 p_b.Act.Old.Vals) (h4 : RdS w (Iv 0 w.heap.size) (RF e_Str) 1 A4 p_b.Act.New.Vals.length c4 p_b.Act.New.Vals) : Cal Tryd.prog 18 #[.agg #[.int .i64 (p_a.Kind), .int .i64 (p_a.Act.Kind), .slice A1 p_a.Act.Old.Vals.length c1, .slice A2 p_a.Act.New.Vals.length c2, .string (bs (p_a.Idx)), .string (bs (p_a.Low)), .string (bs (p_a.High))], .agg #[.int .i64 (p_b.Kind), .int .i64 (p_b.Act.Kind), .slice A3 p_b.Act.Old.Vals.length c3, .slice A4 p_b.Act.New.Vals.length c4, .string (bs (p_b.Idx)), .string (bs (p_b.Low)), .string (bs (p_b.High))]] w fun v w' => v = .bool ((l_eqStmt p_a p_b)) ∧ Ex w w' := by
 refine Cal.of (vs := [.agg #[.int .i64 (p_a.Kind), .int .i64 (p_a.Act.Kind), .slice A1 p_a.Act.Old.Vals.length c1, .slice A2 p_a.Act.New.Vals.length c2, .string (bs (p_a.Idx)), .string (bs (p_a.Low)), .string (bs (p_a.High))], .agg #[.int .i64 (p_b.Kind), .int .i64 (p_b.Act.Kind), .slice A3 p_b.Act.Old.Vals.length c3, .slice A4 p_b.Act.New.Vals.length c4, .string (bs (p_b.Idx)), .string (bs (p_b.Low)), .string (bs (p_b.High))]]) Tryd.func18 rfl Tryd.ntmps18 rfl (CW.seq (CW.region (sd rfl (yl_box (cs := [.int .i64 (p_a.Kind), .int .i64 (p_a.Act.Kind), .slice A1 p_a.Act.Old.Vals.length c1, .slice A2 p_a.Act.New.Vals.length c2, .string (bs (p_a.Idx)), .string (bs (p_a.Low)), .string (bs (p_a.High))]) rfl rfl rfl ?_))))
 intro b5 w6 hs7 hz8 hB9 hE10
 refine sd rfl (yl_box (cs := [.int .i64 (p_b.Kind), .int .i64 (p_b.Act.Kind), .slice A3 p_b.Act.Old.Vals.length c3, .slice A4 p_b.Act.New.Vals.length c4, .string (bs (p_b.Idx)), .string (bs (p_b.Low)), .string (bs (p_b.High))]) rfl rfl rfl ?_)
 intro b11 w12 hs13 hz14 hB15 hE16
 refine sd rfl (yl_assign rfl rfl (SeqR.done (tn (CW.seq (CW.seq (CW.region (sd rfl (yl_fieldAddr Tryd.fd48_0 rfl rfl ?_))))))))
 have q17 := Box.ex hB9 hE16
 refine sd rfl (yl_load1 Tryd.ty3 rfl rfl ((q17.cell 0).trans rfl) (sd rfl (yl_fieldAddr Tryd.fd48_0 rfl rfl (sd rfl (yl_load1 Tryd.ty3 rfl rfl ((hB15.cell 0).trans rfl) (sd rfl (yl_neq rfl rfl rfl (SeqR.done (tn (bcase (decide (p_a.Kind = p_b.Kind)) (fun hb18 => ?_) (fun hb18 => ?_)))))))))))
 ·have hb18p := dec_t hb18
  refine CW.cond_f rfl (not_t hb18) (CW.skip (tn (CW.seq (CW.seq (CW.region (sd rfl (yl_fieldAddr Tryd.fd48_1 rfl rfl (sd rfl (yl_loadN (cs := [.int .i64 (p_a.Act.Kind), .slice A1 p_a.Act.Old.Vals.length c1, .slice A2 p_a.Act.New.Vals.length c2]) Tryd.ty46 rfl rfl (q17.cells (n := 3) rfl) rfl (sd rfl (yl_fieldAddr Tryd.fd48_1 rfl rfl ?_)))))))))))
  refine sd rfl (yl_loadN (cs := [.int .i64 (p_b.Act.Kind), .slice A3 p_b.Act.Old.Vals.length c3, .slice A4 p_b.Act.New.Vals.length c4]) Tryd.ty46 rfl rfl (hB15.cells (n := 3) rfl) rfl (sd rfl (yl_call Tryd.en36 rfl (opvs_cons rfl (opvs_cons rfl opvs_nil)) (Cal.mono (c_l_eqRowAct p_a.Act p_b.Act (RdS.up (RdS.ex good_Str (RdS.ex good_Str h1 hE10) hE16) good_Str) (RdS.up (RdS.ex good_Str (RdS.ex good_Str h2 hE10) hE16) good_Str) (RdS.up (RdS.ex good_Str (RdS.ex good_Str h3 hE10) hE16) good_Str) (RdS.up (RdS.ex good_Str (RdS.ex good_Str h4 hE10) hE16) good_Str)) ?_))))
  rintro v28 w27 ⟨rfl, hE29⟩
  have hE29z := Ex.size hE29
  refine sd rfl (yl_not rfl rfl (SeqR.done (tn (bcase (l_eqRowAct p_a.Act p_b.Act) (fun hb30 => ?_) (fun hb30 => ?_)))))
  ·refine CW.cond_f rfl (not_t hb30) (CW.skip (tn (CW.seq (CW.seq (CW.region (sd rfl (yl_fieldAddr Tryd.fd48_2 rfl rfl ?_)))))))
   have q31 := Box.ex q17 hE29
   refine sd rfl (yl_load1 Tryd.ty9 rfl rfl ((q31.cell 4).trans rfl) (sd rfl (yl_fieldAddr Tryd.fd48_2 rfl rfl ?_)))
   have q32 := Box.ex hB15 hE29
   refine sd rfl (yl_load1 Tryd.ty9 rfl rfl ((q32.cell 4).trans rfl) (sd rfl (yl_sneq (a := p_a.Idx) (b := p_b.Idx) rfl rfl rfl (SeqR.done (tn (bcase (p_a.Idx == p_b.Idx) (fun hb33 => ?_) (fun hb33 => ?_)))))))
   ·refine CW.cond_f rfl (not_t hb33) (CW.skip (tn (CW.seq (CW.seq (CW.region (sd rfl (yl_fieldAddr Tryd.fd48_3 rfl rfl (sd rfl (yl_load1 Tryd.ty9 rfl rfl ((q31.cell 5).trans rfl) (sd rfl (yl_fieldAddr Tryd.fd48_3 rfl rfl ?_)))))))))))
    refine sd rfl (yl_load1 Tryd.ty9 rfl rfl ((q32.cell 5).trans rfl) (sd rfl (yl_sneq (a := p_a.Low) (b := p_b.Low) rfl rfl rfl (SeqR.done (tn (bcase (p_a.Low == p_b.Low) (fun hb34 => ?_) (fun hb34 => ?_)))))))
    ·refine CW.cond_f rfl (not_t hb34) (CW.skip (tn (CW.seq (CW.seq (CW.region (sd rfl (yl_fieldAddr Tryd.fd48_4 rfl rfl (sd rfl (yl_load1 Tryd.ty9 rfl rfl ((q31.cell 6).trans rfl) (sd rfl (yl_fieldAddr Tryd.fd48_4 rfl rfl ?_)))))))))))
     refine sd rfl (yl_load1 Tryd.ty9 rfl rfl ((q32.cell 6).trans rfl) (sd rfl (yl_sneq (a := p_a.High) (b := p_b.High) rfl rfl rfl (SeqR.done (tn (bcase (p_a.High == p_b.High) (fun hb35 => ?_) (fun hb35 => ?_)))))))
     ·refine CW.cond_f rfl (not_t hb35) (CW.skip (tn (CW.seq (CW.region (sd rfl (yl_assign rfl rfl (SeqR.done (tn (CW.ret ?_)))))))))
      refine rr rfl (.cons rfl .nil) ?_
      have hM36 : (l_eqStmt p_a p_b) = (true) := by simp only [l_eqStmt, hb18, hb30, hb33, hb34, hb35, cond_true, cond_false, loopE_done, loopE_ret]
      rw [hM36]
      exact ⟨rfl, (Ex.trans (Ex.trans (Ex.trans (Ex.refl w) hE10) hE16) hE29)⟩
     ·refine CW.cond_t rfl (not_f hb35) (CW.seq (CW.region (sd rfl (yl_assign rfl rfl (SeqR.done (tn (CW.ret (tr (rr rfl (.cons rfl .nil) ?_)))))))))
      have hM40 : (l_eqStmt p_a p_b) = (false) := by simp only [l_eqStmt, hb18, hb30, hb33, hb34, hb35, cond_true, cond_false, loopE_done, loopE_ret]
      rw [hM40]
      exact ⟨rfl, (Ex.trans (Ex.trans (Ex.trans (Ex.refl w) hE10) hE16) hE29)⟩
    ·refine CW.cond_t rfl (not_f hb34) (CW.seq (CW.region (sd rfl (yl_assign rfl rfl (SeqR.done (tn (CW.ret (tr (rr rfl (.cons rfl .nil) ?_)))))))))
     have hM44 : (l_eqStmt p_a p_b) = (false) := by simp only [l_eqStmt, hb18, hb30, hb33, hb34, cond_true, cond_false, loopE_done, loopE_ret]
     rw [hM44]
     exact ⟨rfl, (Ex.trans (Ex.trans (Ex.trans (Ex.refl w) hE10) hE16) hE29)⟩
   ·refine CW.cond_t rfl (not_f hb33) (CW.seq (CW.region (sd rfl (yl_assign rfl rfl (SeqR.done (tn (CW.ret (tr (rr rfl (.cons rfl .nil) ?_)))))))))
    have hM48 : (l_eqStmt p_a p_b) = (false) := by simp only [l_eqStmt, hb18, hb30, hb33, cond_true, cond_false, loopE_done, loopE_ret]
    rw [hM48]
    exact ⟨rfl, (Ex.trans (Ex.trans (Ex.trans (Ex.refl w) hE10) hE16) hE29)⟩
  ·refine CW.cond_t rfl (not_f hb30) (CW.seq (CW.region (sd rfl (yl_assign rfl rfl (SeqR.done (tn (CW.ret (tr (rr rfl (.cons rfl .nil) ?_)))))))))
   have hM52 : (l_eqStmt p_a p_b) = (false) := by simp only [l_eqStmt, hb18, hb30, cond_true, cond_false, loopE_done, loopE_ret]
   rw [hM52]
   exact ⟨rfl, (Ex.trans (Ex.trans (Ex.trans (Ex.refl w) hE10) hE16) hE29)⟩
 ·have hb18p := dec_f hb18
  refine CW.cond_t rfl (not_f hb18) (CW.seq (CW.region (sd rfl (yl_assign rfl rfl (SeqR.done (tn (CW.ret (tr (rr rfl (.cons rfl .nil) ?_)))))))))
  have hM56 : (l_eqStmt p_a p_b) = (false) := by simp only [l_eqStmt, hb18, cond_true, cond_false, loopE_done, loopE_ret]
  rw [hM56]
  exact ⟨rfl, (Ex.trans (Ex.trans (Ex.refl w) hE10) hE16)⟩
set_option maxRecDepth 100000 in
set_option maxHeartbeats 2000000 in
theorem c_l_markRow {A1 : Option Addr} {c1 : Nat} {lo1 hi1 : Nat} {w : World} (p_a : DRow) (p_k : Int) (h1 : OwnL w lo1 hi1 9 1 (RF e_Str) A1 p_a.Vals.length c1 p_a.Vals) (hrn2 : (0 ≤ lo1 ∧ lo1 ≤ hi1 ∧ hi1 ≤ w.heap.size)) (pre0 : p_k ≤ 9223372036854775807) : Cal Tryd.prog 14 #[.agg #[.slice A1 p_a.Vals.length c1], .int .i64 (p_k)] w fun v w' => v = .int .i64 ((l_markRow p_a p_k).1) ∧ OwnL w' lo1 hi1 9 1 (RF e_Str) A1 p_a.Vals.length c1 ((l_markRow p_a p_k).2.Vals) ∧ Mut [(lo1, hi1)] w w' := by
 refine Cal.of (vs := [.agg #[.slice A1 p_a.Vals.length c1], .int .i64 (p_k)]) Tryd.func14 rfl Tryd.ntmps14 rfl (CW.seq (CW.region (sd rfl (yl_box (cs := [.slice A1 p_a.Vals.length c1]) rfl rfl rfl ?_))))
 intro b3 w4 hs5 hz6 hB7 hE8
 refine sd rfl (yl_assign rfl rfl (SeqR.done (tn (CW.seq (CW.region (sd rfl (yl_fieldAddr Tryd.fd31_0 rfl rfl (sd rfl (yl_load1 Tryd.ty22 rfl rfl ((hB7.cell 0).trans rfl) (sd rfl (yl_move rfl rfl (sd rfl (yl_call Tryd.en31 rfl (opvs_cons rfl (opvs_cons rfl opvs_nil)) (Cal.mono (c_l_markStringS p_a.Vals p_k (OwnL.ex good_Str h1 hE8) (by omega) (by first | omega | assumption | (simp only [IntKind.wrap_i64] at *; omega))) ?_))))))))))))))
 rintro v11 w10 ⟨rfl, h13, hm12⟩
 have hm12z := Mut.size hm12
 have hrf14 := rf_markStringS p_a.Vals p_k (by first | omega | assumption | (simp only [IntKind.wrap_i64] at *; omega))
 refine sd rfl (yl_assign rfl rfl (SeqR.done (tn (CW.seq (CW.region (sd rfl (yl_move rfl rfl (sd rfl (yl_assign rfl rfl (SeqR.done (tn ?_)))))))))))
 refine CW.ret (rr rfl (.cons rfl .nil) ?_)
 have hM15 : (l_markRow p_a p_k) = (((l_markStringS p_a.Vals p_k).1, (⟨(l_markStringS p_a.Vals p_k).2⟩ : DRow))) := by simp only [l_markRow, cond_true, cond_false, loopE_done, loopE_ret]
 rw [hM15]
 exact ⟨rfl, h13, (Mut.mut (Mut.ex (Mut.refl (l := [(lo1, hi1)]) w) hE8) hm12 (fun k hk => by simp only [InR, or_false] at hk ⊢; omega))⟩
set_option maxRecDepth 100000 in
set_option maxHeartbeats 2000000 in
theorem c_l_markRowAct {A1 : Option Addr} {c1 : Nat} {lo1 hi1 : Nat} {A2 : Option Addr} {c2 : Nat} {lo2 hi2 : Nat} {w : World} (p_a : DRowAct) (p_k : Int) (h1 : OwnL w lo1 hi1 9 1 (RF e_Str) A1 p_a.Old.Vals.length c1 p_a.Old.Vals) (h2 : OwnL w lo2 hi2 9 1 (RF e_Str) A2 p_a.New.Vals.length c2 p_a.New.Vals) (hrn3 : (0 ≤ lo1 ∧ lo1 ≤ hi1 ∧ hi1 ≤ w.heap.size)) (hrn4 : (0 ≤ lo2 ∧ lo2 ≤ hi2 ∧ hi2 ≤ w.heap.size)) (hrn5 : (hi1 ≤ lo2 ∨ hi2 ≤ lo1)) (pre0 : p_k ≤ 9223372036854775807) : Cal Tryd.prog 37 #[.agg #[.int .i64 (p_a.Kind), .slice A1 p_a.Old.Vals.length c1, .slice A2 p_a.New.Vals.length c2], .int .i64 (p_k)] w fun v w' => v = .int .i64 ((l_markRowAct p_a p_k).1) ∧ OwnL w' lo1 hi1 9 1 (RF e_Str) A1 p_a.Old.Vals.length c1 ((l_markRowAct p_a p_k).2.Old.Vals) ∧ OwnL w' lo2 hi2 9 1 (RF e_Str) A2 p_a.New.Vals.length c2 ((l_markRowAct p_a p_k).2.New.Vals) ∧ Mut [(lo1, hi1), (lo2, hi2)] w w' := by
 refine Cal.of (vs := [.agg #[.int .i64 (p_a.Kind), .slice A1 p_a.Old.Vals.length c1, .slice A2 p_a.New.Vals.length c2], .int .i64 (p_k)]) Tryd.func37 rfl Tryd.ntmps37 rfl (CW.seq (CW.region (sd rfl (yl_box (cs := [.int .i64 (p_a.Kind), .slice A1 p_a.Old.Vals.length c1, .slice A2 p_a.New.Vals.length c2]) rfl rfl rfl ?_))))
 intro b6 w7 hs8 hz9 hB10 hE11
 refine sd rfl (yl_assign rfl rfl (SeqR.done (tn (CW.seq (CW.region (sd rfl (yl_fieldAddr Tryd.fd46_1 rfl rfl (sd rfl (yl_loadN (cs := [.slice A1 p_a.Old.Vals.length c1]) Tryd.ty31 rfl rfl (hB10.cells (n := 1) rfl) rfl (sd rfl (yl_move rfl rfl (sd rfl (yl_call Tryd.en14 rfl (opvs_cons rfl (opvs_cons rfl opvs_nil)) (Cal.mono (c_l_markRow p_a.Old p_k (OwnL.ex good_Str h1 hE11) (by omega) (by first | omega | assumption | (simp only [IntKind.wrap_i64] at *; omega))) ?_))))))))))))))
 rintro v14 w13 ⟨rfl, h16, hm15⟩
 have hm15z := Mut.size hm15
 have hrf17 := rf_markRow p_a.Old p_k (by first | omega | assumption | (simp only [IntKind.wrap_i64] at *; omega))
 refine sd rfl (yl_assign rfl rfl (SeqR.done (tn (CW.seq (CW.region (sd rfl (yl_fieldAddr Tryd.fd46_2 rfl rfl (sd rfl (yl_loadN (cs := [.slice A2 p_a.New.Vals.length c2]) Tryd.ty31 rfl rfl ((Box.mut hB10 hm15 (fun k hk => by simp only [InR, or_false] at hk; omega)).cells (n := 1) rfl) rfl (sd rfl (yl_move rfl rfl (sd rfl (yl_call Tryd.en14 rfl (opvs_cons rfl (opvs_cons rfl opvs_nil)) (Cal.mono (c_l_markRow p_a.New ((l_markRow p_a.Old p_k).1) (OwnL.mut good_Str (OwnL.ex good_Str h2 hE11) hm15 (fun k hk => by simp only [InR, or_false] at hk; omega)) (by omega) (by first | omega | assumption | (simp only [IntKind.wrap_i64] at *; omega))) ?_))))))))))))))
 rintro v22 w21 ⟨rfl, h24, hm23⟩
 have hm23z := Mut.size hm23
 have hrf25 := rf_markRow p_a.New ((l_markRow p_a.Old p_k).1) (by first | omega | assumption | (simp only [IntKind.wrap_i64] at *; omega))
 refine sd rfl (yl_assign rfl rfl (SeqR.done (tn (CW.seq (CW.region (sd rfl (yl_move rfl rfl (sd rfl (yl_assign rfl rfl (SeqR.done (tn ?_)))))))))))
 refine CW.ret (rr rfl (.cons rfl .nil) ?_)
 have hM26 : (l_markRowAct p_a p_k) = (((l_markRow p_a.New ((l_markRow p_a.Old p_k).1)).1, (⟨p_a.Kind, (l_markRow p_a.Old p_k).2, (l_markRow p_a.New ((l_markRow p_a.Old p_k).1)).2⟩ : DRowAct))) := by simp only [l_markRowAct, cond_true, cond_false, loopE_done, loopE_ret]
 rw [hM26]
 exact ⟨rfl, (OwnL.mut good_Str h16 hm23 (fun k hk => by simp only [InR, or_false] at hk; omega)), h24, (Mut.mut (Mut.mut (Mut.ex (Mut.refl (l := [(lo1, hi1), (lo2, hi2)]) w) hE11) hm15 (fun k hk => by simp only [InR, or_false] at hk ⊢; omega)) hm23 (fun k hk => by simp only [InR, or_false] at hk ⊢; omega))⟩
set_option maxRecDepth 100000 in
set_option maxHeartbeats 2000000 in
theorem c_l_markStmt {A1 : Option Addr} {c1 : Nat} {lo1 hi1 : Nat} {A2 : Option Addr} {c2 : Nat} {lo2 hi2 : Nat} {w : World} (p_a : DStmt) (p_k : Int) (h1 : OwnL w lo1 hi1 9 1 (RF e_Str) A1 p_a.Act.Old.Vals.length c1 p_a.Act.Old.Vals) (h2 : OwnL w lo2 hi2 9 1 (RF e_Str) A2 p_a.Act.New.Vals.length c2 p_a.Act.New.Vals) (hrn3 : (0 ≤ lo1 ∧ lo1 ≤ hi1 ∧ hi1 ≤ w.heap.size)) (hrn4 : (0 ≤ lo2 ∧ lo2 ≤ hi2 ∧ hi2 ≤ w.heap.size)) (hrn5 : (hi1 ≤ lo2 ∨ hi2 ≤ lo1)) (pre0 : p_k ≤ 9223372036854775807) : Cal Tryd.prog 19 #[.agg #[.int .i64 (p_a.Kind), .int .i64 (p_a.Act.Kind), .slice A1 p_a.Act.Old.Vals.length c1, .slice A2 p_a.Act.New.Vals.length c2, .string (bs (p_a.Idx)), .string (bs (p_a.Low)), .string (bs (p_a.High))], .int .i64 (p_k)] w fun v w' => v = .int .i64 ((l_markStmt p_a p_k).1) ∧ OwnL w' lo1 hi1 9 1 (RF e_Str) A1 p_a.Act.Old.Vals.length c1 ((l_markStmt p_a p_k).2.Act.Old.Vals) ∧ OwnL w' lo2 hi2 9 1 (RF e_Str) A2 p_a.Act.New.Vals.length c2 ((l_markStmt p_a p_k).2.Act.New.Vals) ∧ Mut [(lo1, hi1), (lo2, hi2)] w w' := by
 refine Cal.of (vs := [.agg #[.int .i64 (p_a.Kind), .int .i64 (p_a.Act.Kind), .slice A1 p_a.Act.Old.Vals.length c1, .slice A2 p_a.Act.New.Vals.length c2, .string (bs (p_a.Idx)), .string (bs (p_a.Low)), .string (bs (p_a.High))], .int .i64 (p_k)]) Tryd.func19 rfl Tryd.ntmps19 rfl (CW.seq (CW.region (sd rfl (yl_box (cs := [.int .i64 (p_a.Kind), .int .i64 (p_a.Act.Kind), .slice A1 p_a.Act.Old.Vals.length c1, .slice A2 p_a.Act.New.Vals.length c2, .string (bs (p_a.Idx)), .string (bs (p_a.Low)), .string (bs (p_a.High))]) rfl rfl rfl ?_))))
 intro b6 w7 hs8 hz9 hB10 hE11
 refine sd rfl (yl_assign rfl rfl (SeqR.done (tn (CW.seq (CW.region (sd rfl (yl_fieldAddr Tryd.fd48_1 rfl rfl (sd rfl (yl_loadN (cs := [.int .i64 (p_a.Act.Kind), .slice A1 p_a.Act.Old.Vals.length c1, .slice A2 p_a.Act.New.Vals.length c2]) Tryd.ty46 rfl rfl (hB10.cells (n := 3) rfl) rfl (sd rfl (yl_move rfl rfl (sd rfl (yl_call Tryd.en37 rfl (opvs_cons rfl (opvs_cons rfl opvs_nil)) (Cal.mono (c_l_markRowAct p_a.Act p_k (OwnL.ex good_Str h1 hE11) (OwnL.ex good_Str h2 hE11) (by omega) (by omega) (by omega) (by first | omega | assumption | (simp only [IntKind.wrap_i64] at *; omega))) ?_))))))))))))))
 rintro v15 w14 ⟨rfl, h17, h18, hm16⟩
 have hm16z := Mut.size hm16
 have hrf19 := rf_markRowAct p_a.Act p_k (by first | omega | assumption | (simp only [IntKind.wrap_i64] at *; omega))
 refine sd rfl (yl_assign rfl rfl (SeqR.done (tn (CW.seq (CW.region (sd rfl (yl_move rfl rfl (sd rfl (yl_assign rfl rfl (SeqR.done (tn ?_)))))))))))
 refine CW.ret (rr rfl (.cons rfl .nil) ?_)
 have hM20 : (l_markStmt p_a p_k) = (((l_markRowAct p_a.Act p_k).1, (⟨p_a.Kind, (⟨p_a.Act.Kind, (l_markRowAct p_a.Act p_k).2.Old, (l_markRowAct p_a.Act p_k).2.New⟩ : DRowAct), p_a.Idx, p_a.Low, p_a.High⟩ : DStmt))) := by simp only [l_markStmt, cond_true, cond_false, loopE_done, loopE_ret]
 rw [hM20]
 exact ⟨rfl, h17, h18, (Mut.mut (Mut.ex (Mut.refl (l := [(lo1, hi1), (lo2, hi2)]) w) hE11) hm16 (fun k hk => by simp only [InR, or_false] at hk ⊢; omega))⟩
set_option maxRecDepth 100000 in
set_option maxHeartbeats 2000000 in
theorem c_l_heldStringS {A1 : Option Addr} {c1 : Nat} {w : World} (p_a : List Str) (p_k : Int) (h1 : RdS w (Iv 0 w.heap.size) (RF e_Str) 1 A1 p_a.length c1 p_a) (pre0 : p_k ≤ 9223372036854775807) : Cal Tryd.prog 33 #[.slice A1 p_a.length c1, .int .i64 (p_k)] w fun v w' => v = .int .i64 ((l_heldStringS p_a p_k)) ∧ Ex w w' := by
 refine Cal.of (vs := [.slice A1 p_a.length c1, .int .i64 (p_k)]) Tryd.func33 rfl Tryd.ntmps33 rfl (CW.seq (CW.region (sd rfl (yl_assign rfl rfl (SeqR.done (tn (CW.seq (CW.seq (CW.region ?_)))))))))
 refine sd rfl (yl_assign rfl rfl (SeqR.done (tn (CW.block (CW.loop (fun m4 L5 w6 => ∃ (k2 : Nat) (x3 : Int), m4 = p_a.length - k2 ∧ k2 ≤ p_a.length ∧ w.heap.size ≤ w6.heap.size ∧ lkp L5 0 = some (.slice A1 p_a.length c1) ∧ lkp L5 1 = some (.int .i64 (x3)) ∧ lkp L5 5 = some (.int .i64 ((k2 : Int))) ∧ RdS w6 (Iv 0 w.heap.size) (RF e_Str) 1 A1 p_a.length c1 p_a ∧ Ex w w6 ∧ x3 ≤ 9223372036854775807 ∧ loopM (B_l_heldStringS_0 p_a p_k) (p_a.length - k2) k2 (x3) = loopM (B_l_heldStringS_0 p_a p_k) (p_a.length - 0) 0 (p_k)) (p_a.length - 0) ?_ ?_)))))
 ·exact ⟨0, p_k, rfl, (by omega), Nat.le_refl _, rfl, rfl, rfl, h1, (Ex.refl w), (by first | omega | assumption | (simp only [IntKind.wrap_i64] at *; omega)), rfl⟩
 ·rintro m7 L8 w9 ⟨k2, x3, rfl, hk10, hsz12, hl13, hl14, hl15, hf16, hf17, hv18, hI11⟩
  refine CW.sub (Sub.cons hl13 (Sub.cons hl14 (Sub.cons hl15 (Sub.nil _)))) ?_
  have hf17z := Ex.size hf17
  have hbg19 := RdS.big hf16
  rcases Nat.lt_or_ge k2 p_a.length with hlt20 | hlt20
  ·refine CW.seq (CW.seq (CW.region (sd rfl (yl_move rfl rfl (sd rfl (yl_move rfl rfl (sd rfl (yl_len Tryd.un22 rfl rfl (sd rfl (yl_lss rfl rfl rfl (SeqR.done (tn ?_))))))))))))
   refine CW.cond_t rfl (lt_t hlt20) (CW.skip (tn (CW.seq (CW.block (CW.seq (CW.seq ?_))))))
   obtain ⟨eb21, eo21, ec21, eA21, eS21, ebl21, el21, eR21, eC21⟩ := RdS.atD hf16 d_Str (i := k2) (by first | omega | assumption)
   obtain rfl := eR21
   have eC21 : Cells w9 eb21 (eo21 + k2 * 1) [.string (bs ((p_a.getD k2 d_Str)))] := eC21
   refine CW.drawsI 7 (vgetI [DetI (.slice A1 p_a.length c1), DetI (.int .i64 ((k2 : Int))), DetI (.pointer (some ⟨eb21, eo21 + k2 * 1, none⟩)), DetI (.string (bs ((p_a.getD k2 d_Str)))), DetI (.int .i64 (x3)), DetI (.string (bs ((l_markText x3)))), DetI (.bool (!((p_a.getD k2 d_Str) == (l_markText x3))))]) Tryd.follows rfl rfl rfl rfl rfl rfl (vgetI_stable ⟨StableI.det _, StableI.det _, StableI.det _, StableI.det _, StableI.det _, StableI.det _, StableI.det _, trivial⟩) ⟨?_, ?_, ?_, ?_, ?_, ?_, ?_, trivial⟩ ?_
   ·exact fun _ _ h => os rfl ((yl_move rfl (h.old 0 _ rfl rfl) kI))
   ·exact fun _ _ h => os rfl ((yl_move rfl (h.old 5 _ rfl rfl) kI))
   ·intro L33 w34 hi35
    have hE36 := hi35.ex
    have hE36z := Ex.size hE36
    exact os rfl ((yl_indexAddrN Tryd.un22 Tryd.ty9 rfl (hi35.dt 0 12 rfl rfl rfl) (hi35.dt 1 13 rfl rfl rfl) eA21 (by first | omega | assumption | (simp only [IntKind.wrap_i64] at *; omega)) kI))
   ·exact fun _ _ h => os rfl ((yl_load1 Tryd.ty9 rfl (h.dt 2 14 rfl rfl rfl) ((Cells.ex eC21 h.ex) 0 _ rfl) kI))
   ·exact fun _ _ h => os rfl ((yl_move rfl (h.old 1 _ rfl rfl) kI))
   ·intro L50 w51 hi52
    have hE53 := hi52.ex
    have hE53z := Ex.size hE53
    refine OpR.op' rfl (yl_call Tryd.en56 rfl (opvs_cons (hi52.dt 4 16 rfl rfl rfl) opvs_nil) (Cal.mono (c_l_markText x3 (by first | omega | assumption | (simp only [IntKind.wrap_i64] at *; omega))) ?_))
    rintro v56 w55 ⟨rfl, hE57⟩
    exact ⟨rfl, hE57⟩
   ·exact fun _ _ h => os rfl ((yl_sneq (a := (p_a.getD k2 d_Str)) (b := (l_markText x3)) rfl (h.dt 3 15 rfl rfl rfl) (h.dt 5 17 rfl rfl rfl) kI))
   ·intro fl67 fh68 L64 w65 hp66
    have hE69 := hp66.ex
    have hE69z := Ex.size hE69
    refine SeqR.done (tn (CW.sub (Sub.cons (d := 0) (hp66.old 0 _ rfl rfl) (Sub.cons (d := 1) (hp66.old 1 _ rfl rfl) (Sub.cons (d := 5) (hp66.old 5 _ rfl rfl) (Sub.cons (d := 18) (hp66.nt 6 18 rfl rfl rfl) (Sub.nil _))))) (bcase ((p_a.getD k2 d_Str) == (l_markText x3)) (fun hb74 => ?_) (fun hb74 => ?_))))
    ·refine CW.cond_f rfl (not_t hb74) (CW.skip (tn (CW.region (sd rfl (yl_move rfl rfl (sd rfl (yl_add rfl rfl rfl (sd rfl (yl_assign rfl rfl (SeqR.done (bn ?_)))))))))))
     refine tn (CW.region (sd rfl (yl_move rfl rfl (sd rfl (yl_inc rfl rfl rfl (by omega) (sd rfl (yl_assign rfl rfl (SeqR.done (tn ?_)))))))))
     have hB75 : B_l_heldStringS_0 p_a p_k k2 (x3) = .cont (IntKind.wrap .i64 (x3 + 1)) := by simp only [B_l_heldStringS_0, hb74, cond_true, cond_false, loopE_done, loopE_ret]
     exact ⟨p_a.length - (k2 + 1), by omega, k2 + 1, IntKind.wrap .i64 (x3 + 1), rfl, hlt20, (by omega), rfl, rfl, rfl, (RdS.ex good_Str hf16 hE69), (Ex.trans hf17 hE69), (by first | omega | assumption | (simp only [IntKind.wrap_i64] at *; omega)), (loopM.cont hlt20 hB75).symm.trans hI11⟩
    ·refine CW.cond_t rfl (not_f hb74) (CW.seq (CW.region (sd rfl (yl_assign rfl rfl (SeqR.done (tn (CW.ret (tr (br ?_)))))))))
     refine tr (tr ?_)
     have hB79 : B_l_heldStringS_0 p_a p_k k2 (x3) = .ret (-1) := by simp only [B_l_heldStringS_0, hb74, cond_true, cond_false, loopE_done, loopE_ret]
     have hL78 : loopM (B_l_heldStringS_0 p_a p_k) (p_a.length - 0) 0 (p_k) = .ret (-1) := hI11.symm.trans (loopM.ret hlt20 hB79)
     refine br (tr (rr rfl (.cons rfl .nil) ?_))
     have hM80 : (l_heldStringS p_a p_k) = (-1) := by simp only [l_heldStringS, hb74, hL78, cond_true, cond_false, loopE_done, loopE_ret]
     rw [hM80]
     exact ⟨rfl, (Ex.trans hf17 hE69)⟩
  ·refine CW.seq (CW.seq (CW.region (sd rfl (yl_move rfl rfl (sd rfl (yl_move rfl rfl (sd rfl (yl_len Tryd.un22 rfl rfl (sd rfl (yl_lss rfl rfl rfl (SeqR.done (tn ?_))))))))))))
   refine CW.cond_f rfl (lt_f hlt20) (CW.exit (tx (tx ?_)))
   have hL82 : loopM (B_l_heldStringS_0 p_a p_k) (p_a.length - 0) 0 (p_k) = .done (x3) := hI11.symm.trans (loopM.stop hlt20)
   refine bx (tn (CW.seq (CW.region (sd rfl (yl_move rfl rfl (sd rfl (yl_assign rfl rfl (SeqR.done (tn (CW.ret ?_))))))))))
   refine rr rfl (.cons rfl .nil) ?_
   have hM83 : (l_heldStringS p_a p_k) = (x3) := by simp only [l_heldStringS, hL82, cond_true, cond_false, loopE_done, loopE_ret]
   rw [hM83]
   exact ⟨rfl, hf17⟩
set_option maxRecDepth 100000 in
set_option maxHeartbeats 2000000 in
theorem c_l_heldRow {A1 : Option Addr} {c1 : Nat} {w : World} (p_a : DRow) (p_k : Int) (h1 : RdS w (Iv 0 w.heap.size) (RF e_Str) 1 A1 p_a.Vals.length c1 p_a.Vals) (pre0 : p_k ≤ 9223372036854775807) : Cal Tryd.prog 15 #[.agg #[.slice A1 p_a.Vals.length c1], .int .i64 (p_k)] w fun v w' => v = .int .i64 ((l_heldRow p_a p_k)) ∧ Ex w w' := by
 refine Cal.of (vs := [.agg #[.slice A1 p_a.Vals.length c1], .int .i64 (p_k)]) Tryd.func15 rfl Tryd.ntmps15 rfl (CW.seq (CW.region (sd rfl (yl_box (cs := [.slice A1 p_a.Vals.length c1]) rfl rfl rfl ?_))))
 intro b2 w3 hs4 hz5 hB6 hE7
 refine sd rfl (yl_assign rfl rfl (SeqR.done (tn (CW.seq (CW.region (sd rfl (yl_fieldAddr Tryd.fd31_0 rfl rfl (sd rfl (yl_load1 Tryd.ty22 rfl rfl ((hB6.cell 0).trans rfl) (sd rfl (yl_move rfl rfl (sd rfl (yl_call Tryd.en33 rfl (opvs_cons rfl (opvs_cons rfl opvs_nil)) (Cal.mono (c_l_heldStringS p_a.Vals p_k (RdS.up (RdS.ex good_Str h1 hE7) good_Str) (by first | omega | assumption | (simp only [IntKind.wrap_i64] at *; omega))) ?_))))))))))))))
 rintro v10 w9 ⟨rfl, hE11⟩
 have hE11z := Ex.size hE11
 have hrf12 := rf_heldStringS p_a.Vals p_k (by first | omega | assumption | (simp only [IntKind.wrap_i64] at *; omega))
 refine sd rfl (yl_assign rfl rfl (SeqR.done (tn (CW.seq (CW.seq (CW.region (sd rfl (yl_move rfl rfl (sd rfl (yl_lss rfl rfl rfl (SeqR.done ?_)))))))))))
 refine tn (bcase (decide ((l_heldStringS p_a.Vals p_k) < 0)) (fun hb13 => ?_) (fun hb13 => ?_))
 ·have hb13p := dec_t hb13
  refine CW.cond_t rfl hb13 (CW.seq (CW.region (sd rfl (yl_assign rfl rfl (SeqR.done (tn (CW.ret (tr (rr rfl (.cons rfl .nil) ?_)))))))))
  have hM14 : (l_heldRow p_a p_k) = (-1) := by simp only [l_heldRow, hb13, cond_true, cond_false, loopE_done, loopE_ret]
  rw [hM14]
  exact ⟨rfl, (Ex.trans (Ex.trans (Ex.refl w) hE7) hE11)⟩
 ·have hb13p := dec_f hb13
  refine CW.cond_f rfl hb13 (CW.skip (tn (CW.seq (CW.region (sd rfl (yl_move rfl rfl (sd rfl (yl_assign rfl rfl (SeqR.done (tn ?_))))))))))
  refine CW.ret (rr rfl (.cons rfl .nil) ?_)
  have hM17 : (l_heldRow p_a p_k) = ((l_heldStringS p_a.Vals p_k)) := by simp only [l_heldRow, hb13, cond_true, cond_false, loopE_done, loopE_ret]
  rw [hM17]
  exact ⟨rfl, (Ex.trans (Ex.trans (Ex.refl w) hE7) hE11)⟩
set_option maxRecDepth 100000 in
set_option maxHeartbeats 2000000 in
theorem c_l_heldRowAct {A1 : Option Addr} {c1 : Nat} {A2 : Option Addr} {c2 : Nat} {w : World} (p_a : DRowAct) (p_k : Int) (h1 : RdS w (Iv 0 w.heap.size) (RF e_Str) 1 A1 p_a.Old.Vals.length c1 p_a.Old.Vals) (h2 : RdS w (Iv 0 w.heap.size) (RF e_Str) 1 A2 p_a.New.Vals.length c2 p_a.New.Vals) (pre0 : p_k ≤ 9223372036854775807) : Cal Tryd.prog 38 #[.agg #[.int .i64 (p_a.Kind), .slice A1 p_a.Old.Vals.length c1, .slice A2 p_a.New.Vals.length c2], .int .i64 (p_k)] w fun v w' => v = .int .i64 ((l_heldRowAct p_a p_k)) ∧ Ex w w' := by
 refine Cal.of (vs := [.agg #[.int .i64 (p_a.Kind), .slice A1 p_a.Old.Vals.length c1, .slice A2 p_a.New.Vals.length c2], .int .i64 (p_k)]) Tryd.func38 rfl Tryd.ntmps38 rfl (CW.seq (CW.region (sd rfl (yl_box (cs := [.int .i64 (p_a.Kind), .slice A1 p_a.Old.Vals.length c1, .slice A2 p_a.New.Vals.length c2]) rfl rfl rfl ?_))))
 intro b3 w4 hs5 hz6 hB7 hE8
 refine sd rfl (yl_assign rfl rfl (SeqR.done (tn (CW.seq (CW.region (sd rfl (yl_fieldAddr Tryd.fd46_1 rfl rfl (sd rfl (yl_loadN (cs := [.slice A1 p_a.Old.Vals.length c1]) Tryd.ty31 rfl rfl (hB7.cells (n := 1) rfl) rfl (sd rfl (yl_move rfl rfl (sd rfl (yl_call Tryd.en15 rfl (opvs_cons rfl (opvs_cons rfl opvs_nil)) (Cal.mono (c_l_heldRow p_a.Old p_k (RdS.up (RdS.ex good_Str h1 hE8) good_Str) (by first | omega | assumption | (simp only [IntKind.wrap_i64] at *; omega))) ?_))))))))))))))
 rintro v11 w10 ⟨rfl, hE12⟩
 have hE12z := Ex.size hE12
 have hrf13 := rf_heldRow p_a.Old p_k (by first | omega | assumption | (simp only [IntKind.wrap_i64] at *; omega))
 refine sd rfl (yl_assign rfl rfl (SeqR.done (tn (CW.seq (CW.seq (CW.region (sd rfl (yl_move rfl rfl (sd rfl (yl_lss rfl rfl rfl (SeqR.done ?_)))))))))))
 refine tn (bcase (decide ((l_heldRow p_a.Old p_k) < 0)) (fun hb14 => ?_) (fun hb14 => ?_))
 ·have hb14p := dec_t hb14
  refine CW.cond_t rfl hb14 (CW.seq (CW.region (sd rfl (yl_assign rfl rfl (SeqR.done (tn (CW.ret (tr (rr rfl (.cons rfl .nil) ?_)))))))))
  have hM15 : (l_heldRowAct p_a p_k) = (-1) := by simp only [l_heldRowAct, hb14, cond_true, cond_false, loopE_done, loopE_ret]
  rw [hM15]
  exact ⟨rfl, (Ex.trans (Ex.trans (Ex.refl w) hE8) hE12)⟩
 ·have hb14p := dec_f hb14
  refine CW.cond_f rfl hb14 (CW.skip (tn (CW.seq (CW.region (sd rfl (yl_fieldAddr Tryd.fd46_2 rfl rfl (sd rfl (yl_loadN (cs := [.slice A2 p_a.New.Vals.length c2]) Tryd.ty31 rfl rfl ((Box.ex hB7 hE12).cells (n := 1) rfl) rfl (sd rfl (yl_move rfl rfl (sd rfl (yl_call Tryd.en15 rfl (opvs_cons rfl (opvs_cons rfl opvs_nil)) (Cal.mono (c_l_heldRow p_a.New (l_heldRow p_a.Old p_k) (RdS.up (RdS.ex good_Str (RdS.ex good_Str h2 hE8) hE12) good_Str) (by first | omega | assumption | (simp only [IntKind.wrap_i64] at *; omega))) ?_)))))))))))))
  rintro v22 w21 ⟨rfl, hE23⟩
  have hE23z := Ex.size hE23
  have hrf24 := rf_heldRow p_a.New (l_heldRow p_a.Old p_k) (by first | omega | assumption | (simp only [IntKind.wrap_i64] at *; omega))
  refine sd rfl (yl_assign rfl rfl (SeqR.done (tn (CW.seq (CW.seq (CW.region (sd rfl (yl_move rfl rfl (sd rfl (yl_lss rfl rfl rfl (SeqR.done ?_)))))))))))
  refine tn (bcase (decide ((l_heldRow p_a.New (l_heldRow p_a.Old p_k)) < 0)) (fun hb25 => ?_) (fun hb25 => ?_))
  ·have hb25p := dec_t hb25
   refine CW.cond_t rfl hb25 (CW.seq (CW.region (sd rfl (yl_assign rfl rfl (SeqR.done (tn (CW.ret (tr (rr rfl (.cons rfl .nil) ?_)))))))))
   have hM26 : (l_heldRowAct p_a p_k) = (-1) := by simp only [l_heldRowAct, hb14, hb25, cond_true, cond_false, loopE_done, loopE_ret]
   rw [hM26]
   exact ⟨rfl, (Ex.trans (Ex.trans (Ex.trans (Ex.refl w) hE8) hE12) hE23)⟩
  ·have hb25p := dec_f hb25
   refine CW.cond_f rfl hb25 (CW.skip (tn (CW.seq (CW.region (sd rfl (yl_move rfl rfl (sd rfl (yl_assign rfl rfl (SeqR.done (tn ?_))))))))))
   refine CW.ret (rr rfl (.cons rfl .nil) ?_)
   have hM30 : (l_heldRowAct p_a p_k) = ((l_heldRow p_a.New (l_heldRow p_a.Old p_k))) := by simp only [l_heldRowAct, hb14, hb25, cond_true, cond_false, loopE_done, loopE_ret]
   rw [hM30]
   exact ⟨rfl, (Ex.trans (Ex.trans (Ex.trans (Ex.refl w) hE8) hE12) hE23)⟩
set_option maxRecDepth 100000 in
set_option maxHeartbeats 2000000 in
theorem c_l_heldStmt {A1 : Option Addr} {c1 : Nat} {A2 : Option Addr} {c2 : Nat} {w : World} (p_a : DStmt) (p_k : Int) (h1 : RdS w (Iv 0 w.heap.size) (RF e_Str) 1 A1 p_a.Act.Old.Vals.length c1 p_a.Act.Old.Vals) (h2 : RdS w (Iv 0 w.heap.size) (RF e_Str) 1 A2 p_a.Act.New.Vals.length c2 p_a.Act.New.Vals) (pre0 : p_k ≤ 9223372036854775807) : Cal Tryd.prog 20 #[.agg #[.int .i64 (p_a.Kind), .int .i64 (p_a.Act.Kind), .slice A1 p_a.Act.Old.Vals.length c1, .slice A2 p_a.Act.New.Vals.length c2, .string (bs (p_a.Idx)), .string (bs (p_a.Low)), .string (bs (p_a.High))], .int .i64 (p_k)] w fun v w' => v = .int .i64 ((l_heldStmt p_a p_k)) ∧ Ex w w' := by
 refine Cal.of (vs := [.agg #[.int .i64 (p_a.Kind), .int .i64 (p_a.Act.Kind), .slice A1 p_a.Act.Old.Vals.length c1, .slice A2 p_a.Act.New.Vals.length c2, .string (bs (p_a.Idx)), .string (bs (p_a.Low)), .string (bs (p_a.High))], .int .i64 (p_k)]) Tryd.func20 rfl Tryd.ntmps20 rfl (CW.seq (CW.region (sd rfl (yl_box (cs := [.int .i64 (p_a.Kind), .int .i64 (p_a.Act.Kind), .slice A1 p_a.Act.Old.Vals.length c1, .slice A2 p_a.Act.New.Vals.length c2, .string (bs (p_a.Idx)), .string (bs (p_a.Low)), .string (bs (p_a.High))]) rfl rfl rfl ?_))))
 intro b3 w4 hs5 hz6 hB7 hE8
 refine sd rfl (yl_assign rfl rfl (SeqR.done (tn (CW.seq (CW.region (sd rfl (yl_fieldAddr Tryd.fd48_1 rfl rfl (sd rfl (yl_loadN (cs := [.int .i64 (p_a.Act.Kind), .slice A1 p_a.Act.Old.Vals.length c1, .slice A2 p_a.Act.New.Vals.length c2]) Tryd.ty46 rfl rfl (hB7.cells (n := 3) rfl) rfl (sd rfl (yl_move rfl rfl (sd rfl (yl_call Tryd.en38 rfl (opvs_cons rfl (opvs_cons rfl opvs_nil)) (Cal.mono (c_l_heldRowAct p_a.Act p_k (RdS.up (RdS.ex good_Str h1 hE8) good_Str) (RdS.up (RdS.ex good_Str h2 hE8) good_Str) (by first | omega | assumption | (simp only [IntKind.wrap_i64] at *; omega))) ?_))))))))))))))
 rintro v12 w11 ⟨rfl, hE13⟩
 have hE13z := Ex.size hE13
 have hrf14 := rf_heldRowAct p_a.Act p_k (by first | omega | assumption | (simp only [IntKind.wrap_i64] at *; omega))
 refine sd rfl (yl_assign rfl rfl (SeqR.done (tn (CW.seq (CW.seq (CW.region (sd rfl (yl_move rfl rfl (sd rfl (yl_lss rfl rfl rfl (SeqR.done ?_)))))))))))
 refine tn (bcase (decide ((l_heldRowAct p_a.Act p_k) < 0)) (fun hb15 => ?_) (fun hb15 => ?_))
 ·have hb15p := dec_t hb15
  refine CW.cond_t rfl hb15 (CW.seq (CW.region (sd rfl (yl_assign rfl rfl (SeqR.done (tn (CW.ret (tr (rr rfl (.cons rfl .nil) ?_)))))))))
  have hM16 : (l_heldStmt p_a p_k) = (-1) := by simp only [l_heldStmt, hb15, cond_true, cond_false, loopE_done, loopE_ret]
  rw [hM16]
  exact ⟨rfl, (Ex.trans (Ex.trans (Ex.refl w) hE8) hE13)⟩
 ·have hb15p := dec_f hb15
  refine CW.cond_f rfl hb15 (CW.skip (tn (CW.seq (CW.region (sd rfl (yl_move rfl rfl (sd rfl (yl_assign rfl rfl (SeqR.done (tn ?_))))))))))
  refine CW.ret (rr rfl (.cons rfl .nil) ?_)
  have hM19 : (l_heldStmt p_a p_k) = ((l_heldRowAct p_a.Act p_k)) := by simp only [l_heldStmt, hb15, cond_true, cond_false, loopE_done, loopE_ret]
  rw [hM19]
  exact ⟨rfl, (Ex.trans (Ex.trans (Ex.refl w) hE8) hE13)⟩
set_option maxRecDepth 100000 in
set_option maxHeartbeats 2000000 in
theorem c_l_FnExactReadStmt {A1 : Option Addr} {c1 : Nat} {A2 : Option Addr} {c2 : Nat} {w : World} (p_0 : DTable) (p_1 : Str) (h1 : RdS w (Iv 0 w.heap.size) (RF e_Str) 1 A1 p_0.Cols.length c1 p_0.Cols) (h2 : RdS w (Iv 0 w.heap.size) (RF e_Idx) 3 A2 p_0.Idxs.length c2 p_0.Idxs) (pre0 : wf_Table p_0) (pre1 : wfS p_1) : Cal Tryd.prog 4 #[.agg #[.string (bs (p_0.Name)), .slice A1 p_0.Cols.length c1, .slice A2 p_0.Idxs.length c2], .string (bs (p_1))] w fun v w' => v = .bool ((l_FnExactReadStmt p_0 p_1)) ∧ Ex w w' := by
 refine Cal.of (vs := [.agg #[.string (bs (p_0.Name)), .slice A1 p_0.Cols.length c1, .slice A2 p_0.Idxs.length c2], .string (bs (p_1))]) Tryd.func4 rfl Tryd.ntmps4 rfl (CW.seq (CW.region (sd rfl (yl_box (cs := [.string (bs (p_0.Name)), .slice A1 p_0.Cols.length c1, .slice A2 p_0.Idxs.length c2]) rfl rfl rfl ?_))))
 intro b3 w4 hs5 hz6 hB7 hE8
 refine sd rfl (yl_assign rfl rfl (SeqR.done (tn (CW.seq (CW.seq (CW.region (sd rfl (yl_move rfl rfl (sd rfl (yl_slen Tryd.un9 (a := p_1) rfl rfl (sd rfl (yl_gtr rfl rfl rfl ?_))))))))))))
 refine SeqR.done (tn (bcase (decide (1048576 < (p_1.length : Int))) (fun hb9 => ?_) (fun hb9 => ?_)))
 ·have hb9p := dec_t hb9
  refine CW.cond_t rfl hb9 (CW.seq (CW.region (sd rfl (yl_assign rfl rfl (SeqR.done (tn (CW.ret (tr (rr rfl (.cons rfl .nil) ?_)))))))))
  have hM10 : (l_FnExactReadStmt p_0 p_1) = (true) := by simp only [l_FnExactReadStmt, hb9, cond_true, cond_false, loopE_done, loopE_ret]
  rw [hM10]
  exact ⟨rfl, (Ex.trans (Ex.refl w) hE8)⟩
 ·have hb9p := dec_f hb9
  refine CW.cond_f rfl hb9 (CW.skip (tn (CW.seq (CW.region (sd rfl (yl_assign rfl rfl (SeqR.done (tn (CW.seq ?_)))))))))
  refine CW.region (sd rfl (yl_loadN (cs := [.string (bs (p_0.Name)), .slice A1 p_0.Cols.length c1, .slice A2 p_0.Idxs.length c2]) Tryd.ty25 rfl rfl (hB7.cells (n := 3) rfl) rfl (sd rfl (yl_move rfl rfl ?_))))
  have q12 := RdS.ex good_Str h1 hE8
  have q13 := RdS.ex good_Idx h2 hE8
  refine sd rfl (yl_call Tryd.en5 rfl (opvs_cons rfl (opvs_cons rfl opvs_nil)) (Cal.mono (c_l_szTable p_0 1048576 (RdS.up q12 good_Str) (RdS.up q13 good_Idx)) ?_))
  rintro v15 w14 ⟨rfl, hE16⟩
  have hE16z := Ex.size hE16
  refine sd rfl (yl_assign rfl rfl (SeqR.done (tn (CW.seq (CW.seq (CW.region (sd rfl (yl_move rfl rfl (sd rfl (yl_lss rfl rfl rfl (SeqR.done ?_)))))))))))
  refine tn (bcase (decide ((l_szTable p_0 1048576) < 0)) (fun hb17 => ?_) (fun hb17 => ?_))
  ·have hb17p := dec_t hb17
   refine CW.cond_t rfl hb17 (CW.seq (CW.region (sd rfl (yl_assign rfl rfl (SeqR.done (tn (CW.ret (tr (rr rfl (.cons rfl .nil) ?_)))))))))
   have hM18 : (l_FnExactReadStmt p_0 p_1) = (true) := by simp only [l_FnExactReadStmt, hb9, hb17, cond_true, cond_false, loopE_done, loopE_ret]
   rw [hM18]
   exact ⟨rfl, (Ex.trans (Ex.trans (Ex.refl w) hE8) hE16)⟩
  ·have hb17p := dec_f hb17
   refine CW.cond_f rfl hb17 (CW.skip (tn (CW.seq (CW.region ?_))))
   have q21 := Box.ex hB7 hE16
   refine sd rfl (yl_loadN (cs := [.string (bs (p_0.Name)), .slice A1 p_0.Cols.length c1, .slice A2 p_0.Idxs.length c2]) Tryd.ty25 rfl rfl (q21.cells (n := 3) rfl) rfl ?_)
   have q22 := RdS.ex good_Str q12 hE16
   have q23 := RdS.ex good_Idx q13 hE16
   refine sd rfl (yl_call Tryd.en8 rfl (opvs_cons rfl opvs_nil) (Cal.mono (c_l_toTable p_0 (RdS.up q22 good_Str) (RdS.up q23 good_Idx) ((szok_Table pre0 (by decide) (dec_f hb17)).1)) ?_))
   rintro v27 w24 ⟨A25, c25, lo25, hi25, A26, c26, lo26, hi26, rfl, h25, h26, hrn29, hrn30, hrn31, hE28⟩
   have hE28z := Ex.size hE28
   refine sd rfl (yl_move rfl rfl (sd rfl (yl_call Tryd.en16 rfl (opvs_cons rfl (opvs_cons rfl opvs_nil)) (Cal.mono (c_s_ReadStmt p_0 p_1 (RdS.up (OwnL.rd good_Str h25) good_Str) (RdS.up (OwnL.rd good_Idx h26) good_Idx) ((szok_Table pre0 (by decide) (dec_f hb17)).1) (by unfold okS; omega)) ?_))))
   rintro v38 w34 ⟨A35, c35, lo35, hi35, A36, c36, lo36, hi36, rfl, h35, h36, ho37, hrn40, hrn41, hrn42, hE39⟩
   have hE39z := Ex.size hE39
   refine sd rfl (yl_move rfl rfl (sd rfl (yl_extract rfl rfl rfl (sd rfl (yl_extract rfl rfl rfl (sd rfl (yl_alloc Tryd.ty48 (cs := [.int .i64 (0), .int .i64 (0), .slice none 0 0, .slice none 0 0, .string (bs (([] : Str))), .string (bs (([] : Str))), .string (bs (([] : Str)))]) rfl rfl ?_)))))))
   intro b43 w44 hs45 hz46 hB47 hE48
   refine SeqR.u rfl rfl (yl_store (vs := [.int .i64 ((s_ReadStmt p_0 p_1).1.Kind), .int .i64 ((s_ReadStmt p_0 p_1).1.Act.Kind), .slice A35 (((s_ReadStmt p_0 p_1).1.Act.Old.Vals).length) c35, .slice A36 (((s_ReadStmt p_0 p_1).1.Act.New.Vals).length) c36, .string (bs ((s_ReadStmt p_0 p_1).1.Idx)), .string (bs ((s_ReadStmt p_0 p_1).1.Low)), .string (bs ((s_ReadStmt p_0 p_1).1.High))]) Tryd.ty48 rfl rfl rfl rfl rfl rfl hB47 (Nat.le_of_ble_eq_true rfl) ?_)
   intro w49 hB50 hO51
   have hB50 : Box w49 b43 48 [.int .i64 ((s_ReadStmt p_0 p_1).1.Kind), .int .i64 ((s_ReadStmt p_0 p_1).1.Act.Kind), .slice A35 (((s_ReadStmt p_0 p_1).1.Act.Old.Vals).length) c35, .slice A36 (((s_ReadStmt p_0 p_1).1.Act.New.Vals).length) c36, .string (bs ((s_ReadStmt p_0 p_1).1.Idx)), .string (bs ((s_ReadStmt p_0 p_1).1.Low)), .string (bs ((s_ReadStmt p_0 p_1).1.High))] := hB50
   have hO51z := hO51.size
   refine sd rfl (yl_assign rfl rfl (SeqR.done (tn (CW.seq (CW.region ?_)))))
   have q55 := Box.only (Box.ex (Box.ex (Box.ex q21 hE28) hE39) hE48) hO51 (by omega)
   refine sd rfl (yl_loadN (cs := [.string (bs (p_0.Name)), .slice A1 p_0.Cols.length c1, .slice A2 p_0.Idxs.length c2]) Tryd.ty25 rfl rfl (q55.cells (n := 3) rfl) rfl ?_)
   have q59 := RdS.only good_Str (RdS.ex good_Str (RdS.ex good_Str (RdS.ex good_Str q22 hE28) hE39) hE48) hO51 (by simp only [Iv]; omega)
   have q63 := RdS.only good_Idx (RdS.ex good_Idx (RdS.ex good_Idx (RdS.ex good_Idx q23 hE28) hE39) hE48) hO51 (by simp only [Iv]; omega)
   refine sd rfl (yl_call Tryd.en8 rfl (opvs_cons rfl opvs_nil) (Cal.mono (c_l_toTable p_0 (RdS.up q59 good_Str) (RdS.up q63 good_Idx) ((szok_Table pre0 (by decide) (dec_f hb17)).1)) ?_))
   rintro v67 w64 ⟨A65, c65, lo65, hi65, A66, c66, lo66, hi66, rfl, h65, h66, hrn69, hrn70, hrn71, hE68⟩
   have hE68z := Ex.size hE68
   refine sd rfl (yl_alloc Tryd.ty36 (cs := [.string (bs (([] : Str))), .slice none 0 0, .slice none 0 0]) rfl rfl ?_)
   intro b72 w73 hs74 hz75 hB76 hE77
   refine SeqR.u rfl rfl (yl_store (vs := [.string (bs (p_0.Name)), .slice A65 p_0.Cols.length c65, .slice A66 p_0.Idxs.length c66]) Tryd.ty36 rfl rfl rfl rfl rfl rfl hB76 (Nat.le_of_ble_eq_true rfl) ?_)
   intro w78 hB79 hO80
   have hB79 : Box w78 b72 36 [.string (bs (p_0.Name)), .slice A65 p_0.Cols.length c65, .slice A66 p_0.Idxs.length c66] := hB79
   have hO80z := hO80.size
   refine SeqR.done (tn (CW.seq (CW.region (sd rfl (yl_loadN (cs := [.string (bs (p_0.Name)), .slice A65 p_0.Cols.length c65, .slice A66 p_0.Idxs.length c66]) Tryd.ty36 rfl rfl (hB79.cells (n := 3) rfl) rfl (sd rfl (yl_move rfl rfl ?_)))))))
   have q83 := OwnL.only good_Str (OwnL.ex good_Str h65 hE77) hO80 (by omega)
   have q86 := OwnL.only good_Idx (OwnL.ex good_Idx h66 hE77) hO80 (by omega)
   refine sd rfl (yl_call Tryd.en17 rfl (opvs_cons rfl (opvs_cons rfl opvs_nil)) (Cal.mono (c_i_ReadStmt p_0 p_1 (RdS.up (OwnL.rd good_Str q83) good_Str) (RdS.up (OwnL.rd good_Idx q86) good_Idx) ((szok_Table pre0 (by decide) (dec_f hb17)).1) (by unfold okS; omega)) ?_))
   rintro v91 w87 ⟨A88, c88, lo88, hi88, A89, c89, lo89, hi89, rfl, h88, h89, ho90, hrn93, hrn94, hrn95, hE92⟩
   have hE92z := Ex.size hE92
   refine sd rfl (yl_move rfl rfl (sd rfl (yl_extract rfl rfl rfl (sd rfl (yl_extract rfl rfl rfl (sd rfl (yl_alloc Tryd.ty48 (cs := [.int .i64 (0), .int .i64 (0), .slice none 0 0, .slice none 0 0, .string (bs (([] : Str))), .string (bs (([] : Str))), .string (bs (([] : Str)))]) rfl rfl ?_)))))))
   intro b96 w97 hs98 hz99 hB100 hE101
   refine SeqR.u rfl rfl (yl_store (vs := [.int .i64 ((i_ReadStmt p_0 p_1).1.Kind), .int .i64 ((i_ReadStmt p_0 p_1).1.Act.Kind), .slice A88 (((i_ReadStmt p_0 p_1).1.Act.Old.Vals).length) c88, .slice A89 (((i_ReadStmt p_0 p_1).1.Act.New.Vals).length) c89, .string (bs ((i_ReadStmt p_0 p_1).1.Idx)), .string (bs ((i_ReadStmt p_0 p_1).1.Low)), .string (bs ((i_ReadStmt p_0 p_1).1.High))]) Tryd.ty48 rfl rfl rfl rfl rfl rfl hB100 (Nat.le_of_ble_eq_true rfl) ?_)
   intro w102 hB103 hO104
   have hB103 : Box w102 b96 48 [.int .i64 ((i_ReadStmt p_0 p_1).1.Kind), .int .i64 ((i_ReadStmt p_0 p_1).1.Act.Kind), .slice A88 (((i_ReadStmt p_0 p_1).1.Act.Old.Vals).length) c88, .slice A89 (((i_ReadStmt p_0 p_1).1.Act.New.Vals).length) c89, .string (bs ((i_ReadStmt p_0 p_1).1.Idx)), .string (bs ((i_ReadStmt p_0 p_1).1.Low)), .string (bs ((i_ReadStmt p_0 p_1).1.High))] := hB103
   have hO104z := hO104.size
   refine sd rfl (yl_assign rfl rfl (SeqR.done (tn (CW.seq (CW.seq (CW.region (sd rfl (yl_loadN (cs := [.int .i64 ((i_ReadStmt p_0 p_1).1.Kind), .int .i64 ((i_ReadStmt p_0 p_1).1.Act.Kind), .slice A88 (((i_ReadStmt p_0 p_1).1.Act.Old.Vals).length) c88, .slice A89 (((i_ReadStmt p_0 p_1).1.Act.New.Vals).length) c89, .string (bs ((i_ReadStmt p_0 p_1).1.Idx)), .string (bs ((i_ReadStmt p_0 p_1).1.Low)), .string (bs ((i_ReadStmt p_0 p_1).1.High))]) Tryd.ty48 rfl rfl (hB103.cells (n := 7) rfl) rfl ?_))))))))
   have q110 := Box.only (Box.ex (Box.ex (Box.only (Box.ex (Box.ex hB50 hE68) hE77) hO80 (by omega)) hE92) hE101) hO104 (by omega)
   refine sd rfl (yl_loadN (cs := [.int .i64 ((s_ReadStmt p_0 p_1).1.Kind), .int .i64 ((s_ReadStmt p_0 p_1).1.Act.Kind), .slice A35 (((s_ReadStmt p_0 p_1).1.Act.Old.Vals).length) c35, .slice A36 (((s_ReadStmt p_0 p_1).1.Act.New.Vals).length) c36, .string (bs ((s_ReadStmt p_0 p_1).1.Idx)), .string (bs ((s_ReadStmt p_0 p_1).1.Low)), .string (bs ((s_ReadStmt p_0 p_1).1.High))]) Tryd.ty48 rfl rfl (q110.cells (n := 7) rfl) rfl ?_)
   have q113 := OwnL.only good_Str (OwnL.ex good_Str h88 hE101) hO104 (by omega)
   have q116 := OwnL.only good_Str (OwnL.ex good_Str h89 hE101) hO104 (by omega)
   have q125 := OwnL.only good_Str (OwnL.ex good_Str (OwnL.ex good_Str (OwnL.only good_Str (OwnL.ex good_Str (OwnL.ex good_Str (OwnL.only good_Str (OwnL.ex good_Str h35 hE48) hO51 (by omega)) hE68) hE77) hO80 (by omega)) hE92) hE101) hO104 (by omega)
   have q134 := OwnL.only good_Str (OwnL.ex good_Str (OwnL.ex good_Str (OwnL.only good_Str (OwnL.ex good_Str (OwnL.ex good_Str (OwnL.only good_Str (OwnL.ex good_Str h36 hE48) hO51 (by omega)) hE68) hE77) hO80 (by omega)) hE92) hE101) hO104 (by omega)
   refine sd rfl (yl_call Tryd.en18 rfl (opvs_cons rfl (opvs_cons rfl opvs_nil)) (Cal.mono (c_l_eqStmt ((i_ReadStmt p_0 p_1).1) ((s_ReadStmt p_0 p_1).1) (RdS.up (OwnL.rd good_Str q113) good_Str) (RdS.up (OwnL.rd good_Str q116) good_Str) (RdS.up (OwnL.rd good_Str q125) good_Str) (RdS.up (OwnL.rd good_Str q134) good_Str)) ?_))
   rintro v136 w135 ⟨rfl, hE137⟩
   have hE137z := Ex.size hE137
   refine sd rfl (yl_not rfl rfl (sd rfl (yl_move rfl rfl (bcase (l_eqStmt ((i_ReadStmt p_0 p_1).1) ((s_ReadStmt p_0 p_1).1)) (fun hb138 => ?_) (fun hb138 => ?_)))))
   ·refine sy rfl rfl (not_t hb138) (yl_move rfl rfl (sy rfl rfl (not_t hb138) (yl_move rfl rfl (sy rfl rfl (not_t hb138) (yl_bneq Tryd.un4 rfl rfl rfl (sd rfl (yl_pick_f rfl rfl (not_t hb138) rfl (SeqR.done (tn (bcase (((i_ReadStmt p_0 p_1).2) == ((s_ReadStmt p_0 p_1).2)) (fun hb139 => ?_) (fun hb139 => ?_)))))))))))
    ·refine CW.cond_f rfl (not_t hb139) (CW.skip (tn (CW.seq (CW.seq ?_))))
     have q143 := Box.ex (Box.only (Box.ex (Box.ex hB79 hE92) hE101) hO104 (by omega)) hE137
     have q150 := Box.ex (Box.only (Box.ex (Box.ex (Box.only (Box.ex (Box.ex q55 hE68) hE77) hO80 (by omega)) hE92) hE101) hO104 (by omega)) hE137
     have q157 := RdS.ex good_Str (RdS.only good_Str (RdS.ex good_Str (RdS.ex good_Str (RdS.only good_Str (RdS.ex good_Str (RdS.ex good_Str q59 hE68) hE77) hO80 (by simp only [Iv]; omega)) hE92) hE101) hO104 (by simp only [Iv]; omega)) hE137
     have q164 := RdS.ex good_Idx (RdS.only good_Idx (RdS.ex good_Idx (RdS.ex good_Idx (RdS.only good_Idx (RdS.ex good_Idx (RdS.ex good_Idx q63 hE68) hE77) hO80 (by simp only [Iv]; omega)) hE92) hE101) hO104 (by simp only [Iv]; omega)) hE137
     have q172 := OwnL.ex good_Str (OwnL.only good_Str (OwnL.ex good_Str (OwnL.ex good_Str q83 hE92) hE101) hO104 (by omega)) hE137
     have q177 := OwnL.ex good_Idx (OwnL.only good_Idx (OwnL.ex good_Idx (OwnL.ex good_Idx q86 hE92) hE101) hO104 (by omega)) hE137
     refine CW.drawsI 5 (vgetI [DetI (.agg #[.string (bs (p_0.Name)), .slice A65 p_0.Cols.length c65, .slice A66 p_0.Idxs.length c66]), DetI (.agg #[.string (bs (p_0.Name)), .slice A1 p_0.Cols.length c1, .slice A2 p_0.Idxs.length c2]), fun lo hi v wq => ∃ A166 c166 lo166 hi166 A167 c167 lo167 hi167, v = .agg #[.string (bs (p_0.Name)), .slice A166 p_0.Cols.length c166, .slice A167 p_0.Idxs.length c167] ∧ OwnL wq lo166 hi166 9 1 (RF e_Str) A166 p_0.Cols.length c166 p_0.Cols ∧ OwnL wq lo167 hi167 74 3 (RF e_Idx) A167 p_0.Idxs.length c167 p_0.Idxs ∧ (lo ≤ lo166 ∧ lo166 ≤ hi166 ∧ hi166 ≤ hi) ∧ (lo ≤ lo167 ∧ lo167 ≤ hi167 ∧ hi167 ≤ hi) ∧ (hi166 ≤ lo167 ∨ hi167 ≤ lo166), DetI (.bool ((l_eqTable p_0 p_0))), DetI (.bool (!(l_eqTable p_0 p_0)))]) Tryd.follows rfl rfl rfl rfl rfl rfl (vgetI_stable ⟨StableI.det _, StableI.det _, (fun _ _ _ _ _ ⟨A166, c166, lo166, hi166, A167, c167, lo167, hi167, hv, h166, h167, hr0, hr1, hr2⟩ e => ⟨A166, c166, lo166, hi166, A167, c167, lo167, hi167, hv, OwnL.ex good_Str h166 e, OwnL.ex good_Idx h167 e, hr0, hr1, hr2⟩), StableI.det _, StableI.det _, trivial⟩) ⟨?_, ?_, ?_, ?_, ?_, trivial⟩ ?_
     ·exact fun _ _ h => os rfl ((yl_loadN (cs := [.string (bs (p_0.Name)), .slice A65 p_0.Cols.length c65, .slice A66 p_0.Idxs.length c66]) Tryd.ty36 rfl (h.old 8 _ rfl rfl) ((Box.ex q143 h.ex).cells (n := 3) rfl) rfl kI))
     ·exact fun _ _ h => os rfl ((yl_loadN (cs := [.string (bs (p_0.Name)), .slice A1 p_0.Cols.length c1, .slice A2 p_0.Idxs.length c2]) Tryd.ty25 rfl (h.old 2 _ rfl rfl) ((Box.ex q150 h.ex).cells (n := 3) rfl) rfl kI))
     ·intro L191 w192 hi193
      have hE194 := hi193.ex
      refine OpR.op' rfl (yl_call Tryd.en8 rfl (opvs_cons (hi193.dt 1 49 rfl rfl rfl) opvs_nil) (Cal.mono (c_l_toTable p_0 (RdS.up (RdS.ex good_Str q157 hE194) good_Str) (RdS.up (RdS.ex good_Idx q164 hE194) good_Idx) ((szok_Table pre0 (by decide) (dec_f hb17)).1)) ?_))
      rintro v201 w198 ⟨A199, c199, lo199, hi199, A200, c200, lo200, hi200, rfl, h199, h200, hrn203, hrn204, hrn205, hE202⟩
      exact ⟨⟨A199, c199, lo199, hi199, A200, c200, lo200, hi200, rfl, h199, h200, hrn203, hrn204, hrn205⟩, hE202⟩
     ·intro L206 w207 hi208
      have hE209 := hi208.ex
      obtain ⟨lo212, hh213, _, hx211, hr214, hr215, hr216, A166_217, c166_218, lo166_219, hi166_220, A167_221, c167_222, lo167_223, hi167_224, rfl, h225, h226, hrn227, hrn228, hrn229⟩ := hi208.dep 2 50 rfl rfl
      refine OpR.op' rfl (yl_call Tryd.en12 rfl (opvs_cons (hi208.dt 0 48 rfl rfl rfl) (opvs_cons hx211 opvs_nil)) (Cal.mono (c_l_eqTable p_0 p_0 (RdS.up (OwnL.rd good_Str (OwnL.ex good_Str q172 hE209)) good_Str) (RdS.up (OwnL.rd good_Idx (OwnL.ex good_Idx q177 hE209)) good_Idx) (RdS.up (OwnL.rd good_Str h225) good_Str) (RdS.up (OwnL.rd good_Idx h226) good_Idx)) ?_))
      rintro v237 w236 ⟨rfl, hE238⟩
      exact ⟨rfl, hE238⟩
     ·exact fun _ _ h => os rfl ((yl_not rfl (h.dt 3 51 rfl rfl rfl) kI))
     ·intro fl247 fh248 L244 w245 hp246
      have hE249 := hp246.ex
      have hE249z := Ex.size hE249
      have hr258 := hp246.rng 2 rfl
      obtain ⟨_, hx257, A166_259, c166_260, lo166_261, hi166_262, A167_263, c167_264, lo167_265, hi167_266, rfl, h267, h268, hrn269, hrn270, hrn271⟩ := hp246.new 2 50 rfl rfl
      refine SeqR.done (tn (CW.sub (Sub.cons (d := 1) (hp246.old 1 _ rfl rfl) (Sub.cons (d := 2) (hp246.old 2 _ rfl rfl) (Sub.cons (d := 6) (hp246.old 6 _ rfl rfl) (Sub.cons (d := 7) (hp246.old 7 _ rfl rfl) (Sub.cons (d := 8) (hp246.old 8 _ rfl rfl) (Sub.cons (d := 9) (hp246.old 9 _ rfl rfl) (Sub.cons (d := 10) (hp246.old 10 _ rfl rfl) (Sub.cons (d := 52) (hp246.nt 4 52 rfl rfl rfl) (Sub.nil _))))))))) (bcase (l_eqTable p_0 p_0) (fun hb273 => ?_) (fun hb273 => ?_))))
      ·refine CW.cond_f rfl (not_t hb273) (CW.skip (tn (CW.seq (CW.region (sd rfl (yl_assign rfl rfl (SeqR.done (tn (CW.seq ?_)))))))))
       refine CW.region (sd rfl (yl_loadN (cs := [.string (bs (p_0.Name)), .slice A65 p_0.Cols.length c65, .slice A66 p_0.Idxs.length c66]) Tryd.ty36 rfl rfl ((Box.ex q143 hE249).cells (n := 3) rfl) rfl (sd rfl (yl_move rfl rfl (sd rfl (yl_call Tryd.en13 rfl (opvs_cons rfl (opvs_cons rfl opvs_nil)) (Cal.mono (c_l_markTable p_0 1 (OwnL.ex good_Str q172 hE249) (OwnL.ex good_Idx q177 hE249) (by omega) (by omega) (by omega) (by first | omega | assumption | (simp only [IntKind.wrap_i64] at *; omega))) ?_)))))))
       rintro v278 w277 ⟨rfl, h280, h281, hm279⟩
       have hm279z := Mut.size hm279
       have hrf282 := rf_markTable p_0 1 (by first | omega | assumption | (simp only [IntKind.wrap_i64] at *; omega))
       refine sd rfl (yl_assign rfl rfl (SeqR.done (tn (CW.seq (CW.seq (CW.region (sd rfl (yl_move rfl rfl (sd rfl (yl_lss rfl rfl rfl (sd rfl (yl_move rfl rfl ?_))))))))))))
       refine bcase (decide (((l_markTable p_0 1).1) < 0)) (fun hb283 => ?_) (fun hb283 => ?_)
       ·have hb283p := dec_t hb283
        refine sz rfl rfl hb283 (sz rfl rfl hb283 (sz rfl rfl hb283 (sz rfl rfl hb283 (sd rfl (yl_pick_t rfl rfl hb283 rfl (sd rfl (yl_move rfl rfl (sz rfl rfl rfl (sz rfl rfl rfl (sz rfl rfl rfl ?_))))))))))
        refine sd rfl (yl_pick_t rfl rfl rfl rfl (SeqR.done (tn (CW.cond_t rfl rfl (CW.seq (CW.region (sd rfl (yl_assign rfl rfl (SeqR.done (tn ?_))))))))))
        refine CW.ret (tr (rr rfl (.cons rfl .nil) ?_))
        have hM284 : (l_FnExactReadStmt p_0 p_1) = (false) := by simp only [l_FnExactReadStmt, hb9, hb17, hb138, hb139, hb273, hb283, cond_true, cond_false, loopE_done, loopE_ret]
        rw [hM284]
        exact ⟨rfl, (Ex.mut (Ex.trans (Ex.trans (Below.only (Ex.trans (Ex.trans (Below.only (Ex.trans (Ex.trans (Below.only (Ex.trans (Ex.trans (Ex.trans (Ex.trans (Ex.trans (Ex.refl w) hE8) hE16) hE28) hE39) hE48) hO51 (by omega)) hE68) hE77) hO80 (by omega)) hE92) hE101) hO104 (by omega)) hE137) hE249) hm279 (fun k hk => by simp only [InR, or_false] at hk; omega))⟩
       ·have hb283p := dec_f hb283
        have q302 := Box.mut (Box.ex (Box.ex hB103 hE137) hE249) hm279 (fun k hk => by simp only [InR, or_false] at hk; omega)
        refine sy rfl rfl hb283 (yl_loadN (cs := [.int .i64 ((i_ReadStmt p_0 p_1).1.Kind), .int .i64 ((i_ReadStmt p_0 p_1).1.Act.Kind), .slice A88 (((i_ReadStmt p_0 p_1).1.Act.Old.Vals).length) c88, .slice A89 (((i_ReadStmt p_0 p_1).1.Act.New.Vals).length) c89, .string (bs ((i_ReadStmt p_0 p_1).1.Idx)), .string (bs ((i_ReadStmt p_0 p_1).1.Low)), .string (bs ((i_ReadStmt p_0 p_1).1.High))]) Tryd.ty48 rfl rfl (q302.cells (n := 7) rfl) rfl ?_)
        have q305 := Box.mut (Box.ex (Box.ex q110 hE137) hE249) hm279 (fun k hk => by simp only [InR, or_false] at hk; omega)
        refine sy rfl rfl hb283 (yl_loadN (cs := [.int .i64 ((s_ReadStmt p_0 p_1).1.Kind), .int .i64 ((s_ReadStmt p_0 p_1).1.Act.Kind), .slice A35 (((s_ReadStmt p_0 p_1).1.Act.Old.Vals).length) c35, .slice A36 (((s_ReadStmt p_0 p_1).1.Act.New.Vals).length) c36, .string (bs ((s_ReadStmt p_0 p_1).1.Idx)), .string (bs ((s_ReadStmt p_0 p_1).1.Low)), .string (bs ((s_ReadStmt p_0 p_1).1.High))]) Tryd.ty48 rfl rfl (q305.cells (n := 7) rfl) rfl ?_)
        have q309 := OwnL.mut good_Str (OwnL.ex good_Str (OwnL.ex good_Str q113 hE137) hE249) hm279 (fun k hk => by simp only [InR, or_false] at hk; omega)
        have q313 := OwnL.mut good_Str (OwnL.ex good_Str (OwnL.ex good_Str q116 hE137) hE249) hm279 (fun k hk => by simp only [InR, or_false] at hk; omega)
        have q317 := OwnL.mut good_Str (OwnL.ex good_Str (OwnL.ex good_Str q125 hE137) hE249) hm279 (fun k hk => by simp only [InR, or_false] at hk; omega)
        have q321 := OwnL.mut good_Str (OwnL.ex good_Str (OwnL.ex good_Str q134 hE137) hE249) hm279 (fun k hk => by simp only [InR, or_false] at hk; omega)
        refine sy rfl rfl hb283 (yl_call Tryd.en18 rfl (opvs_cons rfl (opvs_cons rfl opvs_nil)) (Cal.mono (c_l_eqStmt ((i_ReadStmt p_0 p_1).1) ((s_ReadStmt p_0 p_1).1) (RdS.up (OwnL.rd good_Str q309) good_Str) (RdS.up (OwnL.rd good_Str q313) good_Str) (RdS.up (OwnL.rd good_Str q317) good_Str) (RdS.up (OwnL.rd good_Str q321) good_Str)) ?_))
        rintro v323 w322 ⟨rfl, hE324⟩
        have hE324z := Ex.size hE324
        refine sy rfl rfl hb283 (yl_not rfl rfl (sd rfl (yl_pick_f rfl rfl hb283 rfl (sd rfl (yl_move rfl rfl (sy rfl rfl (not_t hb138) (yl_move rfl rfl (sy rfl rfl (not_t hb138) (yl_move rfl rfl (sy rfl rfl (not_t hb138) (yl_bneq Tryd.un4 rfl rfl rfl (sd rfl (yl_pick_f rfl rfl (not_t hb138) rfl (SeqR.done (tn ?_)))))))))))))))
        refine CW.cond_f rfl (not_t hb139) (CW.skip (tn (CW.seq (CW.region (sd rfl (yl_assign rfl rfl (SeqR.done (tn (CW.seq ?_)))))))))
        refine CW.region ?_
        have q325 := Box.ex q302 hE324
        refine sd rfl (yl_loadN (cs := [.int .i64 ((i_ReadStmt p_0 p_1).1.Kind), .int .i64 ((i_ReadStmt p_0 p_1).1.Act.Kind), .slice A88 (((i_ReadStmt p_0 p_1).1.Act.Old.Vals).length) c88, .slice A89 (((i_ReadStmt p_0 p_1).1.Act.New.Vals).length) c89, .string (bs ((i_ReadStmt p_0 p_1).1.Idx)), .string (bs ((i_ReadStmt p_0 p_1).1.Low)), .string (bs ((i_ReadStmt p_0 p_1).1.High))]) Tryd.ty48 rfl rfl (q325.cells (n := 7) rfl) rfl (sd rfl (yl_move rfl rfl (sd rfl (yl_call Tryd.en19 rfl (opvs_cons rfl (opvs_cons rfl opvs_nil)) (Cal.mono (c_l_markStmt ((i_ReadStmt p_0 p_1).1) 1 (OwnL.ex good_Str q309 hE324) (OwnL.ex good_Str q313 hE324) (by omega) (by omega) (by omega) (by first | omega | assumption | (simp only [IntKind.wrap_i64] at *; omega))) ?_))))))
        rintro v329 w328 ⟨rfl, h331, h332, hm330⟩
        have hm330z := Mut.size hm330
        have hrf333 := rf_markStmt ((i_ReadStmt p_0 p_1).1) 1 (by first | omega | assumption | (simp only [IntKind.wrap_i64] at *; omega))
        refine sd rfl (yl_assign rfl rfl (SeqR.done (tn (CW.seq (CW.region (sd rfl (yl_assign rfl rfl (SeqR.done (tn (CW.seq ?_))))))))))
        refine CW.region ?_
        have q334 := Box.mut q325 hm330 (fun k hk => by simp only [InR, or_false] at hk; omega)
        refine sd rfl (yl_loadN (cs := [.int .i64 ((i_ReadStmt p_0 p_1).1.Kind), .int .i64 ((i_ReadStmt p_0 p_1).1.Act.Kind), .slice A88 (((i_ReadStmt p_0 p_1).1.Act.Old.Vals).length) c88, .slice A89 (((i_ReadStmt p_0 p_1).1.Act.New.Vals).length) c89, .string (bs ((i_ReadStmt p_0 p_1).1.Idx)), .string (bs ((i_ReadStmt p_0 p_1).1.Low)), .string (bs ((i_ReadStmt p_0 p_1).1.High))]) Tryd.ty48 rfl rfl (q334.cells (n := 7) rfl) rfl (sd rfl (yl_move rfl rfl ?_)))
        have hle335 := OwnL.len h331
        have hle337 := OwnL.len h332
        refine sd rfl (yl_call Tryd.en20 rfl (opvs_cons rfl (opvs_cons rfl opvs_nil)) (Cal.mono (Cal.args (by rw [← hle335, ← hle337] <;> rfl) (c_l_heldStmt (⟨(i_ReadStmt p_0 p_1).1.Kind, (⟨(i_ReadStmt p_0 p_1).1.Act.Kind, (l_markStmt ((i_ReadStmt p_0 p_1).1) 1).2.Act.Old, (l_markStmt ((i_ReadStmt p_0 p_1).1) 1).2.Act.New⟩ : DRowAct), (i_ReadStmt p_0 p_1).1.Idx, (i_ReadStmt p_0 p_1).1.Low, (i_ReadStmt p_0 p_1).1.High⟩ : DStmt) 1 (RdS.fix (RdS.up (OwnL.rd good_Str h331) good_Str)) (RdS.fix (RdS.up (OwnL.rd good_Str h332) good_Str)) (by first | omega | assumption | (simp only [IntKind.wrap_i64] at *; omega)))) ?_))
        rintro v340 w339 ⟨rfl, hE341⟩
        have hE341z := Ex.size hE341
        have hrf342 := rf_heldStmt (⟨(i_ReadStmt p_0 p_1).1.Kind, (⟨(i_ReadStmt p_0 p_1).1.Act.Kind, (l_markStmt ((i_ReadStmt p_0 p_1).1) 1).2.Act.Old, (l_markStmt ((i_ReadStmt p_0 p_1).1) 1).2.Act.New⟩ : DRowAct), (i_ReadStmt p_0 p_1).1.Idx, (i_ReadStmt p_0 p_1).1.Low, (i_ReadStmt p_0 p_1).1.High⟩ : DStmt) 1 (by first | omega | assumption | (simp only [IntKind.wrap_i64] at *; omega))
        refine sd rfl (yl_assign rfl rfl (SeqR.done (tn (CW.seq (CW.seq (CW.region (sd rfl (yl_move rfl rfl (sd rfl (yl_lss rfl rfl rfl (SeqR.done ?_)))))))))))
        refine tn (bcase (decide ((l_heldStmt (⟨(i_ReadStmt p_0 p_1).1.Kind, (⟨(i_ReadStmt p_0 p_1).1.Act.Kind, (l_markStmt ((i_ReadStmt p_0 p_1).1) 1).2.Act.Old, (l_markStmt ((i_ReadStmt p_0 p_1).1) 1).2.Act.New⟩ : DRowAct), (i_ReadStmt p_0 p_1).1.Idx, (i_ReadStmt p_0 p_1).1.Low, (i_ReadStmt p_0 p_1).1.High⟩ : DStmt) 1) < 0)) (fun hb343 => ?_) (fun hb343 => ?_))
        ·have hb343p := dec_t hb343
         refine CW.cond_t rfl hb343 (CW.seq (CW.region (sd rfl (yl_assign rfl rfl (SeqR.done (tn (CW.ret (tr (rr rfl (.cons rfl .nil) ?_)))))))))
         have hM344 : (l_FnExactReadStmt p_0 p_1) = (false) := by simp only [l_FnExactReadStmt, hb9, hb17, hb138, hb139, hb273, hb283, hb343, cond_true, cond_false, loopE_done, loopE_ret]
         rw [hM344]
         have q361 := Ex.mut (Ex.trans (Ex.mut (Ex.trans (Ex.trans (Below.only (Ex.trans (Ex.trans (Below.only (Ex.trans (Ex.trans (Below.only (Ex.trans (Ex.trans (Ex.trans (Ex.trans (Ex.trans (Ex.refl w) hE8) hE16) hE28) hE39) hE48) hO51 (by omega)) hE68) hE77) hO80 (by omega)) hE92) hE101) hO104 (by omega)) hE137) hE249) hm279 (fun k hk => by simp only [InR, or_false] at hk; omega)) hE324) hm330 (fun k hk => by simp only [InR, or_false] at hk; omega)
         exact ⟨rfl, (Ex.trans q361 hE341)⟩
        ·have hb343p := dec_f hb343
         refine CW.cond_f rfl hb343 (CW.skip (tn (CW.seq (CW.seq (CW.region (sd rfl (yl_move rfl rfl (sd rfl (yl_move rfl rfl (sd rfl (yl_neq rfl rfl rfl ?_)))))))))))
         refine SeqR.done (tn (bcase (decide ((l_heldStmt (⟨(i_ReadStmt p_0 p_1).1.Kind, (⟨(i_ReadStmt p_0 p_1).1.Act.Kind, (l_markStmt ((i_ReadStmt p_0 p_1).1) 1).2.Act.Old, (l_markStmt ((i_ReadStmt p_0 p_1).1) 1).2.Act.New⟩ : DRowAct), (i_ReadStmt p_0 p_1).1.Idx, (i_ReadStmt p_0 p_1).1.Low, (i_ReadStmt p_0 p_1).1.High⟩ : DStmt) 1) = ((l_markStmt ((i_ReadStmt p_0 p_1).1) 1).1))) (fun hb363 => ?_) (fun hb363 => ?_)))
         ·have hb363p := dec_t hb363
          refine CW.cond_f rfl (not_t hb363) (CW.skip (tn (CW.seq (CW.region (sd rfl (yl_loadN (cs := [.string (bs (p_0.Name)), .slice A1 p_0.Cols.length c1, .slice A2 p_0.Idxs.length c2]) Tryd.ty25 rfl rfl ((Box.ex (Box.mut (Box.ex (Box.mut (Box.ex q150 hE249) hm279 (fun k hk => by simp only [InR, or_false] at hk; omega)) hE324) hm330 (fun k hk => by simp only [InR, or_false] at hk; omega)) hE341).cells (n := 3) rfl) rfl (sd rfl (yl_call Tryd.en8 rfl (opvs_cons rfl opvs_nil) (Cal.mono (c_l_toTable p_0 (RdS.up (RdS.ex good_Str (RdS.mut good_Str (RdS.ex good_Str (RdS.mut good_Str (RdS.ex good_Str q157 hE249) hm279 (fun k hk => by simp only [InR, or_false, Iv, Ge] at hk ⊢; omega)) hE324) hm330 (fun k hk => by simp only [InR, or_false, Iv, Ge] at hk ⊢; omega)) hE341) good_Str) (RdS.up (RdS.ex good_Idx (RdS.mut good_Idx (RdS.ex good_Idx (RdS.mut good_Idx (RdS.ex good_Idx q164 hE249) hm279 (fun k hk => by simp only [InR, or_false, Iv, Ge] at hk ⊢; omega)) hE324) hm330 (fun k hk => by simp only [InR, or_false, Iv, Ge] at hk ⊢; omega)) hE341) good_Idx) ((szok_Table pre0 (by decide) (dec_f hb17)).1)) ?_)))))))))
          rintro v382 w379 ⟨A380, c380, lo380, hi380, A381, c381, lo381, hi381, rfl, h380, h381, hrn384, hrn385, hrn386, hE383⟩
          have hE383z := Ex.size hE383
          refine sd rfl (yl_move rfl rfl (sd rfl (yl_call Tryd.en17 rfl (opvs_cons rfl (opvs_cons rfl opvs_nil)) (Cal.mono (c_i_ReadStmt p_0 p_1 (RdS.up (OwnL.rd good_Str h380) good_Str) (RdS.up (OwnL.rd good_Idx h381) good_Idx) ((szok_Table pre0 (by decide) (dec_f hb17)).1) (by unfold okS; omega)) ?_))))
          rintro v393 w389 ⟨A390, c390, lo390, hi390, A391, c391, lo391, hi391, rfl, h390, h391, ho392, hrn395, hrn396, hrn397, hE394⟩
          have hE394z := Ex.size hE394
          refine sd rfl (yl_move rfl rfl (sd rfl (yl_extract rfl rfl rfl (sd rfl (yl_extract rfl rfl rfl (sd rfl (yl_alloc Tryd.ty48 (cs := [.int .i64 (0), .int .i64 (0), .slice none 0 0, .slice none 0 0, .string (bs (([] : Str))), .string (bs (([] : Str))), .string (bs (([] : Str)))]) rfl rfl ?_)))))))
          intro b398 w399 hs400 hz401 hB402 hE403
          refine SeqR.u rfl rfl (yl_store (vs := [.int .i64 ((i_ReadStmt p_0 p_1).1.Kind), .int .i64 ((i_ReadStmt p_0 p_1).1.Act.Kind), .slice A390 (((i_ReadStmt p_0 p_1).1.Act.Old.Vals).length) c390, .slice A391 (((i_ReadStmt p_0 p_1).1.Act.New.Vals).length) c391, .string (bs ((i_ReadStmt p_0 p_1).1.Idx)), .string (bs ((i_ReadStmt p_0 p_1).1.Low)), .string (bs ((i_ReadStmt p_0 p_1).1.High))]) Tryd.ty48 rfl rfl rfl rfl rfl rfl hB402 (Nat.le_of_ble_eq_true rfl) ?_)
          intro w404 hB405 hO406
          have hB405 : Box w404 b398 48 [.int .i64 ((i_ReadStmt p_0 p_1).1.Kind), .int .i64 ((i_ReadStmt p_0 p_1).1.Act.Kind), .slice A390 (((i_ReadStmt p_0 p_1).1.Act.Old.Vals).length) c390, .slice A391 (((i_ReadStmt p_0 p_1).1.Act.New.Vals).length) c391, .string (bs ((i_ReadStmt p_0 p_1).1.Idx)), .string (bs ((i_ReadStmt p_0 p_1).1.Low)), .string (bs ((i_ReadStmt p_0 p_1).1.High))] := hB405
          have hO406z := hO406.size
          refine sd rfl (yl_assign rfl rfl (SeqR.done (tn (CW.seq (CW.seq (CW.region (sd rfl (yl_loadN (cs := [.int .i64 ((i_ReadStmt p_0 p_1).1.Kind), .int .i64 ((i_ReadStmt p_0 p_1).1.Act.Kind), .slice A390 (((i_ReadStmt p_0 p_1).1.Act.Old.Vals).length) c390, .slice A391 (((i_ReadStmt p_0 p_1).1.Act.New.Vals).length) c391, .string (bs ((i_ReadStmt p_0 p_1).1.Idx)), .string (bs ((i_ReadStmt p_0 p_1).1.Low)), .string (bs ((i_ReadStmt p_0 p_1).1.High))]) Tryd.ty48 rfl rfl (hB405.cells (n := 7) rfl) rfl (sd rfl (yl_loadN (cs := [.int .i64 ((s_ReadStmt p_0 p_1).1.Kind), .int .i64 ((s_ReadStmt p_0 p_1).1.Act.Kind), .slice A35 (((s_ReadStmt p_0 p_1).1.Act.Old.Vals).length) c35, .slice A36 (((s_ReadStmt p_0 p_1).1.Act.New.Vals).length) c36, .string (bs ((s_ReadStmt p_0 p_1).1.Idx)), .string (bs ((s_ReadStmt p_0 p_1).1.Low)), .string (bs ((s_ReadStmt p_0 p_1).1.High))]) Tryd.ty48 rfl rfl ((Box.only (Box.ex (Box.ex (Box.ex (Box.ex (Box.mut (Box.ex q305 hE324) hm330 (fun k hk => by simp only [InR, or_false] at hk; omega)) hE341) hE383) hE394) hE403) hO406 (by omega)).cells (n := 7) rfl) rfl (sd rfl (yl_call Tryd.en18 rfl (opvs_cons rfl (opvs_cons rfl opvs_nil)) (Cal.mono (c_l_eqStmt ((i_ReadStmt p_0 p_1).1) ((s_ReadStmt p_0 p_1).1) (RdS.up (OwnL.rd good_Str (OwnL.only good_Str (OwnL.ex good_Str h390 hE403) hO406 (by omega))) good_Str) (RdS.up (OwnL.rd good_Str (OwnL.only good_Str (OwnL.ex good_Str h391 hE403) hO406 (by omega))) good_Str) (RdS.up (OwnL.rd good_Str (OwnL.only good_Str (OwnL.ex good_Str (OwnL.ex good_Str (OwnL.ex good_Str (OwnL.ex good_Str (OwnL.mut good_Str (OwnL.ex good_Str q317 hE324) hm330 (fun k hk => by simp only [InR, or_false] at hk; omega)) hE341) hE383) hE394) hE403) hO406 (by omega))) good_Str) (RdS.up (OwnL.rd good_Str (OwnL.only good_Str (OwnL.ex good_Str (OwnL.ex good_Str (OwnL.ex good_Str (OwnL.ex good_Str (OwnL.mut good_Str (OwnL.ex good_Str q321 hE324) hm330 (fun k hk => by simp only [InR, or_false] at hk; omega)) hE341) hE383) hE394) hE403) hO406 (by omega))) good_Str)) ?_)))))))))))))
          rintro v437 w436 ⟨rfl, hE438⟩
          have hE438z := Ex.size hE438
          refine sd rfl (yl_not rfl rfl (sd rfl (yl_move rfl rfl (sy rfl rfl (not_t hb138) (yl_move rfl rfl (sy rfl rfl (not_t hb138) (yl_move rfl rfl (sy rfl rfl (not_t hb138) (yl_bneq Tryd.un4 rfl rfl rfl (sd rfl (yl_pick_f rfl rfl (not_t hb138) rfl (SeqR.done (tn (CW.cond_f rfl (not_t hb139) ?_))))))))))))))
          refine CW.skip (tn (CW.seq (CW.region (sd rfl (yl_assign rfl rfl (SeqR.done (tn (CW.seq (CW.region ?_)))))))))
          refine sd rfl (yl_loadN (cs := [.int .i64 ((i_ReadStmt p_0 p_1).1.Kind), .int .i64 ((i_ReadStmt p_0 p_1).1.Act.Kind), .slice A88 (((i_ReadStmt p_0 p_1).1.Act.Old.Vals).length) c88, .slice A89 (((i_ReadStmt p_0 p_1).1.Act.New.Vals).length) c89, .string (bs ((i_ReadStmt p_0 p_1).1.Idx)), .string (bs ((i_ReadStmt p_0 p_1).1.Low)), .string (bs ((i_ReadStmt p_0 p_1).1.High))]) Tryd.ty48 rfl rfl ((Box.ex (Box.only (Box.ex (Box.ex (Box.ex (Box.ex q334 hE341) hE383) hE394) hE403) hO406 (by omega)) hE438).cells (n := 7) rfl) rfl (sd rfl (yl_move rfl rfl ?_)))
          have q451 := OwnL.ex good_Str (OwnL.only good_Str (OwnL.ex good_Str (OwnL.ex good_Str (OwnL.ex good_Str (OwnL.ex good_Str h331 hE341) hE383) hE394) hE403) hO406 (by omega)) hE438
          have hle445 := OwnL.len q451
          have q459 := OwnL.ex good_Str (OwnL.only good_Str (OwnL.ex good_Str (OwnL.ex good_Str (OwnL.ex good_Str (OwnL.ex good_Str h332 hE341) hE383) hE394) hE403) hO406 (by omega)) hE438
          have hle453 := OwnL.len q459
          refine sd rfl (yl_call Tryd.en20 rfl (opvs_cons rfl (opvs_cons rfl opvs_nil)) (Cal.mono (Cal.args (by rw [← hle445, ← hle453] <;> rfl) (c_l_heldStmt (⟨(i_ReadStmt p_0 p_1).1.Kind, (⟨(i_ReadStmt p_0 p_1).1.Act.Kind, (l_markStmt ((i_ReadStmt p_0 p_1).1) 1).2.Act.Old, (l_markStmt ((i_ReadStmt p_0 p_1).1) 1).2.Act.New⟩ : DRowAct), (i_ReadStmt p_0 p_1).1.Idx, (i_ReadStmt p_0 p_1).1.Low, (i_ReadStmt p_0 p_1).1.High⟩ : DStmt) 1 (RdS.fix (RdS.up (OwnL.rd good_Str q451) good_Str)) (RdS.fix (RdS.up (OwnL.rd good_Str q459) good_Str)) (by first | omega | assumption | (simp only [IntKind.wrap_i64] at *; omega)))) ?_))
          rintro v462 w461 ⟨rfl, hE463⟩
          have hE463z := Ex.size hE463
          have hrf464 := rf_heldStmt (⟨(i_ReadStmt p_0 p_1).1.Kind, (⟨(i_ReadStmt p_0 p_1).1.Act.Kind, (l_markStmt ((i_ReadStmt p_0 p_1).1) 1).2.Act.Old, (l_markStmt ((i_ReadStmt p_0 p_1).1) 1).2.Act.New⟩ : DRowAct), (i_ReadStmt p_0 p_1).1.Idx, (i_ReadStmt p_0 p_1).1.Low, (i_ReadStmt p_0 p_1).1.High⟩ : DStmt) 1 (by first | omega | assumption | (simp only [IntKind.wrap_i64] at *; omega))
          refine sd rfl (yl_assign rfl rfl (SeqR.done (tn (CW.seq (CW.seq (CW.region (sd rfl (yl_move rfl rfl (sd rfl (yl_lss rfl rfl rfl (SeqR.done ?_)))))))))))
          refine tn (CW.cond_f rfl hb343 (CW.skip (tn (CW.seq (CW.seq (CW.region (sd rfl (yl_move rfl rfl (sd rfl (yl_move rfl rfl ?_))))))))))
          refine sd rfl (yl_neq rfl rfl rfl (SeqR.done (tn (CW.cond_f rfl (not_t hb363) (CW.skip (tn (CW.seq (CW.region (sd rfl (yl_assign rfl rfl ?_))))))))))
          refine SeqR.done (tn (CW.ret (rr rfl (.cons rfl .nil) ?_)))
          have hM465 : (l_FnExactReadStmt p_0 p_1) = (true) := by simp only [l_FnExactReadStmt, hb9, hb17, hb138, hb139, hb273, hb283, hb343, hb363, cond_true, cond_false, loopE_done, loopE_ret]
          rw [hM465]
          have q482 := Ex.mut (Ex.trans (Ex.mut (Ex.trans (Ex.trans (Below.only (Ex.trans (Ex.trans (Below.only (Ex.trans (Ex.trans (Below.only (Ex.trans (Ex.trans (Ex.trans (Ex.trans (Ex.trans (Ex.refl w) hE8) hE16) hE28) hE39) hE48) hO51 (by omega)) hE68) hE77) hO80 (by omega)) hE92) hE101) hO104 (by omega)) hE137) hE249) hm279 (fun k hk => by simp only [InR, or_false] at hk; omega)) hE324) hm330 (fun k hk => by simp only [InR, or_false] at hk; omega)
          exact ⟨rfl, (Ex.trans (Ex.trans (Below.only (Ex.trans (Ex.trans (Ex.trans (Ex.trans q482 hE341) hE383) hE394) hE403) hO406 (by omega)) hE438) hE463)⟩
         ·have hb363p := dec_f hb363
          refine CW.cond_t rfl (not_f hb363) (CW.seq (CW.region (sd rfl (yl_assign rfl rfl (SeqR.done (tn (CW.ret (tr (rr rfl (.cons rfl .nil) ?_)))))))))
          have hM490 : (l_FnExactReadStmt p_0 p_1) = (false) := by simp only [l_FnExactReadStmt, hb9, hb17, hb138, hb139, hb273, hb283, hb343, hb363, cond_true, cond_false, loopE_done, loopE_ret]
          rw [hM490]
          have q507 := Ex.mut (Ex.trans (Ex.mut (Ex.trans (Ex.trans (Below.only (Ex.trans (Ex.trans (Below.only (Ex.trans (Ex.trans (Below.only (Ex.trans (Ex.trans (Ex.trans (Ex.trans (Ex.trans (Ex.refl w) hE8) hE16) hE28) hE39) hE48) hO51 (by omega)) hE68) hE77) hO80 (by omega)) hE92) hE101) hO104 (by omega)) hE137) hE249) hm279 (fun k hk => by simp only [InR, or_false] at hk; omega)) hE324) hm330 (fun k hk => by simp only [InR, or_false] at hk; omega)
          exact ⟨rfl, (Ex.trans q507 hE341)⟩
      ·refine CW.cond_t rfl (not_f hb273) (CW.seq (CW.region (sd rfl (yl_assign rfl rfl (SeqR.done (tn (CW.ret (tr (rr rfl (.cons rfl .nil) ?_)))))))))
       have hM509 : (l_FnExactReadStmt p_0 p_1) = (false) := by simp only [l_FnExactReadStmt, hb9, hb17, hb138, hb139, hb273, cond_true, cond_false, loopE_done, loopE_ret]
       rw [hM509]
       exact ⟨rfl, (Ex.trans (Ex.trans (Below.only (Ex.trans (Ex.trans (Below.only (Ex.trans (Ex.trans (Below.only (Ex.trans (Ex.trans (Ex.trans (Ex.trans (Ex.trans (Ex.refl w) hE8) hE16) hE28) hE39) hE48) hO51 (by omega)) hE68) hE77) hO80 (by omega)) hE92) hE101) hO104 (by omega)) hE137) hE249)⟩
    ·refine CW.cond_t rfl (not_f hb139) (CW.seq (CW.region (sd rfl (yl_assign rfl rfl (SeqR.done (tn (CW.ret (tr (rr rfl (.cons rfl .nil) ?_)))))))))
     have hM524 : (l_FnExactReadStmt p_0 p_1) = (false) := by simp only [l_FnExactReadStmt, hb9, hb17, hb138, hb139, cond_true, cond_false, loopE_done, loopE_ret]
     rw [hM524]
     exact ⟨rfl, (Ex.trans (Below.only (Ex.trans (Ex.trans (Below.only (Ex.trans (Ex.trans (Below.only (Ex.trans (Ex.trans (Ex.trans (Ex.trans (Ex.trans (Ex.refl w) hE8) hE16) hE28) hE39) hE48) hO51 (by omega)) hE68) hE77) hO80 (by omega)) hE92) hE101) hO104 (by omega)) hE137)⟩
   ·refine sz rfl rfl (not_f hb138) (sz rfl rfl (not_f hb138) (sz rfl rfl (not_f hb138) (sd rfl (yl_pick_t rfl rfl (not_f hb138) rfl (SeqR.done (tn (CW.cond_t rfl rfl (CW.seq (CW.region ?_)))))))))
    refine sd rfl (yl_assign rfl rfl (SeqR.done (tn (CW.ret (tr (rr rfl (.cons rfl .nil) ?_))))))
    have hM538 : (l_FnExactReadStmt p_0 p_1) = (false) := by simp only [l_FnExactReadStmt, hb9, hb17, hb138, cond_true, cond_false, loopE_done, loopE_ret]
    rw [hM538]
    exact ⟨rfl, (Ex.trans (Below.only (Ex.trans (Ex.trans (Below.only (Ex.trans (Ex.trans (Below.only (Ex.trans (Ex.trans (Ex.trans (Ex.trans (Ex.trans (Ex.refl w) hE8) hE16) hE28) hE39) hE48) hO51 (by omega)) hE68) hE77) hO80 (by omega)) hE92) hE101) hO104 (by omega)) hE137)⟩
end Go.Proofs.YtdbobbmagmcpnaaDoor
