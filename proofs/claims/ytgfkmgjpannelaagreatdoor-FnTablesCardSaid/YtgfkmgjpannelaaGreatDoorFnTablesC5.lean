/- Fn Tables: what each call returns, part 5. -/
import Derived.Test.YtgfkmgjpannelaaGreatDoorFnTablesC4
set_option maxRecDepth 100000
set_option maxHeartbeats 2000000
open Go.Proofs.Tryz Go.Proofs.YtgfkmgjpannelaaGreatDoor.Tryz
set_option linter.unusedVariables false
set_option linter.unusedSimpArgs false
namespace Go.Proofs.YtgfkmgjpannelaaGreatDoor
open Go.RowKit Go.X
theorem c_l_FnTables {A1 : Option Addr} {c1 : Nat} {A2 : Option Addr} {c2 : Nat} {w : World} (p_0 : List Int) (p_1 : List Int) (h1 : RdS w (Iv 0 w.heap.size) (RF e_U8) 1 A1 p_0.length c1 p_0) (h2 : RdS w (Iv 0 w.heap.size) (RF e_U8) 1 A2 p_1.length c2 p_1) (pre0 : codeOk p_0) (pre1 : codeOk p_1) (hgb : GB 1 2 w) : Cal Tryz.prog 3 #[.slice A1 p_0.length c1, .slice A2 p_1.length c2] w fun v w' => v = .bool ((l_FnTables p_0 p_1)) ∧ Ex w w' := by
 have hbg1 := RdS.big h1
 have hbg2 := RdS.big h2
 have hwr : IntKind.wrap .i64 ((p_0.length : Int) + (p_1.length : Int)) = (p_0.length : Int) + (p_1.length : Int) := wrap_in oM
 refine Cal.of func3 rfl ntmps3 rfl (cR (sA rfl (dn (CW.seq (cR ?_)))))
 refine sM rfl (sd rfl (yL un22 rfl rfl (sM rfl (sd rfl (yL un22 rfl rfl (sd rfl (yl_add rfl rfl rfl (sd rfl (yl_gtr rfl rfl rfl (dn (bcase (decide (1048576 < (IntKind.wrap .i64 ((p_0.length : Int) + (p_1.length : Int))))) (fun hb3 => ?_) (fun hb3 => ?_))))))))))))
 ·have hb3p := dec_t hb3
  refine CW.cond_t rfl hb3 (cR (sA rfl (dn (CW.ret (tr (rr rfl (.cons rfl .nil) ?_))))))
  have hM4 : (l_FnTables p_0 p_1) = (true) := by simp only [l_FnTables, hb3, cL]
  rw [hM4]
  exact ⟨rfl, (Ex.refl w)⟩
 ·have hb3p := dec_f hb3
  refine CW.cond_f rfl hb3 (CW.skip (tn (cR (sM rfl (sd rfl (yC en4 rfl (oc rfl oz) (Cal.mono (c_s_DrawWayTo p_0 (RdS.up h1 gU) (okL.mk (xs := p_0) (by first | omega | (simp only [lN]; omega)) fun _ _ => trivial) (by assumption)) ?_)))))))
  rintro v10 w5 ⟨A6, c6, A7, c7, lo7, hi7, rfl, h6, h7, ho8, ho9, hrn12, hE11⟩
  have hE11z := Ex.size hE11
  refine sM rfl (sd rfl (yl_extract rfl rfl rfl (sd rfl (yl_extract rfl rfl rfl (sd rfl (yl_extract rfl rfl rfl (sd rfl (yB ty26 (cs := [.string (bs (([] : Str))), .slice none 0 0, .slice none 0 0]) rfl rfl ?_))))))))
  intro b13 w14 hs15 hz16 hB17 hE18
  refine SeqR.u rfl rfl (yl_store (vs := [.string (bs ((s_DrawWayTo p_0).1.Name)), .slice A6 (((s_DrawWayTo p_0).1.Cols).length) c6, .slice A7 (((s_DrawWayTo p_0).1.Idxs).length) c7]) ty26 rfl rfl rfl rfl rfl rfl hB17 (nb rfl) ?_)
  intro w19 hB20 hO21
  have hB20 : Box w19 b13 26 [.string (bs ((s_DrawWayTo p_0).1.Name)), .slice A6 (((s_DrawWayTo p_0).1.Cols).length) c6, .slice A7 (((s_DrawWayTo p_0).1.Idxs).length) c7] := hB20
  have hO21z := hO21.size
  refine sA rfl (sA rfl (dn (cR (sd rfl (yl_loadN ty26 rfl rfl (hB20.cells (n := 3) rfl) rfl (sM rfl (sM rfl ?_)))))))
  have q23 := RdS.only gS (RdS.ex gS h6 hE18) hO21 (by simp only [Iv]; omega)
  have q26 := OwnL.only gI (OwnL.ex gI h7 hE18) hO21 oM
  refine sd rfl (yC en5 rfl (oc rfl (oc rfl (oc rfl oz))) (Cal.mono (c_i_WayTo ((s_DrawWayTo p_0).1) ((s_DrawWayTo p_0).2.1) ((s_DrawWayTo p_0).2.2) (RdS.up q23 gS) (RdS.up (OwnL.rd gI q26) gI) ho8 ho9) ?_))
  rintro v30 w27 ⟨A28, c28, lo28, hi28, rfl, h28, ho29, hrn32, hE31⟩
  have hE31z := Ex.size hE31
  refine sM rfl (sd rfl (yl_extract rfl rfl rfl (sd rfl (yl_extract rfl rfl rfl (sA rfl (sA rfl (dn (cR ?_))))))))
  have q33 := Box.ex hB20 hE31
  refine sd rfl (yl_loadN ty26 rfl rfl (q33.cells (n := 3) rfl) rfl (sM rfl (sM rfl ?_)))
  have q34 := RdS.ex gS q23 hE31
  have q36 := OwnL.ex gI q26 hE31
  refine sd rfl (yC en6 rfl (oc rfl (oc rfl (oc rfl oz))) (Cal.mono (c_s_WayTo ((s_DrawWayTo p_0).1) ((s_DrawWayTo p_0).2.1) ((s_DrawWayTo p_0).2.2) (RdS.up q34 gS) (RdS.up (OwnL.rd gI q36) gI) ho8 ho9) ?_))
  rintro v40 w37 ⟨A38, c38, lo38, hi38, rfl, h38, ho39, hrn42, hE41⟩
  have hE41z := Ex.size hE41
  refine sM rfl (sd rfl (yl_extract rfl rfl rfl (sd rfl (yl_extract rfl rfl rfl (sA rfl (sA rfl (dn (cR ?_))))))))
  have q43 := Box.ex q33 hE41
  refine sd rfl (yl_loadN ty26 rfl rfl (q43.cells (n := 3) rfl) rfl (sM rfl (sM rfl ?_)))
  have q44 := RdS.ex gS q34 hE41
  have q46 := OwnL.ex gI q36 hE41
  refine sd rfl (yC en7 rfl (oc rfl (oc rfl (oc rfl oz))) (Cal.mono (c_i_SetStage ((s_DrawWayTo p_0).1) ((s_DrawWayTo p_0).2.1) ((s_DrawWayTo p_0).2.2) (RdS.up q44 gS) (RdS.up (OwnL.rd gI q46) gI) ho8 ho9) ?_))
  rintro v51 w47 ⟨A48, c48, lo48, hi48, A49, c49, lo49, hi49, rfl, h48, h49, ho50, hrn53, hrn54, hrn55, hE52⟩
  have hE52z := Ex.size hE52
  refine sM rfl (sd rfl (yl_extract rfl rfl rfl (sd rfl (yl_extract rfl rfl rfl (sd rfl (yB ty26 (cs := [.string (bs (([] : Str))), .slice none 0 0, .slice none 0 0]) rfl rfl ?_))))))
  intro b56 w57 hs58 hz59 hB60 hE61
  refine SeqR.u rfl rfl (yl_store (vs := [.string (bs ((i_SetStage ((s_DrawWayTo p_0).1) ((s_DrawWayTo p_0).2.1) ((s_DrawWayTo p_0).2.2)).1.Name)), .slice A48 (((i_SetStage ((s_DrawWayTo p_0).1) ((s_DrawWayTo p_0).2.1) ((s_DrawWayTo p_0).2.2)).1.Cols).length) c48, .slice A49 (((i_SetStage ((s_DrawWayTo p_0).1) ((s_DrawWayTo p_0).2.1) ((s_DrawWayTo p_0).2.2)).1.Idxs).length) c49]) ty26 rfl rfl rfl rfl rfl rfl hB60 (nb rfl) ?_)
  intro w62 hB63 hO64
  have hB63 : Box w62 b56 26 [.string (bs ((i_SetStage ((s_DrawWayTo p_0).1) ((s_DrawWayTo p_0).2.1) ((s_DrawWayTo p_0).2.2)).1.Name)), .slice A48 (((i_SetStage ((s_DrawWayTo p_0).1) ((s_DrawWayTo p_0).2.1) ((s_DrawWayTo p_0).2.2)).1.Cols).length) c48, .slice A49 (((i_SetStage ((s_DrawWayTo p_0).1) ((s_DrawWayTo p_0).2.1) ((s_DrawWayTo p_0).2.2)).1.Idxs).length) c49] := hB63
  have hO64z := hO64.size
  refine sA rfl (dn (cR ?_))
  have q67 := Box.only (Box.ex (Box.ex q43 hE52) hE61) hO64 oM
  refine sd rfl (yl_loadN ty26 rfl rfl (q67.cells (n := 3) rfl) rfl (sM rfl (sM rfl ?_)))
  have q70 := RdS.only gS (RdS.ex gS (RdS.ex gS q44 hE52) hE61) hO64 (by simp only [Iv]; omega)
  have q74 := OwnL.only gI (OwnL.ex gI (OwnL.ex gI q46 hE52) hE61) hO64 oM
  refine sd rfl (yC en8 rfl (oc rfl (oc rfl (oc rfl oz))) (Cal.mono (c_s_SetStage ((s_DrawWayTo p_0).1) ((s_DrawWayTo p_0).2.1) ((s_DrawWayTo p_0).2.2) (RdS.up q70 gS) (RdS.up (OwnL.rd gI q74) gI) ho8 ho9) ?_))
  rintro v79 w75 ⟨A76, c76, lo76, hi76, A77, c77, lo77, hi77, rfl, h76, h77, ho78, hrn81, hrn82, hrn83, hE80⟩
  have hE80z := Ex.size hE80
  refine sM rfl (sd rfl (yl_extract rfl rfl rfl (sd rfl (yl_extract rfl rfl rfl (sd rfl (yB ty26 (cs := [.string (bs (([] : Str))), .slice none 0 0, .slice none 0 0]) rfl rfl ?_))))))
  intro b84 w85 hs86 hz87 hB88 hE89
  refine SeqR.u rfl rfl (yl_store (vs := [.string (bs ((s_SetStage ((s_DrawWayTo p_0).1) ((s_DrawWayTo p_0).2.1) ((s_DrawWayTo p_0).2.2)).1.Name)), .slice A76 (((s_SetStage ((s_DrawWayTo p_0).1) ((s_DrawWayTo p_0).2.1) ((s_DrawWayTo p_0).2.2)).1.Cols).length) c76, .slice A77 (((s_SetStage ((s_DrawWayTo p_0).1) ((s_DrawWayTo p_0).2.1) ((s_DrawWayTo p_0).2.2)).1.Idxs).length) c77]) ty26 rfl rfl rfl rfl rfl rfl hB88 (nb rfl) ?_)
  intro w90 hB91 hO92
  have hB91 : Box w90 b84 26 [.string (bs ((s_SetStage ((s_DrawWayTo p_0).1) ((s_DrawWayTo p_0).2.1) ((s_DrawWayTo p_0).2.2)).1.Name)), .slice A76 (((s_SetStage ((s_DrawWayTo p_0).1) ((s_DrawWayTo p_0).2.1) ((s_DrawWayTo p_0).2.2)).1.Cols).length) c76, .slice A77 (((s_SetStage ((s_DrawWayTo p_0).1) ((s_DrawWayTo p_0).2.1) ((s_DrawWayTo p_0).2.2)).1.Idxs).length) c77] := hB91
  have hO92z := hO92.size
  refine sA rfl (dn (cR ?_))
  have q95 := Box.only (Box.ex (Box.ex q67 hE80) hE89) hO92 oM
  refine sd rfl (yl_loadN ty26 rfl rfl (q95.cells (n := 3) rfl) rfl (sM rfl ?_))
  have q98 := RdS.only gS (RdS.ex gS (RdS.ex gS q70 hE80) hE89) hO92 (by simp only [Iv]; omega)
  have q102 := OwnL.only gI (OwnL.ex gI (OwnL.ex gI q74 hE80) hE89) hO92 oM
  refine sd rfl (yC en9 rfl (oc rfl (oc rfl oz)) (Cal.mono (c_i_IdxAt ((s_DrawWayTo p_0).1) ((s_DrawWayTo p_0).2.1) (RdS.up q98 gS) (RdS.up (OwnL.rd gI q102) gI) ho8 ho9) ?_))
  rintro v105 w103 ⟨rfl, ho104, hE106⟩
  have hE106z := Ex.size hE106
  refine sM rfl (sd rfl (yl_extract rfl rfl rfl (sd rfl (yl_extract rfl rfl rfl (sd rfl (yB ty35 (cs := [.string (bs (([] : Str))), .int .i64 (0), .int .i64 (0)]) rfl rfl ?_))))))
  intro b107 w108 hs109 hz110 hB111 hE112
  refine SeqR.u rfl rfl (yl_store (vs := [.string (bs ((i_IdxAt ((s_DrawWayTo p_0).1) ((s_DrawWayTo p_0).2.1)).1.Name)), .int .i64 ((i_IdxAt ((s_DrawWayTo p_0).1) ((s_DrawWayTo p_0).2.1)).1.Col), .int .i64 ((i_IdxAt ((s_DrawWayTo p_0).1) ((s_DrawWayTo p_0).2.1)).1.Stage)]) ty35 rfl rfl rfl rfl rfl rfl hB111 (nb rfl) ?_)
  intro w113 hB114 hO115
  have hB114 : Box w113 b107 35 [.string (bs ((i_IdxAt ((s_DrawWayTo p_0).1) ((s_DrawWayTo p_0).2.1)).1.Name)), .int .i64 ((i_IdxAt ((s_DrawWayTo p_0).1) ((s_DrawWayTo p_0).2.1)).1.Col), .int .i64 ((i_IdxAt ((s_DrawWayTo p_0).1) ((s_DrawWayTo p_0).2.1)).1.Stage)] := hB114
  have hO115z := hO115.size
  refine sA rfl (dn (cR ?_))
  have q118 := Box.only (Box.ex (Box.ex q95 hE106) hE112) hO115 oM
  refine sd rfl (yl_loadN ty26 rfl rfl (q118.cells (n := 3) rfl) rfl (sM rfl ?_))
  have q121 := RdS.only gS (RdS.ex gS (RdS.ex gS q98 hE106) hE112) hO115 (by simp only [Iv]; omega)
  have q125 := OwnL.only gI (OwnL.ex gI (OwnL.ex gI q102 hE106) hE112) hO115 oM
  refine sd rfl (yC en10 rfl (oc rfl (oc rfl oz)) (Cal.mono (c_s_IdxAt ((s_DrawWayTo p_0).1) ((s_DrawWayTo p_0).2.1) (RdS.up q121 gS) (RdS.up (OwnL.rd gI q125) gI) ho8 ho9) ?_))
  rintro v128 w126 ⟨rfl, ho127, hE129⟩
  have hE129z := Ex.size hE129
  refine sM rfl (sd rfl (yl_extract rfl rfl rfl (sd rfl (yl_extract rfl rfl rfl (sd rfl (yB ty35 (cs := [.string (bs (([] : Str))), .int .i64 (0), .int .i64 (0)]) rfl rfl ?_))))))
  intro b130 w131 hs132 hz133 hB134 hE135
  refine SeqR.u rfl rfl (yl_store (vs := [.string (bs ((s_IdxAt ((s_DrawWayTo p_0).1) ((s_DrawWayTo p_0).2.1)).1.Name)), .int .i64 ((s_IdxAt ((s_DrawWayTo p_0).1) ((s_DrawWayTo p_0).2.1)).1.Col), .int .i64 ((s_IdxAt ((s_DrawWayTo p_0).1) ((s_DrawWayTo p_0).2.1)).1.Stage)]) ty35 rfl rfl rfl rfl rfl rfl hB134 (nb rfl) ?_)
  intro w136 hB137 hO138
  have hB137 : Box w136 b130 35 [.string (bs ((s_IdxAt ((s_DrawWayTo p_0).1) ((s_DrawWayTo p_0).2.1)).1.Name)), .int .i64 ((s_IdxAt ((s_DrawWayTo p_0).1) ((s_DrawWayTo p_0).2.1)).1.Col), .int .i64 ((s_IdxAt ((s_DrawWayTo p_0).1) ((s_DrawWayTo p_0).2.1)).1.Stage)] := hB137
  have hO138z := hO138.size
  refine sA rfl (dn (CW.seq (CW.seq (bcase (((i_WayTo ((s_DrawWayTo p_0).1) ((s_DrawWayTo p_0).2.1) ((s_DrawWayTo p_0).2.2)).2) == ((s_WayTo ((s_DrawWayTo p_0).1) ((s_DrawWayTo p_0).2.1) ((s_DrawWayTo p_0).2.2)).2)) (fun hb139 => ?_) (fun hb139 => ?_)))))
  ·refine bcase (l_qSameTs ((i_WayTo ((s_DrawWayTo p_0).1) ((s_DrawWayTo p_0).2.1) ((s_DrawWayTo p_0).2.2)).1) ((s_WayTo ((s_DrawWayTo p_0).1) ((s_DrawWayTo p_0).2.1) ((s_DrawWayTo p_0).2.2)).1)) (fun hb168 => ?_) (fun hb168 => ?_)
   ·refine bcase (((i_SetStage ((s_DrawWayTo p_0).1) ((s_DrawWayTo p_0).2.1) ((s_DrawWayTo p_0).2.2)).2) == ((s_SetStage ((s_DrawWayTo p_0).1) ((s_DrawWayTo p_0).2.1) ((s_DrawWayTo p_0).2.2)).2)) (fun hb197 => ?_) (fun hb197 => ?_)
    ·refine bcase (l_qSameT ((i_SetStage ((s_DrawWayTo p_0).1) ((s_DrawWayTo p_0).2.1) ((s_DrawWayTo p_0).2.2)).1) ((s_SetStage ((s_DrawWayTo p_0).1) ((s_DrawWayTo p_0).2.1) ((s_DrawWayTo p_0).2.2)).1)) (fun hb284 => ?_) (fun hb284 => ?_)
     ·refine bcase (((i_IdxAt ((s_DrawWayTo p_0).1) ((s_DrawWayTo p_0).2.1)).2) == ((s_IdxAt ((s_DrawWayTo p_0).1) ((s_DrawWayTo p_0).2.1)).2)) (fun hb371 => ?_) (fun hb371 => ?_)
      ·refine bcase ((((i_IdxAt ((s_DrawWayTo p_0).1) ((s_DrawWayTo p_0).2.1)).1.Name) == ((s_IdxAt ((s_DrawWayTo p_0).1) ((s_DrawWayTo p_0).2.1)).1.Name)) && ((decide (((i_IdxAt ((s_DrawWayTo p_0).1) ((s_DrawWayTo p_0).2.1)).1.Col) = ((s_IdxAt ((s_DrawWayTo p_0).1) ((s_DrawWayTo p_0).2.1)).1.Col))) && (decide (((i_IdxAt ((s_DrawWayTo p_0).1) ((s_DrawWayTo p_0).2.1)).1.Stage) = ((s_IdxAt ((s_DrawWayTo p_0).1) ((s_DrawWayTo p_0).2.1)).1.Stage))))) (fun hb461 => ?_) (fun hb461 => ?_)
       ·have q475 := OwnD.only goodO_Table (OwnD.ex goodO_Table (OwnD.ex goodO_Table (OwnD.only goodO_Table (OwnD.ex goodO_Table (OwnD.ex goodO_Table (OwnD.only goodO_Table (OwnD.ex goodO_Table (OwnD.ex goodO_Table (OwnD.only goodO_Table (OwnD.ex goodO_Table (OwnD.ex goodO_Table (OwnD.ex goodO_Table h28 hE41) hE52) hE61) hO64 oM) hE80) hE89) hO92 oM) hE106) hE112) hO115 oM) hE129) hE135) hO138 oM
        have q498 := Box.only (Box.ex (Box.ex (Box.only (Box.ex (Box.ex (Box.only (Box.ex (Box.ex hB63 hE80) hE89) hO92 oM) hE106) hE112) hO115 oM) hE129) hE135) hO138 oM
        have q516 := OwnL.only gS (OwnL.ex gS (OwnL.ex gS (OwnL.only gS (OwnL.ex gS (OwnL.ex gS (OwnL.only gS (OwnL.ex gS (OwnL.ex gS (OwnL.only gS (OwnL.ex gS h48 hE61) hO64 oM) hE80) hE89) hO92 oM) hE106) hE112) hO115 oM) hE129) hE135) hO138 oM
        have q528 := OwnL.only gI (OwnL.ex gI (OwnL.ex gI (OwnL.only gI (OwnL.ex gI (OwnL.ex gI (OwnL.only gI (OwnL.ex gI (OwnL.ex gI (OwnL.only gI (OwnL.ex gI h49 hE61) hO64 oM) hE80) hE89) hO92 oM) hE106) hE112) hO115 oM) hE129) hE135) hO138 oM
        have q553 := Box.only (Box.ex (Box.ex q118 hE129) hE135) hO138 oM
        have q556 := RdS.only gS (RdS.ex gS (RdS.ex gS q121 hE129) hE135) hO138 (by simp only [Iv]; omega)
        have q560 := OwnL.only gI (OwnL.ex gI (OwnL.ex gI q125 hE129) hE135) hO138 oM
        refine drI 37 [.bool ((i_WayTo ((s_DrawWayTo p_0).1) ((s_DrawWayTo p_0).2.1) ((s_DrawWayTo p_0).2.2)).2), .bool ((s_WayTo ((s_DrawWayTo p_0).1) ((s_DrawWayTo p_0).2.1) ((s_DrawWayTo p_0).2.2)).2), .bool (!(((i_WayTo ((s_DrawWayTo p_0).1) ((s_DrawWayTo p_0).2.1) ((s_DrawWayTo p_0).2.2)).2) == ((s_WayTo ((s_DrawWayTo p_0).1) ((s_DrawWayTo p_0).2.1) ((s_DrawWayTo p_0).2.2)).2))), .bool (!(((i_WayTo ((s_DrawWayTo p_0).1) ((s_DrawWayTo p_0).2.1) ((s_DrawWayTo p_0).2.2)).2) == ((s_WayTo ((s_DrawWayTo p_0).1) ((s_DrawWayTo p_0).2.1) ((s_DrawWayTo p_0).2.2)).2))), .slice A28 (((i_WayTo ((s_DrawWayTo p_0).1) ((s_DrawWayTo p_0).2.1) ((s_DrawWayTo p_0).2.2)).1).length) c28, .slice A38 (((s_WayTo ((s_DrawWayTo p_0).1) ((s_DrawWayTo p_0).2.1) ((s_DrawWayTo p_0).2.2)).1).length) c38, .bool ((l_qSameTs ((i_WayTo ((s_DrawWayTo p_0).1) ((s_DrawWayTo p_0).2.1) ((s_DrawWayTo p_0).2.2)).1) ((s_WayTo ((s_DrawWayTo p_0).1) ((s_DrawWayTo p_0).2.1) ((s_DrawWayTo p_0).2.2)).1))), .bool (!(l_qSameTs ((i_WayTo ((s_DrawWayTo p_0).1) ((s_DrawWayTo p_0).2.1) ((s_DrawWayTo p_0).2.2)).1) ((s_WayTo ((s_DrawWayTo p_0).1) ((s_DrawWayTo p_0).2.1) ((s_DrawWayTo p_0).2.2)).1))), .bool (!(l_qSameTs ((i_WayTo ((s_DrawWayTo p_0).1) ((s_DrawWayTo p_0).2.1) ((s_DrawWayTo p_0).2.2)).1) ((s_WayTo ((s_DrawWayTo p_0).1) ((s_DrawWayTo p_0).2.1) ((s_DrawWayTo p_0).2.2)).1))), .bool (!(l_qSameTs ((i_WayTo ((s_DrawWayTo p_0).1) ((s_DrawWayTo p_0).2.1) ((s_DrawWayTo p_0).2.2)).1) ((s_WayTo ((s_DrawWayTo p_0).1) ((s_DrawWayTo p_0).2.1) ((s_DrawWayTo p_0).2.2)).1))), .bool ((i_SetStage ((s_DrawWayTo p_0).1) ((s_DrawWayTo p_0).2.1) ((s_DrawWayTo p_0).2.2)).2), .bool ((s_SetStage ((s_DrawWayTo p_0).1) ((s_DrawWayTo p_0).2.1) ((s_DrawWayTo p_0).2.2)).2), .bool (!(((i_SetStage ((s_DrawWayTo p_0).1) ((s_DrawWayTo p_0).2.1) ((s_DrawWayTo p_0).2.2)).2) == ((s_SetStage ((s_DrawWayTo p_0).1) ((s_DrawWayTo p_0).2.1) ((s_DrawWayTo p_0).2.2)).2))), .bool (!(((i_SetStage ((s_DrawWayTo p_0).1) ((s_DrawWayTo p_0).2.1) ((s_DrawWayTo p_0).2.2)).2) == ((s_SetStage ((s_DrawWayTo p_0).1) ((s_DrawWayTo p_0).2.1) ((s_DrawWayTo p_0).2.2)).2))), .bool (!(((i_SetStage ((s_DrawWayTo p_0).1) ((s_DrawWayTo p_0).2.1) ((s_DrawWayTo p_0).2.2)).2) == ((s_SetStage ((s_DrawWayTo p_0).1) ((s_DrawWayTo p_0).2.1) ((s_DrawWayTo p_0).2.2)).2))), .agg #[.string (bs ((i_SetStage ((s_DrawWayTo p_0).1) ((s_DrawWayTo p_0).2.1) ((s_DrawWayTo p_0).2.2)).1.Name)), .slice A48 (((i_SetStage ((s_DrawWayTo p_0).1) ((s_DrawWayTo p_0).2.1) ((s_DrawWayTo p_0).2.2)).1.Cols).length) c48, .slice A49 (((i_SetStage ((s_DrawWayTo p_0).1) ((s_DrawWayTo p_0).2.1) ((s_DrawWayTo p_0).2.2)).1.Idxs).length) c49], .agg #[.string (bs ((s_SetStage ((s_DrawWayTo p_0).1) ((s_DrawWayTo p_0).2.1) ((s_DrawWayTo p_0).2.2)).1.Name)), .slice A76 (((s_SetStage ((s_DrawWayTo p_0).1) ((s_DrawWayTo p_0).2.1) ((s_DrawWayTo p_0).2.2)).1.Cols).length) c76, .slice A77 (((s_SetStage ((s_DrawWayTo p_0).1) ((s_DrawWayTo p_0).2.1) ((s_DrawWayTo p_0).2.2)).1.Idxs).length) c77], .bool ((l_qSameT ((i_SetStage ((s_DrawWayTo p_0).1) ((s_DrawWayTo p_0).2.1) ((s_DrawWayTo p_0).2.2)).1) ((s_SetStage ((s_DrawWayTo p_0).1) ((s_DrawWayTo p_0).2.1) ((s_DrawWayTo p_0).2.2)).1))), .bool (!(l_qSameT ((i_SetStage ((s_DrawWayTo p_0).1) ((s_DrawWayTo p_0).2.1) ((s_DrawWayTo p_0).2.2)).1) ((s_SetStage ((s_DrawWayTo p_0).1) ((s_DrawWayTo p_0).2.1) ((s_DrawWayTo p_0).2.2)).1))), .bool (!(l_qSameT ((i_SetStage ((s_DrawWayTo p_0).1) ((s_DrawWayTo p_0).2.1) ((s_DrawWayTo p_0).2.2)).1) ((s_SetStage ((s_DrawWayTo p_0).1) ((s_DrawWayTo p_0).2.1) ((s_DrawWayTo p_0).2.2)).1))), .bool (!(l_qSameT ((i_SetStage ((s_DrawWayTo p_0).1) ((s_DrawWayTo p_0).2.1) ((s_DrawWayTo p_0).2.2)).1) ((s_SetStage ((s_DrawWayTo p_0).1) ((s_DrawWayTo p_0).2.1) ((s_DrawWayTo p_0).2.2)).1))), .bool ((i_IdxAt ((s_DrawWayTo p_0).1) ((s_DrawWayTo p_0).2.1)).2), .bool ((s_IdxAt ((s_DrawWayTo p_0).1) ((s_DrawWayTo p_0).2.1)).2), .bool (!(((i_IdxAt ((s_DrawWayTo p_0).1) ((s_DrawWayTo p_0).2.1)).2) == ((s_IdxAt ((s_DrawWayTo p_0).1) ((s_DrawWayTo p_0).2.1)).2))), .bool (!(((i_IdxAt ((s_DrawWayTo p_0).1) ((s_DrawWayTo p_0).2.1)).2) == ((s_IdxAt ((s_DrawWayTo p_0).1) ((s_DrawWayTo p_0).2.1)).2))), .bool (!(((i_IdxAt ((s_DrawWayTo p_0).1) ((s_DrawWayTo p_0).2.1)).2) == ((s_IdxAt ((s_DrawWayTo p_0).1) ((s_DrawWayTo p_0).2.1)).2))), .agg #[.string (bs ((i_IdxAt ((s_DrawWayTo p_0).1) ((s_DrawWayTo p_0).2.1)).1.Name)), .int .i64 ((i_IdxAt ((s_DrawWayTo p_0).1) ((s_DrawWayTo p_0).2.1)).1.Col), .int .i64 ((i_IdxAt ((s_DrawWayTo p_0).1) ((s_DrawWayTo p_0).2.1)).1.Stage)], .agg #[.string (bs ((s_IdxAt ((s_DrawWayTo p_0).1) ((s_DrawWayTo p_0).2.1)).1.Name)), .int .i64 ((s_IdxAt ((s_DrawWayTo p_0).1) ((s_DrawWayTo p_0).2.1)).1.Col), .int .i64 ((s_IdxAt ((s_DrawWayTo p_0).1) ((s_DrawWayTo p_0).2.1)).1.Stage)], .bool (!((((i_IdxAt ((s_DrawWayTo p_0).1) ((s_DrawWayTo p_0).2.1)).1.Name) == ((s_IdxAt ((s_DrawWayTo p_0).1) ((s_DrawWayTo p_0).2.1)).1.Name)) && ((decide (((i_IdxAt ((s_DrawWayTo p_0).1) ((s_DrawWayTo p_0).2.1)).1.Col) = ((s_IdxAt ((s_DrawWayTo p_0).1) ((s_DrawWayTo p_0).2.1)).1.Col))) && (decide (((i_IdxAt ((s_DrawWayTo p_0).1) ((s_DrawWayTo p_0).2.1)).1.Stage) = ((s_IdxAt ((s_DrawWayTo p_0).1) ((s_DrawWayTo p_0).2.1)).1.Stage)))))), .bool (!((((i_IdxAt ((s_DrawWayTo p_0).1) ((s_DrawWayTo p_0).2.1)).1.Name) == ((s_IdxAt ((s_DrawWayTo p_0).1) ((s_DrawWayTo p_0).2.1)).1.Name)) && ((decide (((i_IdxAt ((s_DrawWayTo p_0).1) ((s_DrawWayTo p_0).2.1)).1.Col) = ((s_IdxAt ((s_DrawWayTo p_0).1) ((s_DrawWayTo p_0).2.1)).1.Col))) && (decide (((i_IdxAt ((s_DrawWayTo p_0).1) ((s_DrawWayTo p_0).2.1)).1.Stage) = ((s_IdxAt ((s_DrawWayTo p_0).1) ((s_DrawWayTo p_0).2.1)).1.Stage)))))), .bool (!((((i_IdxAt ((s_DrawWayTo p_0).1) ((s_DrawWayTo p_0).2.1)).1.Name) == ((s_IdxAt ((s_DrawWayTo p_0).1) ((s_DrawWayTo p_0).2.1)).1.Name)) && ((decide (((i_IdxAt ((s_DrawWayTo p_0).1) ((s_DrawWayTo p_0).2.1)).1.Col) = ((s_IdxAt ((s_DrawWayTo p_0).1) ((s_DrawWayTo p_0).2.1)).1.Col))) && (decide (((i_IdxAt ((s_DrawWayTo p_0).1) ((s_DrawWayTo p_0).2.1)).1.Stage) = ((s_IdxAt ((s_DrawWayTo p_0).1) ((s_DrawWayTo p_0).2.1)).1.Stage)))))), .agg #[.string (bs ((s_DrawWayTo p_0).1.Name)), .slice A6 (((s_DrawWayTo p_0).1.Cols).length) c6, .slice A7 (((s_DrawWayTo p_0).1.Idxs).length) c7], .bool ((i_GoodTable ((s_DrawWayTo p_0).1))), .agg #[.string (bs ((s_DrawWayTo p_0).1.Name)), .slice A6 (((s_DrawWayTo p_0).1.Cols).length) c6, .slice A7 (((s_DrawWayTo p_0).1.Idxs).length) c7], .bool ((s_GoodTable ((s_DrawWayTo p_0).1))), .bool (!((i_GoodTable ((s_DrawWayTo p_0).1)) == (s_GoodTable ((s_DrawWayTo p_0).1)))), .bool (!((i_GoodTable ((s_DrawWayTo p_0).1)) == (s_GoodTable ((s_DrawWayTo p_0).1))))] Tryz.follows rfl ⟨?_, ?_, ?_, ?_, ?_, ?_, ?_, ?_, ?_, ?_, ?_, ?_, ?_, ?_, ?_, ?_, ?_, ?_, ?_, ?_, ?_, ?_, ?_, ?_, ?_, ?_, ?_, ?_, ?_, ?_, ?_, ?_, ?_, ?_, ?_, ?_, ?_, trivial⟩ ?_
        ·exact oI rfl fun h => yM rfl (h.old 9 _ rfl rfl) kI
        ·exact oI rfl fun h => yM rfl (h.old 11 _ rfl rfl) kI
        ·exact oI rfl fun h => yl_bneq un4 rfl (h.dt 0 96 rfl rfl rfl) (h.dt 1 97 rfl rfl rfl) kI
        ·exact oI rfl fun h => yM rfl (h.dt 2 98 rfl rfl rfl) kI
        ·exact oW rfl rfl rfl rfl (not_t hb139) fun h => yM rfl (h.old 8 _ rfl rfl) kI
        ·exact oW rfl rfl rfl rfl (not_t hb139) fun h => yM rfl (h.old 10 _ rfl rfl) kI
        ·intro L597 w598 hi599
         have hE600 := hi599.ex
         have hE600z := Ex.size hE600
         exact OpR.want rfl rfl (hi599.dt 3 99 rfl rfl rfl) (not_t hb139) (yC en11 rfl (oc (hi599.dt 4 100 rfl rfl rfl) (oc (hi599.dt 5 101 rfl rfl rfl) oz)) (Cal.mono (c_l_qSameTs ((i_WayTo ((s_DrawWayTo p_0).1) ((s_DrawWayTo p_0).2.1) ((s_DrawWayTo p_0).2.2)).1) ((s_WayTo ((s_DrawWayTo p_0).1) ((s_DrawWayTo p_0).2.1) ((s_DrawWayTo p_0).2.2)).1) (RdS.up (OwnL.rd good_Table (OwnD.own goodO_Table good_Table (OwnD.ex goodO_Table q475 hE600))) good_Table) (RdS.up (OwnL.rd good_Table (OwnD.own goodO_Table good_Table (OwnD.ex goodO_Table (OwnD.only goodO_Table (OwnD.ex goodO_Table (OwnD.ex goodO_Table (OwnD.only goodO_Table (OwnD.ex goodO_Table (OwnD.ex goodO_Table (OwnD.only goodO_Table (OwnD.ex goodO_Table (OwnD.ex goodO_Table (OwnD.only goodO_Table (OwnD.ex goodO_Table (OwnD.ex goodO_Table h38 hE52) hE61) hO64 oM) hE80) hE89) hO92 oM) hE106) hE112) hO115 oM) hE129) hE135) hO138 oM) hE600))) good_Table) ho29 ho39) fun _ _ h => h))
        ·exact oW rfl rfl rfl rfl (not_t hb139) fun h => yl_not rfl (h.dt 6 102 rfl rfl rfl) kI
        ·exact oI rfl fun h => yl_pick_f rfl (h.dt 3 99 rfl rfl rfl) (not_t hb139) (h.dt 7 103 rfl rfl rfl) kI
        ·exact oI rfl fun h => yM rfl (h.dt 8 104 rfl rfl rfl) kI
        ·exact oW rfl rfl rfl rfl (not_t hb168) fun h => yM rfl (h.old 13 _ rfl rfl) kI
        ·exact oW rfl rfl rfl rfl (not_t hb168) fun h => yM rfl (h.old 15 _ rfl rfl) kI
        ·exact oW rfl rfl rfl rfl (not_t hb168) fun h => yl_bneq un4 rfl (h.dt 10 106 rfl rfl rfl) (h.dt 11 107 rfl rfl rfl) kI
        ·exact oI rfl fun h => yl_pick_f rfl (h.dt 9 105 rfl rfl rfl) (not_t hb168) (h.dt 12 108 rfl rfl rfl) kI
        ·exact oI rfl fun h => yM rfl (h.dt 13 109 rfl rfl rfl) kI
        ·exact oW rfl rfl rfl rfl (not_t hb197) fun h => yl_loadN ty26 rfl (h.old 12 _ rfl rfl) ((Box.ex q498 h.ex).cells (n := 3) rfl) rfl kI
        ·intro L665 w666 hi667
         have hE668 := hi667.ex
         have hE668z := Ex.size hE668
         exact OpR.want rfl rfl (hi667.dt 14 110 rfl rfl rfl) (not_t hb197) (Yl.sameI (yl_loadN ty26 rfl (hi667.old 14 _ rfl rfl) ((Box.ex (Box.only (Box.ex (Box.ex (Box.only (Box.ex (Box.ex hB91 hE106) hE112) hO115 oM) hE129) hE135) hO138 oM) hE668).cells (n := 3) rfl) rfl kI))
        ·intro L672 w673 hi674
         have hE675 := hi674.ex
         have hE675z := Ex.size hE675
         exact OpR.want rfl rfl (hi674.dt 14 110 rfl rfl rfl) (not_t hb197) (yC en12 rfl (oc (hi674.dt 15 111 rfl rfl rfl) (oc (hi674.dt 16 112 rfl rfl rfl) oz)) (Cal.mono (c_l_qSameT ((i_SetStage ((s_DrawWayTo p_0).1) ((s_DrawWayTo p_0).2.1) ((s_DrawWayTo p_0).2.2)).1) ((s_SetStage ((s_DrawWayTo p_0).1) ((s_DrawWayTo p_0).2.1) ((s_DrawWayTo p_0).2.2)).1) (RdS.up (OwnL.rd gS (OwnL.ex gS q516 hE675)) gS) (RdS.up (OwnL.rd gI (OwnL.ex gI q528 hE675)) gI) (RdS.up (OwnL.rd gS (OwnL.ex gS (OwnL.only gS (OwnL.ex gS (OwnL.ex gS (OwnL.only gS (OwnL.ex gS (OwnL.ex gS (OwnL.only gS (OwnL.ex gS h76 hE89) hO92 oM) hE106) hE112) hO115 oM) hE129) hE135) hO138 oM) hE675)) gS) (RdS.up (OwnL.rd gI (OwnL.ex gI (OwnL.only gI (OwnL.ex gI (OwnL.ex gI (OwnL.only gI (OwnL.ex gI (OwnL.ex gI (OwnL.only gI (OwnL.ex gI h77 hE89) hO92 oM) hE106) hE112) hO115 oM) hE129) hE135) hO138 oM) hE675)) gI) ho50 ho78) fun _ _ h => h))
        ·exact oW rfl rfl rfl rfl (not_t hb197) fun h => yl_not rfl (h.dt 17 113 rfl rfl rfl) kI
        ·exact oI rfl fun h => yl_pick_f rfl (h.dt 14 110 rfl rfl rfl) (not_t hb197) (h.dt 18 114 rfl rfl rfl) kI
        ·exact oI rfl fun h => yM rfl (h.dt 19 115 rfl rfl rfl) kI
        ·exact oW rfl rfl rfl rfl (not_t hb284) fun h => yM rfl (h.old 17 _ rfl rfl) kI
        ·exact oW rfl rfl rfl rfl (not_t hb284) fun h => yM rfl (h.old 19 _ rfl rfl) kI
        ·exact oW rfl rfl rfl rfl (not_t hb284) fun h => yl_bneq un4 rfl (h.dt 21 117 rfl rfl rfl) (h.dt 22 118 rfl rfl rfl) kI
        ·exact oI rfl fun h => yl_pick_f rfl (h.dt 20 116 rfl rfl rfl) (not_t hb284) (h.dt 23 119 rfl rfl rfl) kI
        ·exact oI rfl fun h => yM rfl (h.dt 24 120 rfl rfl rfl) kI
        ·intro L737 w738 hi739
         have hE740 := hi739.ex
         have hE740z := Ex.size hE740
         exact OpR.want rfl rfl (hi739.dt 25 121 rfl rfl rfl) (not_t hb371) (Yl.sameI (yl_loadN ty35 rfl (hi739.old 16 _ rfl rfl) ((Box.ex (Box.only (Box.ex (Box.ex hB114 hE129) hE135) hO138 oM) hE740).cells (n := 3) rfl) rfl kI))
        ·exact oW rfl rfl rfl rfl (not_t hb371) fun h => yl_loadN ty35 rfl (h.old 18 _ rfl rfl) ((Box.ex hB137 h.ex).cells (n := 3) rfl) rfl kI
        ·exact oW rfl rfl rfl rfl (not_t hb371) fun h => yl_aneq (xs := [.string (bs ((i_IdxAt ((s_DrawWayTo p_0).1) ((s_DrawWayTo p_0).2.1)).1.Name)), .int .i64 ((i_IdxAt ((s_DrawWayTo p_0).1) ((s_DrawWayTo p_0).2.1)).1.Col), .int .i64 ((i_IdxAt ((s_DrawWayTo p_0).1) ((s_DrawWayTo p_0).2.1)).1.Stage)]) (ys := [.string (bs ((s_IdxAt ((s_DrawWayTo p_0).1) ((s_DrawWayTo p_0).2.1)).1.Name)), .int .i64 ((s_IdxAt ((s_DrawWayTo p_0).1) ((s_DrawWayTo p_0).2.1)).1.Col), .int .i64 ((s_IdxAt ((s_DrawWayTo p_0).1) ((s_DrawWayTo p_0).2.1)).1.Stage)]) Tryz.ae35 rfl (h.dt 26 122 rfl rfl rfl) (h.dt 27 123 rfl rfl rfl) kI
        ·exact oI rfl fun h => yl_pick_f rfl (h.dt 25 121 rfl rfl rfl) (not_t hb371) (h.dt 28 124 rfl rfl rfl) kI
        ·exact oI rfl fun h => yM rfl (h.dt 29 125 rfl rfl rfl) kI
        ·exact oW rfl rfl rfl rfl (not_t hb461) fun h => yl_loadN ty26 rfl (h.old 5 _ rfl rfl) ((Box.ex q553 h.ex).cells (n := 3) rfl) rfl kI
        ·intro L776 w777 hi778
         have hE779 := hi778.ex
         exact OpR.want rfl rfl (hi778.dt 30 126 rfl rfl rfl) (not_t hb461) (yC en13 rfl (oc (hi778.dt 31 127 rfl rfl rfl) oz) (Cal.mono (c_i_GoodTable ((s_DrawWayTo p_0).1) (RdS.up (RdS.ex gS q556 hE779) gS) (RdS.up (OwnL.rd gI (OwnL.ex gI q560 hE779)) gI) ho8) fun _ _ h => h))
        ·exact oW rfl rfl rfl rfl (not_t hb461) fun h => yl_loadN ty26 rfl (h.old 5 _ rfl rfl) ((Box.ex q553 h.ex).cells (n := 3) rfl) rfl kI
        ·intro L795 w796 hi797
         have hE798 := hi797.ex
         exact OpR.want rfl rfl (hi797.dt 30 126 rfl rfl rfl) (not_t hb461) (yC en14 rfl (oc (hi797.dt 33 129 rfl rfl rfl) oz) (Cal.mono (c_s_GoodTable ((s_DrawWayTo p_0).1) (RdS.up (RdS.ex gS q556 hE798) gS) (RdS.up (OwnL.rd gI (OwnL.ex gI q560 hE798)) gI) ho8) fun _ _ h => h))
        ·exact oW rfl rfl rfl rfl (not_t hb461) fun h => yl_bneq un4 rfl (h.dt 32 128 rfl rfl rfl) (h.dt 34 130 rfl rfl rfl) kI
        ·exact oI rfl fun h => yl_pick_f rfl (h.dt 30 126 rfl rfl rfl) (not_t hb461) (h.dt 35 131 rfl rfl rfl) kI
        ·intro fl823 fh824 L820 w821 hp822
         have hE825 := hp822.ex
         have hE825z := Ex.size hE825
         refine dn (CW.sub (sC 1 (hp822.old 1 _ rfl rfl) (sC 5 (hp822.old 5 _ rfl rfl) (sC 8 (hp822.old 8 _ rfl rfl) (sC 9 (hp822.old 9 _ rfl rfl) (sC 12 (hp822.old 12 _ rfl rfl) (sC 132 (hp822.nt 36 132 rfl rfl rfl) (Sub.nil _))))))) (bcase ((i_GoodTable ((s_DrawWayTo p_0).1)) == (s_GoodTable ((s_DrawWayTo p_0).1))) (fun hb832 => ?_) (fun hb832 => ?_)))
         ·refine CW.cond_f rfl (not_t hb832) (CW.skip (tn (CW.seq (cR (sM rfl (dn ?_))))))
          refine bcase ((i_WayTo ((s_DrawWayTo p_0).1) ((s_DrawWayTo p_0).2.1) ((s_DrawWayTo p_0).2.2)).2) (fun hb833 => ?_) (fun hb833 => ?_)
          ·refine CW.cond_t rfl hb833 (CW.seq (CW.seq (bcase (decide ((((i_WayTo ((s_DrawWayTo p_0).1) ((s_DrawWayTo p_0).2.1) ((s_DrawWayTo p_0).2.2)).1).length : Int) = 0)) (fun hb834 => ?_) (fun hb834 => ?_))))
           ·have hb834p := dec_t hb834
            refine drI 27 [.slice A28 (((i_WayTo ((s_DrawWayTo p_0).1) ((s_DrawWayTo p_0).2.1) ((s_DrawWayTo p_0).2.2)).1).length) c28, .int .i64 ((((i_WayTo ((s_DrawWayTo p_0).1) ((s_DrawWayTo p_0).2.1) ((s_DrawWayTo p_0).2.2)).1).length : Int)), .bool (decide ((((i_WayTo ((s_DrawWayTo p_0).1) ((s_DrawWayTo p_0).2.1) ((s_DrawWayTo p_0).2.2)).1).length : Int) = 0)), .bool (decide ((((i_WayTo ((s_DrawWayTo p_0).1) ((s_DrawWayTo p_0).2.1) ((s_DrawWayTo p_0).2.2)).1).length : Int) = 0)), undef, undef, undef, .bool (true), .bool (true), undef, undef, undef, undef, undef, undef, .bool (true), .bool (true), undef, undef, undef, undef, undef, undef, undef, undef, undef, .bool (true)] Tryz.follows rfl ⟨?_, ?_, ?_, ?_, ?_, ?_, ?_, ?_, ?_, ?_, ?_, ?_, ?_, ?_, ?_, ?_, ?_, ?_, ?_, ?_, ?_, ?_, ?_, ?_, ?_, ?_, ?_, trivial⟩ ?_
            ·exact oI rfl fun h => yM rfl (h.old 8 _ rfl rfl) kI
            ·exact oI rfl fun h => yL un29 rfl (h.dt 0 134 rfl rfl rfl) kI
            ·exact oI rfl fun h => yl_eql rfl (h.dt 1 135 rfl rfl rfl) rfl kI
            ·exact oI rfl fun h => yM rfl (h.dt 2 136 rfl rfl rfl) kI
            ·exact oS rfl rfl rfl rfl rfl hb834
            ·exact oS rfl rfl rfl rfl rfl hb834
            ·exact oS rfl rfl rfl rfl rfl hb834
            ·exact oI rfl fun h => yl_pick_t rfl (h.dt 3 137 rfl rfl rfl) hb834 rfl kI
            ·exact oI rfl fun h => yM rfl (h.dt 7 141 rfl rfl rfl) kI
            ·exact oS rfl rfl rfl rfl rfl rfl
            ·exact oS rfl rfl rfl rfl rfl rfl
            ·exact oS rfl rfl rfl rfl rfl rfl
            ·exact oS rfl rfl rfl rfl rfl rfl
            ·exact oS rfl rfl rfl rfl rfl rfl
            ·exact oS rfl rfl rfl rfl rfl rfl
            ·exact oI rfl fun h => yl_pick_t rfl (h.dt 8 142 rfl rfl rfl) rfl rfl kI
            ·exact oI rfl fun h => yM rfl (h.dt 15 149 rfl rfl rfl) kI
            ·exact oS rfl rfl rfl rfl rfl rfl
            ·exact oS rfl rfl rfl rfl rfl rfl
            ·exact oS rfl rfl rfl rfl rfl rfl
            ·exact oS rfl rfl rfl rfl rfl rfl
            ·exact oS rfl rfl rfl rfl rfl rfl
            ·exact oS rfl rfl rfl rfl rfl rfl
            ·exact oS rfl rfl rfl rfl rfl rfl
            ·exact oS rfl rfl rfl rfl rfl rfl
            ·exact oS rfl rfl rfl rfl rfl rfl
            ·exact oI rfl fun h => yl_pick_t rfl (h.dt 16 150 rfl rfl rfl) rfl rfl kI
            ·intro fl976 fh977 L973 w974 hp975
             have hE978 := hp975.ex
             have hE978z := Ex.size hE978
             refine dn (CW.sub (sC 1 (hp975.old 1 _ rfl rfl) (sC 5 (hp975.old 5 _ rfl rfl) (sC 8 (hp975.old 8 _ rfl rfl) (sC 160 (hp975.nt 26 160 rfl rfl rfl) (Sub.nil _))))) (CW.cond_t rfl rfl (cR (sA rfl (dn ?_)))))
             refine CW.ret (tr (tr (rr rfl (.cons rfl .nil) ?_)))
             have hM983 : (l_FnTables p_0 p_1) = (false) := by first | (simp only [l_FnTables, hb3, hb139, hb168, hb197, hb284, hb371, hb461, hb832, hb833, hb834, cL]; done) | (simp only [l_FnTables, hb139, cL] <;> simp only [hb3, hb168, hb197, hb284, hb371, hb461, hb832, hb833, hb834, cL])
             rw [hM983]
             exact ⟨rfl, (Ex.trans (Ex.trans (Below.only (Ex.trans (Ex.trans (Below.only (Ex.trans (Ex.trans (Below.only (Ex.trans (Ex.trans (Below.only (Ex.trans (Ex.trans (Ex.trans (Ex.trans (Below.only (Ex.trans (Ex.trans (Ex.refl w) hE11) hE18) hO21 oM) hE31) hE41) hE52) hE61) hO64 oM) hE80) hE89) hO92 oM) hE106) hE112) hO115 oM) hE129) hE135) hO138 oM) hE825) hE978)⟩
           ·have hb834p := dec_f hb834
            refine bcase (decide (4 < (((i_WayTo ((s_DrawWayTo p_0).1) ((s_DrawWayTo p_0).2.1) ((s_DrawWayTo p_0).2.2)).1).length : Int))) (fun hb1003 => ?_) (fun hb1003 => ?_)
            ·have hb1003p := dec_t hb1003
             refine drI 27 [.slice A28 (((i_WayTo ((s_DrawWayTo p_0).1) ((s_DrawWayTo p_0).2.1) ((s_DrawWayTo p_0).2.2)).1).length) c28, .int .i64 ((((i_WayTo ((s_DrawWayTo p_0).1) ((s_DrawWayTo p_0).2.1) ((s_DrawWayTo p_0).2.2)).1).length : Int)), .bool (decide ((((i_WayTo ((s_DrawWayTo p_0).1) ((s_DrawWayTo p_0).2.1) ((s_DrawWayTo p_0).2.2)).1).length : Int) = 0)), .bool (decide ((((i_WayTo ((s_DrawWayTo p_0).1) ((s_DrawWayTo p_0).2.1) ((s_DrawWayTo p_0).2.2)).1).length : Int) = 0)), .slice A28 (((i_WayTo ((s_DrawWayTo p_0).1) ((s_DrawWayTo p_0).2.1) ((s_DrawWayTo p_0).2.2)).1).length) c28, .int .i64 ((((i_WayTo ((s_DrawWayTo p_0).1) ((s_DrawWayTo p_0).2.1) ((s_DrawWayTo p_0).2.2)).1).length : Int)), .bool (decide (4 < (((i_WayTo ((s_DrawWayTo p_0).1) ((s_DrawWayTo p_0).2.1) ((s_DrawWayTo p_0).2.2)).1).length : Int))), .bool (decide (4 < (((i_WayTo ((s_DrawWayTo p_0).1) ((s_DrawWayTo p_0).2.1) ((s_DrawWayTo p_0).2.2)).1).length : Int))), .bool (decide (4 < (((i_WayTo ((s_DrawWayTo p_0).1) ((s_DrawWayTo p_0).2.1) ((s_DrawWayTo p_0).2.2)).1).length : Int))), undef, undef, undef, undef, undef, undef, .bool (true), .bool (true), undef, undef, undef, undef, undef, undef, undef, undef, undef, .bool (true)] Tryz.follows rfl ⟨?_, ?_, ?_, ?_, ?_, ?_, ?_, ?_, ?_, ?_, ?_, ?_, ?_, ?_, ?_, ?_, ?_, ?_, ?_, ?_, ?_, ?_, ?_, ?_, ?_, ?_, ?_, trivial⟩ ?_
             ·exact oI rfl fun h => yM rfl (h.old 8 _ rfl rfl) kI
             ·exact oI rfl fun h => yL un29 rfl (h.dt 0 134 rfl rfl rfl) kI
             ·exact oI rfl fun h => yl_eql rfl (h.dt 1 135 rfl rfl rfl) rfl kI
             ·exact oI rfl fun h => yM rfl (h.dt 2 136 rfl rfl rfl) kI
             ·exact oW rfl rfl rfl rfl hb834 fun h => yM rfl (h.old 8 _ rfl rfl) kI
             ·exact oW rfl rfl rfl rfl hb834 fun h => yL un29 rfl (h.dt 4 138 rfl rfl rfl) kI
             ·exact oW rfl rfl rfl rfl hb834 fun h => yl_gtr rfl (h.dt 5 139 rfl rfl rfl) rfl kI
             ·exact oI rfl fun h => yl_pick_f rfl (h.dt 3 137 rfl rfl rfl) hb834 (h.dt 6 140 rfl rfl rfl) kI
             ·exact oI rfl fun h => yM rfl (h.dt 7 141 rfl rfl rfl) kI
             ·exact oS rfl rfl rfl rfl rfl hb1003
             ·exact oS rfl rfl rfl rfl rfl hb1003
             ·exact oS rfl rfl rfl rfl rfl hb1003
             ·exact oS rfl rfl rfl rfl rfl hb1003
             ·exact oS rfl rfl rfl rfl rfl hb1003
             ·exact oS rfl rfl rfl rfl rfl hb1003
             ·exact oI rfl fun h => yl_pick_t rfl (h.dt 8 142 rfl rfl rfl) hb1003 rfl kI
             ·exact oI rfl fun h => yM rfl (h.dt 15 149 rfl rfl rfl) kI
             ·exact oS rfl rfl rfl rfl rfl rfl
             ·exact oS rfl rfl rfl rfl rfl rfl
             ·exact oS rfl rfl rfl rfl rfl rfl
             ·exact oS rfl rfl rfl rfl rfl rfl
             ·exact oS rfl rfl rfl rfl rfl rfl
             ·exact oS rfl rfl rfl rfl rfl rfl
             ·exact oS rfl rfl rfl rfl rfl rfl
             ·exact oS rfl rfl rfl rfl rfl rfl
             ·exact oS rfl rfl rfl rfl rfl rfl
             ·exact oI rfl fun h => yl_pick_t rfl (h.dt 16 150 rfl rfl rfl) rfl rfl kI
             ·intro fl1148 fh1149 L1145 w1146 hp1147
              have hE1150 := hp1147.ex
              have hE1150z := Ex.size hE1150
              refine dn (CW.sub (sC 1 (hp1147.old 1 _ rfl rfl) (sC 5 (hp1147.old 5 _ rfl rfl) (sC 8 (hp1147.old 8 _ rfl rfl) (sC 160 (hp1147.nt 26 160 rfl rfl rfl) (Sub.nil _))))) (CW.cond_t rfl rfl (cR (sA rfl (dn ?_)))))
              refine CW.ret (tr (tr (rr rfl (.cons rfl .nil) ?_)))
              have hM1155 : (l_FnTables p_0 p_1) = (false) := by first | (simp only [l_FnTables, hb3, hb139, hb168, hb197, hb284, hb371, hb461, hb832, hb833, hb834, hb1003, cL]; done) | (simp only [l_FnTables, hb139, cL] <;> simp only [hb3, hb168, hb197, hb284, hb371, hb461, hb832, hb833, hb834, hb1003, cL])
              rw [hM1155]
              exact ⟨rfl, (Ex.trans (Ex.trans (Below.only (Ex.trans (Ex.trans (Below.only (Ex.trans (Ex.trans (Below.only (Ex.trans (Ex.trans (Below.only (Ex.trans (Ex.trans (Ex.trans (Ex.trans (Below.only (Ex.trans (Ex.trans (Ex.refl w) hE11) hE18) hO21 oM) hE31) hE41) hE52) hE61) hO64 oM) hE80) hE89) hO92 oM) hE106) hE112) hO115 oM) hE129) hE135) hO138 oM) hE825) hE1150)⟩
            ·have hb1003p := dec_f hb1003
             obtain ⟨_, _, _, _, _, ebl1177, _, eR1177, _⟩ := RdS.atD (OwnL.rd good_Table (OwnD.own goodO_Table good_Table (OwnD.ex goodO_Table q475 hE825))) d_Table (i := 0) (by first | omega | assumption)
             obtain ⟨A1178, c1178, A1179, c1179, rfl, h1178, h1179⟩ := eR1177
             refine bcase (l_qSameT (((i_WayTo ((s_DrawWayTo p_0).1) ((s_DrawWayTo p_0).2.1) ((s_DrawWayTo p_0).2.2)).1).getD 0 d_Table) ((s_DrawWayTo p_0).1)) (fun hb1185 => ?_) (fun hb1185 => ?_)
             ·have q1187 := OwnD.ex goodO_Table q475 hE825
              obtain ⟨eb1188, eo1188, _, eA1188, _, ebl1188, _, eR1188, eC1188⟩ := RdS.atD (OwnL.rd good_Table (OwnD.own goodO_Table good_Table q1187)) d_Table (i := 0) (by first | omega | assumption)
              obtain ⟨A1189, c1189, A1190, c1190, rfl, h1189, h1190⟩ := eR1188
              have q1191 := Box.ex q553 hE825
              have q1192 := RdS.ex gS q556 hE825
              have q1194 := OwnL.ex gI q560 hE825
              obtain ⟨eb1197, eo1197, _, eA1197, _, ebl1197, _, eR1197, eC1197⟩ := RdS.atD (OwnL.rd good_Table (OwnD.own goodO_Table good_Table q1187)) d_Table (i := (IntKind.wrap .i64 ((((i_WayTo ((s_DrawWayTo p_0).1) ((s_DrawWayTo p_0).2.1) ((s_DrawWayTo p_0).2.2)).1).length : Int) - 1)).toNat) Bo
              obtain ⟨A1198, c1198, A1199, c1199, rfl, h1198, h1199⟩ := eR1197
              refine drI 27 [.slice A28 (((i_WayTo ((s_DrawWayTo p_0).1) ((s_DrawWayTo p_0).2.1) ((s_DrawWayTo p_0).2.2)).1).length) c28, .int .i64 ((((i_WayTo ((s_DrawWayTo p_0).1) ((s_DrawWayTo p_0).2.1) ((s_DrawWayTo p_0).2.2)).1).length : Int)), .bool (decide ((((i_WayTo ((s_DrawWayTo p_0).1) ((s_DrawWayTo p_0).2.1) ((s_DrawWayTo p_0).2.2)).1).length : Int) = 0)), .bool (decide ((((i_WayTo ((s_DrawWayTo p_0).1) ((s_DrawWayTo p_0).2.1) ((s_DrawWayTo p_0).2.2)).1).length : Int) = 0)), .slice A28 (((i_WayTo ((s_DrawWayTo p_0).1) ((s_DrawWayTo p_0).2.1) ((s_DrawWayTo p_0).2.2)).1).length) c28, .int .i64 ((((i_WayTo ((s_DrawWayTo p_0).1) ((s_DrawWayTo p_0).2.1) ((s_DrawWayTo p_0).2.2)).1).length : Int)), .bool (decide (4 < (((i_WayTo ((s_DrawWayTo p_0).1) ((s_DrawWayTo p_0).2.1) ((s_DrawWayTo p_0).2.2)).1).length : Int))), .bool (decide (4 < (((i_WayTo ((s_DrawWayTo p_0).1) ((s_DrawWayTo p_0).2.1) ((s_DrawWayTo p_0).2.2)).1).length : Int))), .bool (decide (4 < (((i_WayTo ((s_DrawWayTo p_0).1) ((s_DrawWayTo p_0).2.1) ((s_DrawWayTo p_0).2.2)).1).length : Int))), .slice A28 (((i_WayTo ((s_DrawWayTo p_0).1) ((s_DrawWayTo p_0).2.1) ((s_DrawWayTo p_0).2.2)).1).length) c28, .pointer (some ⟨eb1188, eo1188 + 0 * 3, none⟩), .agg #[.string (bs ((((i_WayTo ((s_DrawWayTo p_0).1) ((s_DrawWayTo p_0).2.1) ((s_DrawWayTo p_0).2.2)).1).getD 0 d_Table).Name)), .slice A1189 (((((i_WayTo ((s_DrawWayTo p_0).1) ((s_DrawWayTo p_0).2.1) ((s_DrawWayTo p_0).2.2)).1).getD 0 d_Table).Cols).length) c1189, .slice A1190 (((((i_WayTo ((s_DrawWayTo p_0).1) ((s_DrawWayTo p_0).2.1) ((s_DrawWayTo p_0).2.2)).1).getD 0 d_Table).Idxs).length) c1190], .agg #[.string (bs ((s_DrawWayTo p_0).1.Name)), .slice A6 (((s_DrawWayTo p_0).1.Cols).length) c6, .slice A7 (((s_DrawWayTo p_0).1.Idxs).length) c7], .bool ((l_qSameT (((i_WayTo ((s_DrawWayTo p_0).1) ((s_DrawWayTo p_0).2.1) ((s_DrawWayTo p_0).2.2)).1).getD 0 d_Table) ((s_DrawWayTo p_0).1))), .bool (!(l_qSameT (((i_WayTo ((s_DrawWayTo p_0).1) ((s_DrawWayTo p_0).2.1) ((s_DrawWayTo p_0).2.2)).1).getD 0 d_Table) ((s_DrawWayTo p_0).1))), .bool (!(l_qSameT (((i_WayTo ((s_DrawWayTo p_0).1) ((s_DrawWayTo p_0).2.1) ((s_DrawWayTo p_0).2.2)).1).getD 0 d_Table) ((s_DrawWayTo p_0).1))), .bool (!(l_qSameT (((i_WayTo ((s_DrawWayTo p_0).1) ((s_DrawWayTo p_0).2.1) ((s_DrawWayTo p_0).2.2)).1).getD 0 d_Table) ((s_DrawWayTo p_0).1))), .slice A28 (((i_WayTo ((s_DrawWayTo p_0).1) ((s_DrawWayTo p_0).2.1) ((s_DrawWayTo p_0).2.2)).1).length) c28, .slice A28 (((i_WayTo ((s_DrawWayTo p_0).1) ((s_DrawWayTo p_0).2.1) ((s_DrawWayTo p_0).2.2)).1).length) c28, .int .i64 ((((i_WayTo ((s_DrawWayTo p_0).1) ((s_DrawWayTo p_0).2.1) ((s_DrawWayTo p_0).2.2)).1).length : Int)), .int .i64 (IntKind.wrap .i64 ((((i_WayTo ((s_DrawWayTo p_0).1) ((s_DrawWayTo p_0).2.1) ((s_DrawWayTo p_0).2.2)).1).length : Int) - 1)), .pointer (some ⟨eb1197, eo1197 + ((IntKind.wrap .i64 ((((i_WayTo ((s_DrawWayTo p_0).1) ((s_DrawWayTo p_0).2.1) ((s_DrawWayTo p_0).2.2)).1).length : Int) - 1)).toNat) * 3, none⟩), .agg #[.string (bs ((((i_WayTo ((s_DrawWayTo p_0).1) ((s_DrawWayTo p_0).2.1) ((s_DrawWayTo p_0).2.2)).1).getD ((IntKind.wrap .i64 ((((i_WayTo ((s_DrawWayTo p_0).1) ((s_DrawWayTo p_0).2.1) ((s_DrawWayTo p_0).2.2)).1).length : Int) - 1)).toNat) d_Table).Name)), .slice A1198 (((((i_WayTo ((s_DrawWayTo p_0).1) ((s_DrawWayTo p_0).2.1) ((s_DrawWayTo p_0).2.2)).1).getD ((IntKind.wrap .i64 ((((i_WayTo ((s_DrawWayTo p_0).1) ((s_DrawWayTo p_0).2.1) ((s_DrawWayTo p_0).2.2)).1).length : Int) - 1)).toNat) d_Table).Cols).length) c1198, .slice A1199 (((((i_WayTo ((s_DrawWayTo p_0).1) ((s_DrawWayTo p_0).2.1) ((s_DrawWayTo p_0).2.2)).1).getD ((IntKind.wrap .i64 ((((i_WayTo ((s_DrawWayTo p_0).1) ((s_DrawWayTo p_0).2.1) ((s_DrawWayTo p_0).2.2)).1).length : Int) - 1)).toNat) d_Table).Idxs).length) c1199], .agg #[.string (bs ((i_SetStage ((s_DrawWayTo p_0).1) ((s_DrawWayTo p_0).2.1) ((s_DrawWayTo p_0).2.2)).1.Name)), .slice A48 (((i_SetStage ((s_DrawWayTo p_0).1) ((s_DrawWayTo p_0).2.1) ((s_DrawWayTo p_0).2.2)).1.Cols).length) c48, .slice A49 (((i_SetStage ((s_DrawWayTo p_0).1) ((s_DrawWayTo p_0).2.1) ((s_DrawWayTo p_0).2.2)).1.Idxs).length) c49], .bool ((l_qSameT (((i_WayTo ((s_DrawWayTo p_0).1) ((s_DrawWayTo p_0).2.1) ((s_DrawWayTo p_0).2.2)).1).getD ((IntKind.wrap .i64 ((((i_WayTo ((s_DrawWayTo p_0).1) ((s_DrawWayTo p_0).2.1) ((s_DrawWayTo p_0).2.2)).1).length : Int) - 1)).toNat) d_Table) ((i_SetStage ((s_DrawWayTo p_0).1) ((s_DrawWayTo p_0).2.1) ((s_DrawWayTo p_0).2.2)).1))), .bool (!(l_qSameT (((i_WayTo ((s_DrawWayTo p_0).1) ((s_DrawWayTo p_0).2.1) ((s_DrawWayTo p_0).2.2)).1).getD ((IntKind.wrap .i64 ((((i_WayTo ((s_DrawWayTo p_0).1) ((s_DrawWayTo p_0).2.1) ((s_DrawWayTo p_0).2.2)).1).length : Int) - 1)).toNat) d_Table) ((i_SetStage ((s_DrawWayTo p_0).1) ((s_DrawWayTo p_0).2.1) ((s_DrawWayTo p_0).2.2)).1))), .bool (!(l_qSameT (((i_WayTo ((s_DrawWayTo p_0).1) ((s_DrawWayTo p_0).2.1) ((s_DrawWayTo p_0).2.2)).1).getD ((IntKind.wrap .i64 ((((i_WayTo ((s_DrawWayTo p_0).1) ((s_DrawWayTo p_0).2.1) ((s_DrawWayTo p_0).2.2)).1).length : Int) - 1)).toNat) d_Table) ((i_SetStage ((s_DrawWayTo p_0).1) ((s_DrawWayTo p_0).2.1) ((s_DrawWayTo p_0).2.2)).1)))] Tryz.follows rfl ⟨?_, ?_, ?_, ?_, ?_, ?_, ?_, ?_, ?_, ?_, ?_, ?_, ?_, ?_, ?_, ?_, ?_, ?_, ?_, ?_, ?_, ?_, ?_, ?_, ?_, ?_, ?_, trivial⟩ ?_
              ·exact oI rfl fun h => yM rfl (h.old 8 _ rfl rfl) kI
              ·exact oI rfl fun h => yL un29 rfl (h.dt 0 134 rfl rfl rfl) kI
              ·exact oI rfl fun h => yl_eql rfl (h.dt 1 135 rfl rfl rfl) rfl kI
              ·exact oI rfl fun h => yM rfl (h.dt 2 136 rfl rfl rfl) kI
              ·exact oW rfl rfl rfl rfl hb834 fun h => yM rfl (h.old 8 _ rfl rfl) kI
              ·exact oW rfl rfl rfl rfl hb834 fun h => yL un29 rfl (h.dt 4 138 rfl rfl rfl) kI
              ·exact oW rfl rfl rfl rfl hb834 fun h => yl_gtr rfl (h.dt 5 139 rfl rfl rfl) rfl kI
              ·exact oI rfl fun h => yl_pick_f rfl (h.dt 3 137 rfl rfl rfl) hb834 (h.dt 6 140 rfl rfl rfl) kI
              ·exact oI rfl fun h => yM rfl (h.dt 7 141 rfl rfl rfl) kI
              ·exact oW rfl rfl rfl rfl hb1003 fun h => yM rfl (h.old 8 _ rfl rfl) kI
              ·intro L1261 w1262 hi1263
               have hE1264 := hi1263.ex
               have hE1264z := Ex.size hE1264
               exact OpR.want rfl rfl (hi1263.dt 8 142 rfl rfl rfl) hb1003 (Yl.sameI (yl_ixN un29 ty26 rfl (hi1263.dt 9 143 rfl rfl rfl) rfl eA1188 kI))
              ·exact oW rfl rfl rfl rfl hb1003 fun h => yl_loadN ty26 rfl (h.dt 10 144 rfl rfl rfl) (Cells.ex eC1188 h.ex) rfl kI
              ·exact oW rfl rfl rfl rfl hb1003 fun h => yl_loadN ty26 rfl (h.old 5 _ rfl rfl) ((Box.ex q1191 h.ex).cells (n := 3) rfl) rfl kI
              ·intro L1281 w1282 hi1283
               have hE1284 := hi1283.ex
               exact OpR.want rfl rfl (hi1283.dt 8 142 rfl rfl rfl) hb1003 (yC en12 rfl (oc (hi1283.dt 11 145 rfl rfl rfl) (oc (hi1283.dt 12 146 rfl rfl rfl) oz)) (Cal.mono (c_l_qSameT (((i_WayTo ((s_DrawWayTo p_0).1) ((s_DrawWayTo p_0).2.1) ((s_DrawWayTo p_0).2.2)).1).getD 0 d_Table) ((s_DrawWayTo p_0).1) (RdS.up (RdS.ex gS h1189 hE1284) gS) (RdS.up (RdS.ex gI h1190 hE1284) gI) (RdS.up (RdS.ex gS q1192 hE1284) gS) (RdS.up (OwnL.rd gI (OwnL.ex gI q1194 hE1284)) gI) (okL.getD ho29 ok_d_Table _) ho8) fun _ _ h => h))
              ·exact oW rfl rfl rfl rfl hb1003 fun h => yl_not rfl (h.dt 13 147 rfl rfl rfl) kI
              ·exact oI rfl fun h => yl_pick_f rfl (h.dt 8 142 rfl rfl rfl) hb1003 (h.dt 14 148 rfl rfl rfl) kI
              ·exact oI rfl fun h => yM rfl (h.dt 15 149 rfl rfl rfl) kI
              ·exact oW rfl rfl rfl rfl (not_t hb1185) fun h => yM rfl (h.old 8 _ rfl rfl) kI
              ·exact oW rfl rfl rfl rfl (not_t hb1185) fun h => yM rfl (h.old 8 _ rfl rfl) kI
              ·exact oW rfl rfl rfl rfl (not_t hb1185) fun h => yL un29 rfl (h.dt 18 152 rfl rfl rfl) kI
              ·exact oW rfl rfl rfl rfl (not_t hb1185) fun h => yl_sub rfl (h.dt 19 153 rfl rfl rfl) rfl kI
              ·intro L1337 w1338 hi1339
               have hE1340 := hi1339.ex
               have hE1340z := Ex.size hE1340
               exact OpR.want rfl rfl (hi1339.dt 16 150 rfl rfl rfl) (not_t hb1185) (Yl.sameI (yl_indexAddr un29 ty26 rfl (hi1339.dt 17 151 rfl rfl rfl) (hi1339.dt 20 154 rfl rfl rfl) eA1197 Bo Bo kI))
              ·exact oW rfl rfl rfl rfl (not_t hb1185) fun h => yl_loadN ty26 rfl (h.dt 21 155 rfl rfl rfl) (Cells.ex eC1197 h.ex) rfl kI
              ·exact oW rfl rfl rfl rfl (not_t hb1185) fun h => yl_loadN ty26 rfl (h.old 12 _ rfl rfl) ((Box.ex (Box.ex q498 hE825) h.ex).cells (n := 3) rfl) rfl kI
              ·intro L1358 w1359 hi1360
               have hE1361 := hi1360.ex
               exact OpR.want rfl rfl (hi1360.dt 16 150 rfl rfl rfl) (not_t hb1185) (yC en12 rfl (oc (hi1360.dt 22 156 rfl rfl rfl) (oc (hi1360.dt 23 157 rfl rfl rfl) oz)) (Cal.mono (c_l_qSameT (((i_WayTo ((s_DrawWayTo p_0).1) ((s_DrawWayTo p_0).2.1) ((s_DrawWayTo p_0).2.2)).1).getD ((IntKind.wrap .i64 ((((i_WayTo ((s_DrawWayTo p_0).1) ((s_DrawWayTo p_0).2.1) ((s_DrawWayTo p_0).2.2)).1).length : Int) - 1)).toNat) d_Table) ((i_SetStage ((s_DrawWayTo p_0).1) ((s_DrawWayTo p_0).2.1) ((s_DrawWayTo p_0).2.2)).1) (RdS.up (RdS.ex gS h1198 hE1361) gS) (RdS.up (RdS.ex gI h1199 hE1361) gI) (RdS.up (OwnL.rd gS (OwnL.ex gS (OwnL.ex gS q516 hE825) hE1361)) gS) (RdS.up (OwnL.rd gI (OwnL.ex gI (OwnL.ex gI q528 hE825) hE1361)) gI) (okL.getD ho29 ok_d_Table _) ho50) fun _ _ h => h))
              ·exact oW rfl rfl rfl rfl (not_t hb1185) fun h => yl_not rfl (h.dt 24 158 rfl rfl rfl) kI
              ·exact oI rfl fun h => yl_pick_f rfl (h.dt 16 150 rfl rfl rfl) (not_t hb1185) (h.dt 25 159 rfl rfl rfl) kI
              ·intro fl1389 fh1390 L1386 w1387 hp1388
               have hE1391 := hp1388.ex
               have hE1391z := Ex.size hE1391
               refine dn (CW.sub (sC 1 (hp1388.old 1 _ rfl rfl) (sC 5 (hp1388.old 5 _ rfl rfl) (sC 8 (hp1388.old 8 _ rfl rfl) (sC 160 (hp1388.nt 26 160 rfl rfl rfl) (Sub.nil _))))) (bcase (l_qSameT (((i_WayTo ((s_DrawWayTo p_0).1) ((s_DrawWayTo p_0).2.1) ((s_DrawWayTo p_0).2.2)).1).getD ((IntKind.wrap .i64 ((((i_WayTo ((s_DrawWayTo p_0).1) ((s_DrawWayTo p_0).2.1) ((s_DrawWayTo p_0).2.2)).1).length : Int) - 1)).toNat) d_Table) ((i_SetStage ((s_DrawWayTo p_0).1) ((s_DrawWayTo p_0).2.1) ((s_DrawWayTo p_0).2.2)).1)) (fun hb1396 => ?_) (fun hb1396 => ?_)))
               ·refine CW.cond_f rfl (not_t hb1396) (CW.skip (tn (CW.seq (cR (sA rfl (dn ?_))))))
                refine CW.block ?_
                have q1414 := RdS.only gU (RdS.ex gU (RdS.ex gU (RdS.only gU (RdS.ex gU (RdS.ex gU (RdS.only gU (RdS.ex gU (RdS.ex gU (RdS.ex gU (RdS.ex gU (RdS.only gU (RdS.ex gU (RdS.ex gU h2 hE11) hE18) hO21 (by simp only [Iv]; omega)) hE31) hE41) hE52) hE61) hO64 (by simp only [Iv]; omega)) hE80) hE89) hO92 (by simp only [Iv]; omega)) hE106) hE112) hO115 (by simp only [Iv]; omega)
                refine CW.loop (fun m1398 L1399 w1400 => ∃ (k1397 : Nat), m1398 = ((i_WayTo ((s_DrawWayTo p_0).1) ((s_DrawWayTo p_0).2.1) ((s_DrawWayTo p_0).2.2)).1).length - k1397 ∧ k1397 ≤ ((i_WayTo ((s_DrawWayTo p_0).1) ((s_DrawWayTo p_0).2.1) ((s_DrawWayTo p_0).2.2)).1).length ∧ w1387.heap.size ≤ w1400.heap.size ∧ lkp L1399 1 = some (.slice A2 p_1.length c2) ∧ lkp L1399 5 = some (.pointer (some ⟨b13, 0, none⟩)) ∧ lkp L1399 8 = some (.slice A28 (((i_WayTo ((s_DrawWayTo p_0).1) ((s_DrawWayTo p_0).2.1) ((s_DrawWayTo p_0).2.2)).1).length) c28) ∧ lkp L1399 20 = some (.int .i64 ((k1397 : Int))) ∧ RdS w1400 (Iv 0 w.heap.size) (RF e_U8) 1 A2 p_1.length c2 p_1 ∧ Box w1400 b13 26 [.string (bs ((s_DrawWayTo p_0).1.Name)), .slice A6 (((s_DrawWayTo p_0).1.Cols).length) c6, .slice A7 (((s_DrawWayTo p_0).1.Idxs).length) c7] ∧ RdS w1400 (Iv w.heap.size w5.heap.size) (RF e_Str) 1 A6 ((s_DrawWayTo p_0).1.Cols).length c6 ((s_DrawWayTo p_0).1.Cols) ∧ OwnL w1400 lo7 hi7 35 3 (RF e_Idx) A7 (((s_DrawWayTo p_0).1.Idxs).length) c7 ((s_DrawWayTo p_0).1.Idxs) ∧ OwnD w1400 lo28 hi28 26 3 RO_Table A28 (((i_WayTo ((s_DrawWayTo p_0).1) ((s_DrawWayTo p_0).2.1) ((s_DrawWayTo p_0).2.2)).1).length) c28 ((i_WayTo ((s_DrawWayTo p_0).1) ((s_DrawWayTo p_0).2.1) ((s_DrawWayTo p_0).2.2)).1) ∧ Ex w w1400 ∧ 1 ≤ (k1397 : Int) ∧ loopM (B_l_FnTables_0 p_0 p_1) (((i_WayTo ((s_DrawWayTo p_0).1) ((s_DrawWayTo p_0).2.1) ((s_DrawWayTo p_0).2.2)).1).length - k1397) k1397 () = loopM (B_l_FnTables_0 p_0 p_1) (((i_WayTo ((s_DrawWayTo p_0).1) ((s_DrawWayTo p_0).2.1) ((s_DrawWayTo p_0).2.2)).1).length - 1) 1 ()) (((i_WayTo ((s_DrawWayTo p_0).1) ((s_DrawWayTo p_0).2.1) ((s_DrawWayTo p_0).2.2)).1).length - 1) ?_ ?_
                ·exact ⟨1, rfl, oM, Nat.le_refl _, rfl, rfl, rfl, rfl, (RdS.ex gU (RdS.ex gU (RdS.only gU (RdS.ex gU (RdS.ex gU q1414 hE129) hE135) hO138 (by simp only [Iv]; omega)) hE825) hE1391), (Box.ex q1191 hE1391), (RdS.ex gS q1192 hE1391), (OwnL.ex gI q1194 hE1391), (OwnD.ex goodO_Table q1187 hE1391), (Ex.trans (Ex.trans (Below.only (Ex.trans (Ex.trans (Below.only (Ex.trans (Ex.trans (Below.only (Ex.trans (Ex.trans (Below.only (Ex.trans (Ex.trans (Ex.trans (Ex.trans (Below.only (Ex.trans (Ex.trans (Ex.refl w) hE11) hE18) hO21 oM) hE31) hE41) hE52) hE61) hO64 oM) hE80) hE89) hO92 oM) hE106) hE112) hO115 oM) hE129) hE135) hO138 oM) hE825) hE1391), Bo, rfl⟩
                ·rintro m1443 L1444 w1445 ⟨k1397, rfl, hk1446, hsz1448, hl1449, hl1450, hl1451, hl1452, hf1453, hf1454, hf1455, hf1456, hf1457, hf1458, hv1459, hI1447⟩
                 refine CW.sub (Sub.cons hl1449 (Sub.cons hl1450 (Sub.cons hl1451 (Sub.cons hl1452 (Sub.nil _))))) ?_
                 have hf1454z := Box.lt hf1454
                 have hf1458z := Ex.size hf1458
                 have hbg1460 := RdS.big (OwnL.rd good_Table (OwnD.own goodO_Table good_Table hf1457))
                 rcases Nat.lt_or_ge k1397 (((i_WayTo ((s_DrawWayTo p_0).1) ((s_DrawWayTo p_0).2.1) ((s_DrawWayTo p_0).2.2)).1).length) with hlt1462 | hlt1462
                 ·refine CW.seq (cR (sM rfl (sM rfl (sd rfl (yL un29 rfl rfl (sd rfl (yl_lss rfl rfl rfl (dn ?_))))))))
                  refine CW.cond_t rfl (lt_t hlt1462) (CW.skip (tn (CW.seq (CW.block (CW.seq ?_)))))
                  obtain ⟨eb1464, eo1464, _, eA1464, _, ebl1464, _, eR1464, eC1464⟩ := RdS.atD (OwnL.rd good_Table (OwnD.own goodO_Table good_Table hf1457)) d_Table (i := (IntKind.wrap .i64 ((k1397 : Int) - 1)).toNat) Bo
                  obtain ⟨A1465, c1465, A1466, c1466, rfl, h1465, h1466⟩ := eR1464
                  obtain ⟨eb1468, eo1468, _, eA1468, _, ebl1468, _, eR1468, eC1468⟩ := RdS.atD (OwnL.rd good_Table (OwnD.own goodO_Table good_Table hf1457)) d_Table (i := k1397) (by first | omega | assumption)
                  obtain ⟨A1469, c1469, A1470, c1470, rfl, h1469, h1470⟩ := eR1468
                  refine drI 15 [.slice A28 (((i_WayTo ((s_DrawWayTo p_0).1) ((s_DrawWayTo p_0).2.1) ((s_DrawWayTo p_0).2.2)).1).length) c28, .int .i64 ((k1397 : Int)), .int .i64 (IntKind.wrap .i64 ((k1397 : Int) - 1)), .pointer (some ⟨eb1464, eo1464 + ((IntKind.wrap .i64 ((k1397 : Int) - 1)).toNat) * 3, none⟩), .agg #[.string (bs ((((i_WayTo ((s_DrawWayTo p_0).1) ((s_DrawWayTo p_0).2.1) ((s_DrawWayTo p_0).2.2)).1).getD ((IntKind.wrap .i64 ((k1397 : Int) - 1)).toNat) d_Table).Name)), .slice A1465 (((((i_WayTo ((s_DrawWayTo p_0).1) ((s_DrawWayTo p_0).2.1) ((s_DrawWayTo p_0).2.2)).1).getD ((IntKind.wrap .i64 ((k1397 : Int) - 1)).toNat) d_Table).Cols).length) c1465, .slice A1466 (((((i_WayTo ((s_DrawWayTo p_0).1) ((s_DrawWayTo p_0).2.1) ((s_DrawWayTo p_0).2.2)).1).getD ((IntKind.wrap .i64 ((k1397 : Int) - 1)).toNat) d_Table).Idxs).length) c1466], .slice A28 (((i_WayTo ((s_DrawWayTo p_0).1) ((s_DrawWayTo p_0).2.1) ((s_DrawWayTo p_0).2.2)).1).length) c28, .int .i64 ((k1397 : Int)), .pointer (some ⟨eb1468, eo1468 + k1397 * 3, none⟩), .agg #[.string (bs ((((i_WayTo ((s_DrawWayTo p_0).1) ((s_DrawWayTo p_0).2.1) ((s_DrawWayTo p_0).2.2)).1).getD k1397 d_Table).Name)), .slice A1469 (((((i_WayTo ((s_DrawWayTo p_0).1) ((s_DrawWayTo p_0).2.1) ((s_DrawWayTo p_0).2.2)).1).getD k1397 d_Table).Cols).length) c1469, .slice A1470 (((((i_WayTo ((s_DrawWayTo p_0).1) ((s_DrawWayTo p_0).2.1) ((s_DrawWayTo p_0).2.2)).1).getD k1397 d_Table).Idxs).length) c1470], .tuple #[.bool ((i_NextTo (((i_WayTo ((s_DrawWayTo p_0).1) ((s_DrawWayTo p_0).2.1) ((s_DrawWayTo p_0).2.2)).1).getD ((IntKind.wrap .i64 ((k1397 : Int) - 1)).toNat) d_Table) (((i_WayTo ((s_DrawWayTo p_0).1) ((s_DrawWayTo p_0).2.1) ((s_DrawWayTo p_0).2.2)).1).getD k1397 d_Table)).1), .bool ((i_NextTo (((i_WayTo ((s_DrawWayTo p_0).1) ((s_DrawWayTo p_0).2.1) ((s_DrawWayTo p_0).2.2)).1).getD ((IntKind.wrap .i64 ((k1397 : Int) - 1)).toNat) d_Table) (((i_WayTo ((s_DrawWayTo p_0).1) ((s_DrawWayTo p_0).2.1) ((s_DrawWayTo p_0).2.2)).1).getD k1397 d_Table)).2)], .tuple #[.bool ((i_NextTo (((i_WayTo ((s_DrawWayTo p_0).1) ((s_DrawWayTo p_0).2.1) ((s_DrawWayTo p_0).2.2)).1).getD ((IntKind.wrap .i64 ((k1397 : Int) - 1)).toNat) d_Table) (((i_WayTo ((s_DrawWayTo p_0).1) ((s_DrawWayTo p_0).2.1) ((s_DrawWayTo p_0).2.2)).1).getD k1397 d_Table)).1), .bool ((i_NextTo (((i_WayTo ((s_DrawWayTo p_0).1) ((s_DrawWayTo p_0).2.1) ((s_DrawWayTo p_0).2.2)).1).getD ((IntKind.wrap .i64 ((k1397 : Int) - 1)).toNat) d_Table) (((i_WayTo ((s_DrawWayTo p_0).1) ((s_DrawWayTo p_0).2.1) ((s_DrawWayTo p_0).2.2)).1).getD k1397 d_Table)).2)], .bool ((i_NextTo (((i_WayTo ((s_DrawWayTo p_0).1) ((s_DrawWayTo p_0).2.1) ((s_DrawWayTo p_0).2.2)).1).getD ((IntKind.wrap .i64 ((k1397 : Int) - 1)).toNat) d_Table) (((i_WayTo ((s_DrawWayTo p_0).1) ((s_DrawWayTo p_0).2.1) ((s_DrawWayTo p_0).2.2)).1).getD k1397 d_Table)).1), .bool ((i_NextTo (((i_WayTo ((s_DrawWayTo p_0).1) ((s_DrawWayTo p_0).2.1) ((s_DrawWayTo p_0).2.2)).1).getD ((IntKind.wrap .i64 ((k1397 : Int) - 1)).toNat) d_Table) (((i_WayTo ((s_DrawWayTo p_0).1) ((s_DrawWayTo p_0).2.1) ((s_DrawWayTo p_0).2.2)).1).getD k1397 d_Table)).2), .bool ((i_NextTo (((i_WayTo ((s_DrawWayTo p_0).1) ((s_DrawWayTo p_0).2.1) ((s_DrawWayTo p_0).2.2)).1).getD ((IntKind.wrap .i64 ((k1397 : Int) - 1)).toNat) d_Table) (((i_WayTo ((s_DrawWayTo p_0).1) ((s_DrawWayTo p_0).2.1) ((s_DrawWayTo p_0).2.2)).1).getD k1397 d_Table)).1), .bool ((i_NextTo (((i_WayTo ((s_DrawWayTo p_0).1) ((s_DrawWayTo p_0).2.1) ((s_DrawWayTo p_0).2.2)).1).getD ((IntKind.wrap .i64 ((k1397 : Int) - 1)).toNat) d_Table) (((i_WayTo ((s_DrawWayTo p_0).1) ((s_DrawWayTo p_0).2.1) ((s_DrawWayTo p_0).2.2)).1).getD k1397 d_Table)).2)] Tryz.follows rfl ⟨?_, ?_, ?_, ?_, ?_, ?_, ?_, ?_, ?_, ?_, ?_, ?_, ?_, ?_, ?_, trivial⟩ ?_
                  ·exact oI rfl fun h => yM rfl (h.old 8 _ rfl rfl) kI
                  ·exact oI rfl fun h => yM rfl (h.old 20 _ rfl rfl) kI
                  ·exact oI rfl fun h => yl_sub rfl (h.dt 1 169 rfl rfl rfl) rfl kI
                  ·intro L1487 w1488 hi1489
                   have hE1490 := hi1489.ex
                   have hE1490z := Ex.size hE1490
                   exact os rfl ((yl_indexAddr un29 ty26 rfl (hi1489.dt 0 168 rfl rfl rfl) (hi1489.dt 2 170 rfl rfl rfl) eA1464 Bo Bo kI))
                  ·exact oI rfl fun h => yl_loadN ty26 rfl (h.dt 3 171 rfl rfl rfl) (Cells.ex eC1464 h.ex) rfl kI
                  ·exact oI rfl fun h => yM rfl (h.old 8 _ rfl rfl) kI
                  ·exact oI rfl fun h => yM rfl (h.old 20 _ rfl rfl) kI
                  ·intro L1509 w1510 hi1511
                   have hE1512 := hi1511.ex
                   have hE1512z := Ex.size hE1512
                   exact os rfl ((yl_ixN un29 ty26 rfl (hi1511.dt 5 173 rfl rfl rfl) (hi1511.dt 6 174 rfl rfl rfl) eA1468 kI))
                  ·exact oI rfl fun h => yl_loadN ty26 rfl (h.dt 7 175 rfl rfl rfl) (Cells.ex eC1468 h.ex) rfl kI
                  ·intro L1521 w1522 hi1523
                   have hE1524 := hi1523.ex
                   exact OpR.op' rfl (yC en15 rfl (oc (hi1523.dt 4 172 rfl rfl rfl) (oc (hi1523.dt 8 176 rfl rfl rfl) oz)) (Cal.mono (c_i_NextTo (((i_WayTo ((s_DrawWayTo p_0).1) ((s_DrawWayTo p_0).2.1) ((s_DrawWayTo p_0).2.2)).1).getD ((IntKind.wrap .i64 ((k1397 : Int) - 1)).toNat) d_Table) (((i_WayTo ((s_DrawWayTo p_0).1) ((s_DrawWayTo p_0).2.1) ((s_DrawWayTo p_0).2.2)).1).getD k1397 d_Table) (RdS.up (RdS.ex gS h1465 hE1524) gS) (RdS.up (RdS.ex gI h1466 hE1524) gI) (RdS.up (RdS.ex gS h1469 hE1524) gS) (RdS.up (RdS.ex gI h1470 hE1524) gI) (okL.getD ho29 ok_d_Table _) (okL.getD ho29 ok_d_Table _)) fun _ _ h => h))
                  ·exact oI rfl fun h => yM rfl (h.dt 9 177 rfl rfl rfl) kI
                  ·exact oI rfl fun h => yl_extract rfl (h.dt 10 167 rfl rfl rfl) rfl kI
                  ·exact oI rfl fun h => yl_extract rfl (h.dt 10 167 rfl rfl rfl) rfl kI
                  ·exact oI rfl fun h => yA rfl (h.dt 11 178 rfl rfl rfl) kI
                  ·exact oI rfl fun h => yA rfl (h.dt 12 179 rfl rfl rfl) kI
                  ·intro fl1562 fh1563 L1559 w1560 hp1561
                   have hE1564 := hp1561.ex
                   have hE1564z := Ex.size hE1564
                   refine dn (CW.sub (sC 1 (hp1561.old 1 _ rfl rfl) (sC 5 (hp1561.old 5 _ rfl rfl) (sC 8 (hp1561.old 8 _ rfl rfl) (sC 20 (hp1561.old 20 _ rfl rfl) (sC 21 (hp1561.nt 13 21 rfl rfl rfl) (sC 22 (hp1561.nt 14 22 rfl rfl rfl) (Sub.nil _))))))) (cR (sM rfl (sd rfl (yl_not rfl rfl (sM rfl (bcase ((i_NextTo (((i_WayTo ((s_DrawWayTo p_0).1) ((s_DrawWayTo p_0).2.1) ((s_DrawWayTo p_0).2.2)).1).getD ((IntKind.wrap .i64 ((k1397 : Int) - 1)).toNat) d_Table) (((i_WayTo ((s_DrawWayTo p_0).1) ((s_DrawWayTo p_0).2.1) ((s_DrawWayTo p_0).2.2)).1).getD k1397 d_Table)).2) (fun hb1571 => ?_) (fun hb1571 => ?_))))))))
                   ·refine sy rfl rfl (not_t hb1571) (yM rfl rfl (sy rfl rfl (not_t hb1571) (yl_not rfl rfl (sd rfl (yl_pick_f rfl rfl (not_t hb1571) rfl (dn (bcase ((i_NextTo (((i_WayTo ((s_DrawWayTo p_0).1) ((s_DrawWayTo p_0).2.1) ((s_DrawWayTo p_0).2.2)).1).getD ((IntKind.wrap .i64 ((k1397 : Int) - 1)).toNat) d_Table) (((i_WayTo ((s_DrawWayTo p_0).1) ((s_DrawWayTo p_0).2.1) ((s_DrawWayTo p_0).2.2)).1).getD k1397 d_Table)).1) (fun hb1572 => ?_) (fun hb1572 => ?_))))))))
                    ·refine CW.cond_f rfl (not_t hb1572) (CW.skip (bn (tn (CW.region (sM rfl (sd rfl (yl_inc rfl rfl rfl oM (sA rfl (SeqR.done ?_)))))))))
                     refine tn ?_
                     have hB1573 : B_l_FnTables_0 p_0 p_1 k1397 () = .cont () := by first | (simp only [B_l_FnTables_0, hb3, hb139, hb168, hb197, hb284, hb371, hb461, hb832, hb833, hb834, hb1003, hb1185, hb1396, hb1571, hb1572, cL]; done) | (simp only [B_l_FnTables_0, hb139, cL] <;> simp only [hb3, hb168, hb197, hb284, hb371, hb461, hb832, hb833, hb834, hb1003, hb1185, hb1396, hb1571, hb1572, cL])
                     exact ⟨((i_WayTo ((s_DrawWayTo p_0).1) ((s_DrawWayTo p_0).2.1) ((s_DrawWayTo p_0).2.2)).1).length - (k1397 + 1), oM, k1397 + 1, rfl, hlt1462, oM, rfl, rfl, rfl, rfl, (RdS.ex gU hf1453 hE1564), (Box.ex hf1454 hE1564), (RdS.ex gS hf1455 hE1564), (OwnL.ex gI hf1456 hE1564), (OwnD.ex goodO_Table hf1457 hE1564), (Ex.trans hf1458 hE1564), Bo, (loopM.cont hlt1462 hB1573).symm.trans hI1447⟩
                    ·refine CW.cond_t rfl (not_f hb1572) (cR (sA rfl (dn (CW.ret (br (tr ?_))))))
                     refine tr ?_
                     have hB1581 : B_l_FnTables_0 p_0 p_1 k1397 () = .ret false := by first | (simp only [B_l_FnTables_0, hb3, hb139, hb168, hb197, hb284, hb371, hb461, hb832, hb833, hb834, hb1003, hb1185, hb1396, hb1571, hb1572, cL]; done) | (simp only [B_l_FnTables_0, hb139, cL] <;> simp only [hb3, hb168, hb197, hb284, hb371, hb461, hb832, hb833, hb834, hb1003, hb1185, hb1396, hb1571, hb1572, cL])
                     have hL1580 : loopM (B_l_FnTables_0 p_0 p_1) (((i_WayTo ((s_DrawWayTo p_0).1) ((s_DrawWayTo p_0).2.1) ((s_DrawWayTo p_0).2.2)).1).length - 1) 1 () = .ret false := hI1447.symm.trans (loopM.ret hlt1462 hB1581)
                     refine br (tr (tr (rr rfl (.cons rfl .nil) ?_)))
                     have hM1582 : (l_FnTables p_0 p_1) = (false) := by first | (simp only [l_FnTables, hb3, hb139, hb168, hb197, hb284, hb371, hb461, hb832, hb833, hb834, hb1003, hb1185, hb1396, hb1571, hb1572, hL1580, cL]; done) | (simp only [l_FnTables, hb139, hL1580, cL] <;> simp only [hb3, hb168, hb197, hb284, hb371, hb461, hb832, hb833, hb834, hb1003, hb1185, hb1396, hb1571, hb1572, hL1580, cL])
                     rw [hM1582]
                     exact ⟨rfl, (Ex.trans hf1458 hE1564)⟩
                   ·refine sz rfl rfl (not_f hb1571) (sz rfl rfl (not_f hb1571) (sd rfl (yl_pick_t rfl rfl (not_f hb1571) rfl (dn (CW.cond_t rfl rfl (cR (sA rfl ?_)))))))
                    refine dn (CW.ret (br (tr (tr ?_))))
                    have hB1585 : B_l_FnTables_0 p_0 p_1 k1397 () = .ret false := by first | (simp only [B_l_FnTables_0, hb3, hb139, hb168, hb197, hb284, hb371, hb461, hb832, hb833, hb834, hb1003, hb1185, hb1396, hb1571, cL]; done) | (simp only [B_l_FnTables_0, hb139, cL] <;> simp only [hb3, hb168, hb197, hb284, hb371, hb461, hb832, hb833, hb834, hb1003, hb1185, hb1396, hb1571, cL])
                    have hL1584 : loopM (B_l_FnTables_0 p_0 p_1) (((i_WayTo ((s_DrawWayTo p_0).1) ((s_DrawWayTo p_0).2.1) ((s_DrawWayTo p_0).2.2)).1).length - 1) 1 () = .ret false := hI1447.symm.trans (loopM.ret hlt1462 hB1585)
                    refine br (tr (tr (rr rfl (.cons rfl .nil) ?_)))
                    have hM1586 : (l_FnTables p_0 p_1) = (false) := by first | (simp only [l_FnTables, hb3, hb139, hb168, hb197, hb284, hb371, hb461, hb832, hb833, hb834, hb1003, hb1185, hb1396, hb1571, hL1584, cL]; done) | (simp only [l_FnTables, hb139, hL1584, cL] <;> simp only [hb3, hb168, hb197, hb284, hb371, hb461, hb832, hb833, hb834, hb1003, hb1185, hb1396, hb1571, hL1584, cL])
                    rw [hM1586]
                    exact ⟨rfl, (Ex.trans hf1458 hE1564)⟩
                 ·refine CW.seq (cR (sM rfl (sM rfl (sd rfl (yL un29 rfl rfl (sd rfl (yl_lss rfl rfl rfl (dn ?_))))))))
                  refine CW.cond_f rfl (lt_f hlt1462) (CW.exit (tx (tx ?_)))
                  have hL1588 : loopM (B_l_FnTables_0 p_0 p_1) (((i_WayTo ((s_DrawWayTo p_0).1) ((s_DrawWayTo p_0).2.1) ((s_DrawWayTo p_0).2.2)).1).length - 1) 1 () = .done () := hI1447.symm.trans (loopM.stop hlt1462)
                  refine bx (tn (cR (sd rfl (yl_loadN ty26 rfl rfl (hf1454.cells (n := 3) rfl) rfl (sd rfl (yC en16 rfl (oc rfl oz) (Cal.mono (c_i_TableText ((s_DrawWayTo p_0).1) (RdS.up hf1455 gS) (RdS.up (OwnL.rd gI hf1456) gI) ho8) ?_)))))))
                  rintro v1591 w1590 ⟨rfl, hE1592⟩
                  have hE1592z := Ex.size hE1592
                  refine sM rfl (sd rfl (yl_extract rfl rfl rfl (sd rfl (yl_extract rfl rfl rfl (sA rfl (sA rfl (dn (cR ?_))))))))
                  refine sM rfl ?_
                  have q1593 := Ex.trans hf1458 hE1592
                  refine sd rfl (yC en17 rfl (oc rfl oz) (Cal.mono (c_i_ReadTable ((i_TableText ((s_DrawWayTo p_0).1)).1) (okS_TableText _) (GB.ex hgb q1593)) ?_))
                  rintro v1598 w1594 ⟨A1595, c1595, lo1595, hi1595, A1596, c1596, lo1596, hi1596, rfl, h1595, h1596, ho1597, hrn1600, hrn1601, hrn1602, hE1599⟩
                  have hE1599z := Ex.size hE1599
                  refine sM rfl (sd rfl (yl_extract rfl rfl rfl (sd rfl (yl_extract rfl rfl rfl (sd rfl (yB ty26 (cs := [.string (bs (([] : Str))), .slice none 0 0, .slice none 0 0]) rfl rfl ?_))))))
                  intro b1603 w1604 hs1605 hz1606 hB1607 hE1608
                  refine SeqR.u rfl rfl (yl_store (vs := [.string (bs ((i_ReadTable ((i_TableText ((s_DrawWayTo p_0).1)).1)).1.Name)), .slice A1595 (((i_ReadTable ((i_TableText ((s_DrawWayTo p_0).1)).1)).1.Cols).length) c1595, .slice A1596 (((i_ReadTable ((i_TableText ((s_DrawWayTo p_0).1)).1)).1.Idxs).length) c1596]) ty26 rfl rfl rfl rfl rfl rfl hB1607 (nb rfl) ?_)
                  intro w1609 hB1610 hO1611
                  have hB1610 : Box w1609 b1603 26 [.string (bs ((i_ReadTable ((i_TableText ((s_DrawWayTo p_0).1)).1)).1.Name)), .slice A1595 (((i_ReadTable ((i_TableText ((s_DrawWayTo p_0).1)).1)).1.Cols).length) c1595, .slice A1596 (((i_ReadTable ((i_TableText ((s_DrawWayTo p_0).1)).1)).1.Idxs).length) c1596] := hB1610
                  have hO1611z := hO1611.size
                  refine sA rfl (dn (cR (sM rfl (sd rfl (yl_not rfl rfl (sM rfl (bcase ((i_TableText ((s_DrawWayTo p_0).1)).2) (fun hb1612 => ?_) (fun hb1612 => ?_))))))))
                  ·refine sy rfl rfl (not_t hb1612) (yM rfl rfl (sy rfl rfl (not_t hb1612) (yl_not rfl rfl (sd rfl (yl_pick_f rfl rfl (not_t hb1612) rfl (sM rfl (bcase ((i_ReadTable ((i_TableText ((s_DrawWayTo p_0).1)).1)).2) (fun hb1613 => ?_) (fun hb1613 => ?_))))))))
                   ·refine sy rfl rfl (not_t hb1613) (yl_loadN ty26 rfl rfl (hB1610.cells (n := 3) rfl) rfl (sy rfl rfl (not_t hb1613) (yl_loadN ty26 rfl rfl ((Box.only (Box.ex (Box.ex (Box.ex hf1454 hE1592) hE1599) hE1608) hO1611 oM).cells (n := 3) rfl) rfl (sy rfl rfl (not_t hb1613) (yC en12 rfl (oc rfl (oc rfl oz)) (Cal.mono (c_l_qSameT ((i_ReadTable ((i_TableText ((s_DrawWayTo p_0).1)).1)).1) ((s_DrawWayTo p_0).1) (RdS.up (OwnL.rd gS (OwnL.only gS (OwnL.ex gS h1595 hE1608) hO1611 oM)) gS) (RdS.up (OwnL.rd gI (OwnL.only gI (OwnL.ex gI h1596 hE1608) hO1611 oM)) gI) (RdS.up (RdS.only gS (RdS.ex gS (RdS.ex gS (RdS.ex gS hf1455 hE1592) hE1599) hE1608) hO1611 (by simp only [Iv]; omega)) gS) (RdS.up (OwnL.rd gI (OwnL.only gI (OwnL.ex gI (OwnL.ex gI (OwnL.ex gI hf1456 hE1592) hE1599) hE1608) hO1611 oM)) gI) ho1597 ho8) ?_))))))
                    rintro v1634 w1633 ⟨rfl, hE1635⟩
                    have hE1635z := Ex.size hE1635
                    refine sy rfl rfl (not_t hb1613) (yl_not rfl rfl (sd rfl (yl_pick_f rfl rfl (not_t hb1613) rfl (dn (bcase (l_qSameT ((i_ReadTable ((i_TableText ((s_DrawWayTo p_0).1)).1)).1) ((s_DrawWayTo p_0).1)) (fun hb1636 => ?_) (fun hb1636 => ?_))))))
                    ·refine CW.cond_f rfl (not_t hb1636) (CW.skip (tn (cR (sM rfl ?_))))
                     have q1641 := RdS.ex gU (RdS.only gU (RdS.ex gU (RdS.ex gU (RdS.ex gU hf1453 hE1592) hE1599) hE1608) hO1611 (by simp only [Iv]; omega)) hE1635
                     refine sd rfl (yC en18 rfl (oc rfl oz) (Cal.mono (c_s_DrawNextTo p_1 (RdS.up q1641 gU) (okL.mk (xs := p_1) (by first | omega | (simp only [lN]; omega)) fun _ _ => trivial) (by assumption)) ?_))
                     rintro v1649 w1642 ⟨A1643, c1643, A1644, c1644, lo1644, hi1644, A1645, c1645, lo1645, hi1645, A1646, c1646, lo1646, hi1646, rfl, h1643, h1644, h1645, h1646, ho1647, ho1648, hrn1651, hrn1652, hrn1653, hrn1654, hrn1655, hrn1656, hE1650⟩
                     have hE1650z := Ex.size hE1650
                     refine sM rfl (sd rfl (yl_extract rfl rfl rfl (sd rfl (yl_extract rfl rfl rfl (sd rfl (yB ty26 (cs := [.string (bs (([] : Str))), .slice none 0 0, .slice none 0 0]) rfl rfl ?_))))))
                     intro b1657 w1658 hs1659 hz1660 hB1661 hE1662
                     refine sd rfl (yB ty26 (cs := [.string (bs (([] : Str))), .slice none 0 0, .slice none 0 0]) rfl rfl ?_)
                     intro b1663 w1664 hs1665 hz1666 hB1667 hE1668
                     refine SeqR.u rfl rfl (yl_store (vs := [.string (bs ((s_DrawNextTo p_1).1.Name)), .slice A1643 (((s_DrawNextTo p_1).1.Cols).length) c1643, .slice A1644 (((s_DrawNextTo p_1).1.Idxs).length) c1644]) ty26 rfl rfl rfl rfl rfl rfl (Box.ex hB1661 hE1668) (nb rfl) ?_)
                     intro w1670 hB1671 hO1672
                     have hB1671 : Box w1670 b1657 26 [.string (bs ((s_DrawNextTo p_1).1.Name)), .slice A1643 (((s_DrawNextTo p_1).1.Cols).length) c1643, .slice A1644 (((s_DrawNextTo p_1).1.Idxs).length) c1644] := hB1671
                     have hO1672z := hO1672.size
                     refine SeqR.u rfl rfl (yl_store (vs := [.string (bs ((s_DrawNextTo p_1).2.Name)), .slice A1645 (((s_DrawNextTo p_1).2.Cols).length) c1645, .slice A1646 (((s_DrawNextTo p_1).2.Idxs).length) c1646]) ty26 rfl rfl rfl rfl rfl rfl (Box.only hB1667 hO1672 oM) (nb rfl) ?_)
                     intro w1674 hB1675 hO1676
                     have hB1675 : Box w1674 b1663 26 [.string (bs ((s_DrawNextTo p_1).2.Name)), .slice A1645 (((s_DrawNextTo p_1).2.Cols).length) c1645, .slice A1646 (((s_DrawNextTo p_1).2.Idxs).length) c1646] := hB1675
                     have hO1676z := hO1676.size
                     refine dn (cR ?_)
                     have q1677 := Box.only hB1671 hO1676 oM
                     refine sd rfl (yl_loadN ty26 rfl rfl (q1677.cells (n := 3) rfl) rfl (sd rfl (yl_loadN ty26 rfl rfl (hB1675.cells (n := 3) rfl) rfl ?_)))
                     have q1681 := RdS.only gS (RdS.only gS (RdS.ex gS (RdS.ex gS h1643 hE1662) hE1668) hO1672 (by simp only [Iv]; omega)) hO1676 (by simp only [Iv]; omega)
                     have q1686 := OwnL.only gI (OwnL.only gI (OwnL.ex gI (OwnL.ex gI h1644 hE1662) hE1668) hO1672 oM) hO1676 oM
                     have q1691 := OwnL.only gS (OwnL.only gS (OwnL.ex gS (OwnL.ex gS h1645 hE1662) hE1668) hO1672 oM) hO1676 oM
                     have q1696 := OwnL.only gI (OwnL.only gI (OwnL.ex gI (OwnL.ex gI h1646 hE1662) hE1668) hO1672 oM) hO1676 oM
                     refine sd rfl (yC en15 rfl (oc rfl (oc rfl oz)) (Cal.mono (c_i_NextTo ((s_DrawNextTo p_1).1) ((s_DrawNextTo p_1).2) (RdS.up q1681 gS) (RdS.up (OwnL.rd gI q1686) gI) (RdS.up (OwnL.rd gS q1691) gS) (RdS.up (OwnL.rd gI q1696) gI) ho1647 ho1648) ?_))
                     rintro v1698 w1697 ⟨rfl, hE1699⟩
                     have hE1699z := Ex.size hE1699
                     refine sM rfl (sd rfl (yl_extract rfl rfl rfl (sd rfl (yl_extract rfl rfl rfl (sA rfl (sA rfl (dn (cR ?_))))))))
                     refine sd rfl (yl_loadN ty26 rfl rfl ((Box.ex q1677 hE1699).cells (n := 3) rfl) rfl (sd rfl (yl_loadN ty26 rfl rfl ((Box.ex hB1675 hE1699).cells (n := 3) rfl) rfl (sd rfl (yC en19 rfl (oc rfl (oc rfl oz)) (Cal.mono (c_s_NextTo ((s_DrawNextTo p_1).1) ((s_DrawNextTo p_1).2) (RdS.up (RdS.ex gS q1681 hE1699) gS) (RdS.up (OwnL.rd gI (OwnL.ex gI q1686 hE1699)) gI) (RdS.up (OwnL.rd gS (OwnL.ex gS q1691 hE1699)) gS) (RdS.up (OwnL.rd gI (OwnL.ex gI q1696 hE1699)) gI) ho1647 ho1648) ?_))))))
                     rintro v1710 w1709 ⟨rfl, hE1711⟩
                     have hE1711z := Ex.size hE1711
                     refine sM rfl (sd rfl (yl_extract rfl rfl rfl (sd rfl (yl_extract rfl rfl rfl (sA rfl (sA rfl (dn (cR ?_))))))))
                     refine sM rfl ?_
                     have q1718 := RdS.ex gU (RdS.ex gU (RdS.only gU (RdS.only gU (RdS.ex gU (RdS.ex gU (RdS.ex gU q1641 hE1650) hE1662) hE1668) hO1672 (by simp only [Iv]; omega)) hO1676 (by simp only [Iv]; omega)) hE1699) hE1711
                     refine sd rfl (yC en20 rfl (oc rfl oz) (Cal.mono (c_s_DrawReadTable p_1 (RdS.up q1718 gU) (okL.mk (xs := p_1) (by first | omega | (simp only [lN]; omega)) fun _ _ => trivial) (by assumption)) ?_))
                     rintro v1721 w1719 ⟨rfl, ho1720, hE1722⟩
                     have hE1722z := Ex.size hE1722
                     refine sA rfl (dn (cR (sM rfl ?_)))
                     have q1734 := Ex.trans (Ex.trans (Ex.trans (Below.only (Below.only (Ex.trans (Ex.trans (Ex.trans (Ex.trans (Below.only (Ex.trans (Ex.trans q1593 hE1599) hE1608) hO1611 oM) hE1635) hE1650) hE1662) hE1668) hO1672 oM) hO1676 oM) hE1699) hE1711) hE1722
                     refine sd rfl (yC en17 rfl (oc rfl oz) (Cal.mono (c_i_ReadTable (s_DrawReadTable p_1) ho1720 (GB.ex hgb q1734)) ?_))
                     rintro v1739 w1735 ⟨A1736, c1736, lo1736, hi1736, A1737, c1737, lo1737, hi1737, rfl, h1736, h1737, ho1738, hrn1741, hrn1742, hrn1743, hE1740⟩
                     have hE1740z := Ex.size hE1740
                     refine sM rfl (sd rfl (yl_extract rfl rfl rfl (sd rfl (yl_extract rfl rfl rfl (sd rfl (yB ty26 (cs := [.string (bs (([] : Str))), .slice none 0 0, .slice none 0 0]) rfl rfl ?_))))))
                     intro b1744 w1745 hs1746 hz1747 hB1748 hE1749
                     refine SeqR.u rfl rfl (yl_store (vs := [.string (bs ((i_ReadTable (s_DrawReadTable p_1)).1.Name)), .slice A1736 (((i_ReadTable (s_DrawReadTable p_1)).1.Cols).length) c1736, .slice A1737 (((i_ReadTable (s_DrawReadTable p_1)).1.Idxs).length) c1737]) ty26 rfl rfl rfl rfl rfl rfl hB1748 (nb rfl) ?_)
                     intro w1750 hB1751 hO1752
                     have hB1751 : Box w1750 b1744 26 [.string (bs ((i_ReadTable (s_DrawReadTable p_1)).1.Name)), .slice A1736 (((i_ReadTable (s_DrawReadTable p_1)).1.Cols).length) c1736, .slice A1737 (((i_ReadTable (s_DrawReadTable p_1)).1.Idxs).length) c1737] := hB1751
                     have hO1752z := hO1752.size
                     refine sA rfl (dn (cR (sM rfl (sd rfl (yC en21 rfl (oc rfl oz) (Cal.mono (c_s_ReadTable (s_DrawReadTable p_1) ho1720) ?_))))))
                     rintro v1757 w1753 ⟨A1754, c1754, lo1754, hi1754, A1755, c1755, lo1755, hi1755, rfl, h1754, h1755, ho1756, hrn1759, hrn1760, hrn1761, hE1758⟩
                     have hE1758z := Ex.size hE1758
                     refine sM rfl (sd rfl (yl_extract rfl rfl rfl (sd rfl (yl_extract rfl rfl rfl (sd rfl (yB ty26 (cs := [.string (bs (([] : Str))), .slice none 0 0, .slice none 0 0]) rfl rfl ?_))))))
                     intro b1762 w1763 hs1764 hz1765 hB1766 hE1767
                     refine SeqR.u rfl rfl (yl_store (vs := [.string (bs ((s_ReadTable (s_DrawReadTable p_1)).1.Name)), .slice A1754 (((s_ReadTable (s_DrawReadTable p_1)).1.Cols).length) c1754, .slice A1755 (((s_ReadTable (s_DrawReadTable p_1)).1.Idxs).length) c1755]) ty26 rfl rfl rfl rfl rfl rfl hB1766 (nb rfl) ?_)
                     intro w1768 hB1769 hO1770
                     have hB1769 : Box w1768 b1762 26 [.string (bs ((s_ReadTable (s_DrawReadTable p_1)).1.Name)), .slice A1754 (((s_ReadTable (s_DrawReadTable p_1)).1.Cols).length) c1754, .slice A1755 (((s_ReadTable (s_DrawReadTable p_1)).1.Idxs).length) c1755] := hB1769
                     have hO1770z := hO1770.size
                     refine sA rfl (dn (cR (sM rfl (sd rfl (yC en22 rfl (oc rfl oz) (Cal.mono (c_s_DrawColAt p_1 (RdS.up (RdS.only gU (RdS.ex gU (RdS.ex gU (RdS.only gU (RdS.ex gU (RdS.ex gU (RdS.ex gU q1718 hE1722) hE1740) hE1749) hO1752 (by simp only [Iv]; omega)) hE1758) hE1767) hO1770 (by simp only [Iv]; omega)) gU) (okL.mk (xs := p_1) (by first | omega | (simp only [lN]; omega)) fun _ _ => trivial) (by assumption)) ?_))))))
                     rintro v1783 w1778 ⟨A1779, c1779, A1780, c1780, lo1780, hi1780, rfl, h1779, h1780, ho1781, ho1782, hrn1785, hE1784⟩
                     have hE1784z := Ex.size hE1784
                     refine sM rfl (sd rfl (yl_extract rfl rfl rfl (sd rfl (yl_extract rfl rfl rfl (sd rfl (yB ty26 (cs := [.string (bs (([] : Str))), .slice none 0 0, .slice none 0 0]) rfl rfl ?_))))))
                     intro b1786 w1787 hs1788 hz1789 hB1790 hE1791
                     refine SeqR.u rfl rfl (yl_store (vs := [.string (bs ((s_DrawColAt p_1).1.Name)), .slice A1779 (((s_DrawColAt p_1).1.Cols).length) c1779, .slice A1780 (((s_DrawColAt p_1).1.Idxs).length) c1780]) ty26 rfl rfl rfl rfl rfl rfl hB1790 (nb rfl) ?_)
                     intro w1792 hB1793 hO1794
                     have hB1793 : Box w1792 b1786 26 [.string (bs ((s_DrawColAt p_1).1.Name)), .slice A1779 (((s_DrawColAt p_1).1.Cols).length) c1779, .slice A1780 (((s_DrawColAt p_1).1.Idxs).length) c1780] := hB1793
                     have hO1794z := hO1794.size
                     refine sA rfl (dn (cR (sd rfl (yl_loadN ty26 rfl rfl (hB1793.cells (n := 3) rfl) rfl (sM rfl ?_)))))
                     have q1796 := RdS.only gS (RdS.ex gS h1779 hE1791) hO1794 (by simp only [Iv]; omega)
                     have q1799 := OwnL.only gI (OwnL.ex gI h1780 hE1791) hO1794 oM
                     refine sd rfl (yC en23 rfl (oc rfl (oc rfl oz)) (Cal.mono (c_i_ColAt ((s_DrawColAt p_1).1) ((s_DrawColAt p_1).2) (RdS.up q1796 gS) (RdS.up (OwnL.rd gI q1799) gI) ho1781 ho1782) ?_))
                     rintro v1801 w1800 ⟨rfl, hE1802⟩
                     have hE1802z := Ex.size hE1802
                     refine sM rfl (sd rfl (yl_extract rfl rfl rfl (sd rfl (yl_extract rfl rfl rfl (sA rfl (sA rfl (dn (cR ?_))))))))
                     refine sd rfl (yl_loadN ty26 rfl rfl ((Box.ex hB1793 hE1802).cells (n := 3) rfl) rfl (sM rfl (sd rfl (yC en24 rfl (oc rfl (oc rfl oz)) (Cal.mono (c_s_ColAt ((s_DrawColAt p_1).1) ((s_DrawColAt p_1).2) (RdS.up (RdS.ex gS q1796 hE1802) gS) (RdS.up (OwnL.rd gI (OwnL.ex gI q1799 hE1802)) gI) ho1781 ho1782) ?_)))))
                     rintro v1808 w1807 ⟨rfl, hE1809⟩
                     have hE1809z := Ex.size hE1809
                     refine sM rfl (sd rfl (yl_extract rfl rfl rfl (sd rfl (yl_extract rfl rfl rfl (sA rfl (sA rfl (dn (cR ?_))))))))
                     refine sM rfl (sM rfl (sd rfl (yl_beql un4 rfl rfl rfl (sM rfl (bcase (((i_NextTo ((s_DrawNextTo p_1).1) ((s_DrawNextTo p_1).2)).2) == ((s_NextTo ((s_DrawNextTo p_1).1) ((s_DrawNextTo p_1).2)).2)) (fun hb1810 => ?_) (fun hb1810 => ?_))))))
                     ·refine sy rfl rfl hb1810 (yM rfl rfl (sy rfl rfl hb1810 (yM rfl rfl (sy rfl rfl hb1810 (yl_beql un4 rfl rfl rfl (sd rfl (yl_pick_t rfl rfl hb1810 rfl (sM rfl (bcase (((i_NextTo ((s_DrawNextTo p_1).1) ((s_DrawNextTo p_1).2)).1) == ((s_NextTo ((s_DrawNextTo p_1).1) ((s_DrawNextTo p_1).2)).1)) (fun hb1811 => ?_) (fun hb1811 => ?_))))))))))
                      ·refine sy rfl rfl hb1811 (yM rfl rfl (sy rfl rfl hb1811 (yM rfl rfl (sy rfl rfl hb1811 (yl_beql un4 rfl rfl rfl (sd rfl (yl_pick_t rfl rfl hb1811 rfl (sM rfl (bcase (((i_ReadTable (s_DrawReadTable p_1)).2) == ((s_ReadTable (s_DrawReadTable p_1)).2)) (fun hb1812 => ?_) (fun hb1812 => ?_))))))))))
                       ·refine sy rfl rfl hb1812 (yl_loadN ty26 rfl rfl ((Box.ex (Box.ex (Box.only (Box.ex (Box.ex (Box.only (Box.ex (Box.ex hB1751 hE1758) hE1767) hO1770 oM) hE1784) hE1791) hO1794 oM) hE1802) hE1809).cells (n := 3) rfl) rfl (sy rfl rfl hb1812 (yl_loadN ty26 rfl rfl ((Box.ex (Box.ex (Box.only (Box.ex (Box.ex hB1769 hE1784) hE1791) hO1794 oM) hE1802) hE1809).cells (n := 3) rfl) rfl (sy rfl rfl hb1812 (yC en12 rfl (oc rfl (oc rfl oz)) (Cal.mono (c_l_qSameT ((i_ReadTable (s_DrawReadTable p_1)).1) ((s_ReadTable (s_DrawReadTable p_1)).1) (RdS.up (OwnL.rd gS (OwnL.ex gS (OwnL.ex gS (OwnL.only gS (OwnL.ex gS (OwnL.ex gS (OwnL.only gS (OwnL.ex gS (OwnL.ex gS (OwnL.only gS (OwnL.ex gS h1736 hE1749) hO1752 oM) hE1758) hE1767) hO1770 oM) hE1784) hE1791) hO1794 oM) hE1802) hE1809)) gS) (RdS.up (OwnL.rd gI (OwnL.ex gI (OwnL.ex gI (OwnL.only gI (OwnL.ex gI (OwnL.ex gI (OwnL.only gI (OwnL.ex gI (OwnL.ex gI (OwnL.only gI (OwnL.ex gI h1737 hE1749) hO1752 oM) hE1758) hE1767) hO1770 oM) hE1784) hE1791) hO1794 oM) hE1802) hE1809)) gI) (RdS.up (OwnL.rd gS (OwnL.ex gS (OwnL.ex gS (OwnL.only gS (OwnL.ex gS (OwnL.ex gS (OwnL.only gS (OwnL.ex gS h1754 hE1767) hO1770 oM) hE1784) hE1791) hO1794 oM) hE1802) hE1809)) gS) (RdS.up (OwnL.rd gI (OwnL.ex gI (OwnL.ex gI (OwnL.only gI (OwnL.ex gI (OwnL.ex gI (OwnL.only gI (OwnL.ex gI h1755 hE1767) hO1770 oM) hE1784) hE1791) hO1794 oM) hE1802) hE1809)) gI) ho1738 ho1756) ?_))))))
                        rintro v1865 w1864 ⟨rfl, hE1866⟩
                        have hE1866z := Ex.size hE1866
                        refine sd rfl (yl_pick_t rfl rfl hb1812 rfl (sM rfl (bcase (l_qSameT ((i_ReadTable (s_DrawReadTable p_1)).1) ((s_ReadTable (s_DrawReadTable p_1)).1)) (fun hb1867 => ?_) (fun hb1867 => ?_))))
                        ·refine sy rfl rfl hb1867 (yM rfl rfl (sy rfl rfl hb1867 (yM rfl rfl (sy rfl rfl hb1867 (yl_beql un4 rfl rfl rfl (sd rfl (yl_pick_t rfl rfl hb1867 rfl (sM rfl (bcase (((i_ColAt ((s_DrawColAt p_1).1) ((s_DrawColAt p_1).2)).2) == ((s_ColAt ((s_DrawColAt p_1).1) ((s_DrawColAt p_1).2)).2)) (fun hb1868 => ?_) (fun hb1868 => ?_))))))))))
                         ·refine sy rfl rfl hb1868 (yM rfl rfl (sy rfl rfl hb1868 (yM rfl rfl (sy rfl rfl hb1868 (yl_eql rfl rfl rfl (sd rfl (yl_pick_t rfl rfl hb1868 rfl (sA rfl (dn (CW.ret (rr rfl (.cons rfl .nil) ?_)))))))))))
                          have hM1869 : (l_FnTables p_0 p_1) = (decide (((i_ColAt ((s_DrawColAt p_1).1) ((s_DrawColAt p_1).2)).1) = ((s_ColAt ((s_DrawColAt p_1).1) ((s_DrawColAt p_1).2)).1))) := by first | (simp only [l_FnTables, hb3, hb139, hb168, hb197, hb284, hb371, hb461, hb832, hb833, hb834, hb1003, hb1185, hb1396, hb1612, hb1613, hb1636, hb1810, hb1811, hb1812, hb1867, hb1868, hL1588, cL]; done) | (simp only [l_FnTables, hb139, hL1588, cL] <;> simp only [hb3, hb168, hb197, hb284, hb371, hb461, hb832, hb833, hb834, hb1003, hb1185, hb1396, hb1612, hb1613, hb1636, hb1810, hb1811, hb1812, hb1867, hb1868, hL1588, cL])
                          rw [hM1869]
                          exact ⟨rfl, (Ex.trans (Ex.trans (Ex.trans (Below.only (Ex.trans (Ex.trans (Below.only (Ex.trans (Ex.trans (Below.only (Ex.trans (Ex.trans q1734 hE1740) hE1749) hO1752 oM) hE1758) hE1767) hO1770 oM) hE1784) hE1791) hO1794 oM) hE1802) hE1809) hE1866)⟩
                         ·refine sz rfl rfl hb1868 (sz rfl rfl hb1868 (sz rfl rfl hb1868 (sd rfl (yl_pick_f rfl rfl hb1868 rfl (sA rfl (dn (CW.ret (rr rfl (.cons rfl .nil) ?_))))))))
                          have hM1882 : (l_FnTables p_0 p_1) = (false) := by first | (simp only [l_FnTables, hb3, hb139, hb168, hb197, hb284, hb371, hb461, hb832, hb833, hb834, hb1003, hb1185, hb1396, hb1612, hb1613, hb1636, hb1810, hb1811, hb1812, hb1867, hb1868, hL1588, cL]; done) | (simp only [l_FnTables, hb139, hL1588, cL] <;> simp only [hb3, hb168, hb197, hb284, hb371, hb461, hb832, hb833, hb834, hb1003, hb1185, hb1396, hb1612, hb1613, hb1636, hb1810, hb1811, hb1812, hb1867, hb1868, hL1588, cL])
                          rw [hM1882]
                          exact ⟨rfl, (Ex.trans (Ex.trans (Ex.trans (Below.only (Ex.trans (Ex.trans (Below.only (Ex.trans (Ex.trans (Below.only (Ex.trans (Ex.trans q1734 hE1740) hE1749) hO1752 oM) hE1758) hE1767) hO1770 oM) hE1784) hE1791) hO1794 oM) hE1802) hE1809) hE1866)⟩
                        ·refine sz rfl rfl hb1867 (sz rfl rfl hb1867 (sz rfl rfl hb1867 (sd rfl (yl_pick_f rfl rfl hb1867 rfl (sM rfl (sz rfl rfl rfl (sz rfl rfl rfl (sz rfl rfl rfl (sd rfl (yl_pick_f rfl rfl rfl rfl ?_))))))))))
                         refine sA rfl (dn (CW.ret (rr rfl (.cons rfl .nil) ?_)))
                         have hM1895 : (l_FnTables p_0 p_1) = (false) := by first | (simp only [l_FnTables, hb3, hb139, hb168, hb197, hb284, hb371, hb461, hb832, hb833, hb834, hb1003, hb1185, hb1396, hb1612, hb1613, hb1636, hb1810, hb1811, hb1812, hb1867, hL1588, cL]; done) | (simp only [l_FnTables, hb139, hL1588, cL] <;> simp only [hb3, hb168, hb197, hb284, hb371, hb461, hb832, hb833, hb834, hb1003, hb1185, hb1396, hb1612, hb1613, hb1636, hb1810, hb1811, hb1812, hb1867, hL1588, cL])
                         rw [hM1895]
                         exact ⟨rfl, (Ex.trans (Ex.trans (Ex.trans (Below.only (Ex.trans (Ex.trans (Below.only (Ex.trans (Ex.trans (Below.only (Ex.trans (Ex.trans q1734 hE1740) hE1749) hO1752 oM) hE1758) hE1767) hO1770 oM) hE1784) hE1791) hO1794 oM) hE1802) hE1809) hE1866)⟩
                       ·refine sz rfl rfl hb1812 (sz rfl rfl hb1812 (sz rfl rfl hb1812 (sd rfl (yl_pick_f rfl rfl hb1812 rfl (sM rfl (sz rfl rfl rfl (sz rfl rfl rfl (sz rfl rfl rfl (sd rfl (yl_pick_f rfl rfl rfl rfl ?_))))))))))
                        refine sM rfl (sz rfl rfl rfl (sz rfl rfl rfl (sz rfl rfl rfl (sd rfl (yl_pick_f rfl rfl rfl rfl (sA rfl (dn (CW.ret ?_))))))))
                        refine rr rfl (.cons rfl .nil) ?_
                        have hM1908 : (l_FnTables p_0 p_1) = (false) := by first | (simp only [l_FnTables, hb3, hb139, hb168, hb197, hb284, hb371, hb461, hb832, hb833, hb834, hb1003, hb1185, hb1396, hb1612, hb1613, hb1636, hb1810, hb1811, hb1812, hL1588, cL]; done) | (simp only [l_FnTables, hb139, hL1588, cL] <;> simp only [hb3, hb168, hb197, hb284, hb371, hb461, hb832, hb833, hb834, hb1003, hb1185, hb1396, hb1612, hb1613, hb1636, hb1810, hb1811, hb1812, hL1588, cL])
                        rw [hM1908]
                        exact ⟨rfl, (Ex.trans (Ex.trans (Below.only (Ex.trans (Ex.trans (Below.only (Ex.trans (Ex.trans (Below.only (Ex.trans (Ex.trans q1734 hE1740) hE1749) hO1752 oM) hE1758) hE1767) hO1770 oM) hE1784) hE1791) hO1794 oM) hE1802) hE1809)⟩
                      ·refine sz rfl rfl hb1811 (sz rfl rfl hb1811 (sz rfl rfl hb1811 (sd rfl (yl_pick_f rfl rfl hb1811 rfl (sM rfl (sz rfl rfl rfl (sz rfl rfl rfl (sz rfl rfl rfl (sd rfl (yl_pick_f rfl rfl rfl rfl ?_))))))))))
                       refine sM rfl (sz rfl rfl rfl (sz rfl rfl rfl (sz rfl rfl rfl (sd rfl (yl_pick_f rfl rfl rfl rfl (sM rfl (sz rfl rfl rfl (sz rfl rfl rfl (sz rfl rfl rfl ?_)))))))))
                       refine sd rfl (yl_pick_f rfl rfl rfl rfl (sA rfl (dn (CW.ret (rr rfl (.cons rfl .nil) ?_)))))
                       have hM1920 : (l_FnTables p_0 p_1) = (false) := by first | (simp only [l_FnTables, hb3, hb139, hb168, hb197, hb284, hb371, hb461, hb832, hb833, hb834, hb1003, hb1185, hb1396, hb1612, hb1613, hb1636, hb1810, hb1811, hL1588, cL]; done) | (simp only [l_FnTables, hb139, hL1588, cL] <;> simp only [hb3, hb168, hb197, hb284, hb371, hb461, hb832, hb833, hb834, hb1003, hb1185, hb1396, hb1612, hb1613, hb1636, hb1810, hb1811, hL1588, cL])
                       rw [hM1920]
                       exact ⟨rfl, (Ex.trans (Ex.trans (Below.only (Ex.trans (Ex.trans (Below.only (Ex.trans (Ex.trans (Below.only (Ex.trans (Ex.trans q1734 hE1740) hE1749) hO1752 oM) hE1758) hE1767) hO1770 oM) hE1784) hE1791) hO1794 oM) hE1802) hE1809)⟩
                     ·refine sz rfl rfl hb1810 (sz rfl rfl hb1810 (sz rfl rfl hb1810 (sd rfl (yl_pick_f rfl rfl hb1810 rfl (sM rfl (sz rfl rfl rfl (sz rfl rfl rfl (sz rfl rfl rfl (sd rfl (yl_pick_f rfl rfl rfl rfl ?_))))))))))
                      refine sM rfl (sz rfl rfl rfl (sz rfl rfl rfl (sz rfl rfl rfl (sd rfl (yl_pick_f rfl rfl rfl rfl (sM rfl (sz rfl rfl rfl (sz rfl rfl rfl (sz rfl rfl rfl ?_)))))))))
                      refine sd rfl (yl_pick_f rfl rfl rfl rfl (sM rfl (sz rfl rfl rfl (sz rfl rfl rfl (sz rfl rfl rfl (sd rfl (yl_pick_f rfl rfl rfl rfl (sA rfl (dn ?_)))))))))
                      refine CW.ret (rr rfl (.cons rfl .nil) ?_)
                      have hM1932 : (l_FnTables p_0 p_1) = (false) := by first | (simp only [l_FnTables, hb3, hb139, hb168, hb197, hb284, hb371, hb461, hb832, hb833, hb834, hb1003, hb1185, hb1396, hb1612, hb1613, hb1636, hb1810, hL1588, cL]; done) | (simp only [l_FnTables, hb139, hL1588, cL] <;> simp only [hb3, hb168, hb197, hb284, hb371, hb461, hb832, hb833, hb834, hb1003, hb1185, hb1396, hb1612, hb1613, hb1636, hb1810, hL1588, cL])
                      rw [hM1932]
                      exact ⟨rfl, (Ex.trans (Ex.trans (Below.only (Ex.trans (Ex.trans (Below.only (Ex.trans (Ex.trans (Below.only (Ex.trans (Ex.trans q1734 hE1740) hE1749) hO1752 oM) hE1758) hE1767) hO1770 oM) hE1784) hE1791) hO1794 oM) hE1802) hE1809)⟩
                    ·refine CW.cond_t rfl (not_f hb1636) (cR (sA rfl (dn (CW.ret (tr (rr rfl (.cons rfl .nil) ?_))))))
                     have hM1944 : (l_FnTables p_0 p_1) = (false) := by first | (simp only [l_FnTables, hb3, hb139, hb168, hb197, hb284, hb371, hb461, hb832, hb833, hb834, hb1003, hb1185, hb1396, hb1612, hb1613, hb1636, hL1588, cL]; done) | (simp only [l_FnTables, hb139, hL1588, cL] <;> simp only [hb3, hb168, hb197, hb284, hb371, hb461, hb832, hb833, hb834, hb1003, hb1185, hb1396, hb1612, hb1613, hb1636, hL1588, cL])
                     rw [hM1944]
                     exact ⟨rfl, (Ex.trans (Below.only (Ex.trans (Ex.trans q1593 hE1599) hE1608) hO1611 oM) hE1635)⟩
                   ·refine sz rfl rfl (not_f hb1613) (sz rfl rfl (not_f hb1613) (sz rfl rfl (not_f hb1613) (sz rfl rfl (not_f hb1613) (sd rfl (yl_pick_t rfl rfl (not_f hb1613) rfl (dn (CW.cond_t rfl rfl (CW.seq ?_))))))))
                    refine CW.region (sA rfl (dn (CW.ret (tr (rr rfl (.cons rfl .nil) ?_)))))
                    have hM1949 : (l_FnTables p_0 p_1) = (false) := by first | (simp only [l_FnTables, hb3, hb139, hb168, hb197, hb284, hb371, hb461, hb832, hb833, hb834, hb1003, hb1185, hb1396, hb1612, hb1613, hL1588, cL]; done) | (simp only [l_FnTables, hb139, hL1588, cL] <;> simp only [hb3, hb168, hb197, hb284, hb371, hb461, hb832, hb833, hb834, hb1003, hb1185, hb1396, hb1612, hb1613, hL1588, cL])
                    rw [hM1949]
                    exact ⟨rfl, (Below.only (Ex.trans (Ex.trans q1593 hE1599) hE1608) hO1611 oM)⟩
                  ·refine sz rfl rfl (not_f hb1612) (sz rfl rfl (not_f hb1612) (sd rfl (yl_pick_t rfl rfl (not_f hb1612) rfl (sM rfl (sz rfl rfl rfl (sz rfl rfl rfl (sz rfl rfl rfl (sz rfl rfl rfl (sd rfl (yl_pick_t rfl rfl rfl rfl ?_))))))))))
                   refine dn (CW.cond_t rfl rfl (cR (sA rfl (dn (CW.ret ?_)))))
                   refine tr (rr rfl (.cons rfl .nil) ?_)
                   have hM1953 : (l_FnTables p_0 p_1) = (false) := by first | (simp only [l_FnTables, hb3, hb139, hb168, hb197, hb284, hb371, hb461, hb832, hb833, hb834, hb1003, hb1185, hb1396, hb1612, hL1588, cL]; done) | (simp only [l_FnTables, hb139, hL1588, cL] <;> simp only [hb3, hb168, hb197, hb284, hb371, hb461, hb832, hb833, hb834, hb1003, hb1185, hb1396, hb1612, hL1588, cL])
                   rw [hM1953]
                   exact ⟨rfl, (Below.only (Ex.trans (Ex.trans q1593 hE1599) hE1608) hO1611 oM)⟩
               ·refine CW.cond_t rfl (not_f hb1396) (cR (sA rfl (dn (CW.ret (tr (tr ?_))))))
                refine rr rfl (.cons rfl .nil) ?_
                have hM1957 : (l_FnTables p_0 p_1) = (false) := by first | (simp only [l_FnTables, hb3, hb139, hb168, hb197, hb284, hb371, hb461, hb832, hb833, hb834, hb1003, hb1185, hb1396, cL]; done) | (simp only [l_FnTables, hb139, cL] <;> simp only [hb3, hb168, hb197, hb284, hb371, hb461, hb832, hb833, hb834, hb1003, hb1185, hb1396, cL])
                rw [hM1957]
                exact ⟨rfl, (Ex.trans (Ex.trans (Below.only (Ex.trans (Ex.trans (Below.only (Ex.trans (Ex.trans (Below.only (Ex.trans (Ex.trans (Below.only (Ex.trans (Ex.trans (Ex.trans (Ex.trans (Below.only (Ex.trans (Ex.trans (Ex.refl w) hE11) hE18) hO21 oM) hE31) hE41) hE52) hE61) hO64 oM) hE80) hE89) hO92 oM) hE106) hE112) hO115 oM) hE129) hE135) hO138 oM) hE825) hE1391)⟩
             ·obtain ⟨eb1979, eo1979, _, eA1979, _, ebl1979, _, eR1979, eC1979⟩ := RdS.atD (OwnL.rd good_Table (OwnD.own goodO_Table good_Table (OwnD.ex goodO_Table q475 hE825))) d_Table (i := 0) (by first | omega | assumption)
              obtain ⟨A1980, c1980, A1981, c1981, rfl, h1980, h1981⟩ := eR1979
              refine drI 27 [.slice A28 (((i_WayTo ((s_DrawWayTo p_0).1) ((s_DrawWayTo p_0).2.1) ((s_DrawWayTo p_0).2.2)).1).length) c28, .int .i64 ((((i_WayTo ((s_DrawWayTo p_0).1) ((s_DrawWayTo p_0).2.1) ((s_DrawWayTo p_0).2.2)).1).length : Int)), .bool (decide ((((i_WayTo ((s_DrawWayTo p_0).1) ((s_DrawWayTo p_0).2.1) ((s_DrawWayTo p_0).2.2)).1).length : Int) = 0)), .bool (decide ((((i_WayTo ((s_DrawWayTo p_0).1) ((s_DrawWayTo p_0).2.1) ((s_DrawWayTo p_0).2.2)).1).length : Int) = 0)), .slice A28 (((i_WayTo ((s_DrawWayTo p_0).1) ((s_DrawWayTo p_0).2.1) ((s_DrawWayTo p_0).2.2)).1).length) c28, .int .i64 ((((i_WayTo ((s_DrawWayTo p_0).1) ((s_DrawWayTo p_0).2.1) ((s_DrawWayTo p_0).2.2)).1).length : Int)), .bool (decide (4 < (((i_WayTo ((s_DrawWayTo p_0).1) ((s_DrawWayTo p_0).2.1) ((s_DrawWayTo p_0).2.2)).1).length : Int))), .bool (decide (4 < (((i_WayTo ((s_DrawWayTo p_0).1) ((s_DrawWayTo p_0).2.1) ((s_DrawWayTo p_0).2.2)).1).length : Int))), .bool (decide (4 < (((i_WayTo ((s_DrawWayTo p_0).1) ((s_DrawWayTo p_0).2.1) ((s_DrawWayTo p_0).2.2)).1).length : Int))), .slice A28 (((i_WayTo ((s_DrawWayTo p_0).1) ((s_DrawWayTo p_0).2.1) ((s_DrawWayTo p_0).2.2)).1).length) c28, .pointer (some ⟨eb1979, eo1979 + 0 * 3, none⟩), .agg #[.string (bs ((((i_WayTo ((s_DrawWayTo p_0).1) ((s_DrawWayTo p_0).2.1) ((s_DrawWayTo p_0).2.2)).1).getD 0 d_Table).Name)), .slice A1980 (((((i_WayTo ((s_DrawWayTo p_0).1) ((s_DrawWayTo p_0).2.1) ((s_DrawWayTo p_0).2.2)).1).getD 0 d_Table).Cols).length) c1980, .slice A1981 (((((i_WayTo ((s_DrawWayTo p_0).1) ((s_DrawWayTo p_0).2.1) ((s_DrawWayTo p_0).2.2)).1).getD 0 d_Table).Idxs).length) c1981], .agg #[.string (bs ((s_DrawWayTo p_0).1.Name)), .slice A6 (((s_DrawWayTo p_0).1.Cols).length) c6, .slice A7 (((s_DrawWayTo p_0).1.Idxs).length) c7], .bool ((l_qSameT (((i_WayTo ((s_DrawWayTo p_0).1) ((s_DrawWayTo p_0).2.1) ((s_DrawWayTo p_0).2.2)).1).getD 0 d_Table) ((s_DrawWayTo p_0).1))), .bool (!(l_qSameT (((i_WayTo ((s_DrawWayTo p_0).1) ((s_DrawWayTo p_0).2.1) ((s_DrawWayTo p_0).2.2)).1).getD 0 d_Table) ((s_DrawWayTo p_0).1))), .bool (!(l_qSameT (((i_WayTo ((s_DrawWayTo p_0).1) ((s_DrawWayTo p_0).2.1) ((s_DrawWayTo p_0).2.2)).1).getD 0 d_Table) ((s_DrawWayTo p_0).1))), .bool (!(l_qSameT (((i_WayTo ((s_DrawWayTo p_0).1) ((s_DrawWayTo p_0).2.1) ((s_DrawWayTo p_0).2.2)).1).getD 0 d_Table) ((s_DrawWayTo p_0).1))), undef, undef, undef, undef, undef, undef, undef, undef, undef, .bool (true)] Tryz.follows rfl ⟨?_, ?_, ?_, ?_, ?_, ?_, ?_, ?_, ?_, ?_, ?_, ?_, ?_, ?_, ?_, ?_, ?_, ?_, ?_, ?_, ?_, ?_, ?_, ?_, ?_, ?_, ?_, trivial⟩ ?_
              ·exact oI rfl fun h => yM rfl (h.old 8 _ rfl rfl) kI
              ·exact oI rfl fun h => yL un29 rfl (h.dt 0 134 rfl rfl rfl) kI
              ·exact oI rfl fun h => yl_eql rfl (h.dt 1 135 rfl rfl rfl) rfl kI
              ·exact oI rfl fun h => yM rfl (h.dt 2 136 rfl rfl rfl) kI
              ·exact oW rfl rfl rfl rfl hb834 fun h => yM rfl (h.old 8 _ rfl rfl) kI
              ·exact oW rfl rfl rfl rfl hb834 fun h => yL un29 rfl (h.dt 4 138 rfl rfl rfl) kI
              ·exact oW rfl rfl rfl rfl hb834 fun h => yl_gtr rfl (h.dt 5 139 rfl rfl rfl) rfl kI
              ·exact oI rfl fun h => yl_pick_f rfl (h.dt 3 137 rfl rfl rfl) hb834 (h.dt 6 140 rfl rfl rfl) kI
              ·exact oI rfl fun h => yM rfl (h.dt 7 141 rfl rfl rfl) kI
              ·exact oW rfl rfl rfl rfl hb1003 fun h => yM rfl (h.old 8 _ rfl rfl) kI
              ·intro L2042 w2043 hi2044
               have hE2045 := hi2044.ex
               have hE2045z := Ex.size hE2045
               exact OpR.want rfl rfl (hi2044.dt 8 142 rfl rfl rfl) hb1003 (Yl.sameI (yl_ixN un29 ty26 rfl (hi2044.dt 9 143 rfl rfl rfl) rfl eA1979 kI))
              ·exact oW rfl rfl rfl rfl hb1003 fun h => yl_loadN ty26 rfl (h.dt 10 144 rfl rfl rfl) (Cells.ex eC1979 h.ex) rfl kI
              ·exact oW rfl rfl rfl rfl hb1003 fun h => yl_loadN ty26 rfl (h.old 5 _ rfl rfl) ((Box.ex (Box.ex q553 hE825) h.ex).cells (n := 3) rfl) rfl kI
              ·intro L2062 w2063 hi2064
               have hE2065 := hi2064.ex
               exact OpR.want rfl rfl (hi2064.dt 8 142 rfl rfl rfl) hb1003 (yC en12 rfl (oc (hi2064.dt 11 145 rfl rfl rfl) (oc (hi2064.dt 12 146 rfl rfl rfl) oz)) (Cal.mono (c_l_qSameT (((i_WayTo ((s_DrawWayTo p_0).1) ((s_DrawWayTo p_0).2.1) ((s_DrawWayTo p_0).2.2)).1).getD 0 d_Table) ((s_DrawWayTo p_0).1) (RdS.up (RdS.ex gS h1980 hE2065) gS) (RdS.up (RdS.ex gI h1981 hE2065) gI) (RdS.up (RdS.ex gS (RdS.ex gS q556 hE825) hE2065) gS) (RdS.up (OwnL.rd gI (OwnL.ex gI (OwnL.ex gI q560 hE825) hE2065)) gI) (okL.getD ho29 ok_d_Table _) ho8) fun _ _ h => h))
              ·exact oW rfl rfl rfl rfl hb1003 fun h => yl_not rfl (h.dt 13 147 rfl rfl rfl) kI
              ·exact oI rfl fun h => yl_pick_f rfl (h.dt 8 142 rfl rfl rfl) hb1003 (h.dt 14 148 rfl rfl rfl) kI
              ·exact oI rfl fun h => yM rfl (h.dt 15 149 rfl rfl rfl) kI
              ·exact oS rfl rfl rfl rfl rfl (not_f hb1185)
              ·exact oS rfl rfl rfl rfl rfl (not_f hb1185)
              ·exact oS rfl rfl rfl rfl rfl (not_f hb1185)
              ·exact oS rfl rfl rfl rfl rfl (not_f hb1185)
              ·exact oS rfl rfl rfl rfl rfl (not_f hb1185)
              ·exact oS rfl rfl rfl rfl rfl (not_f hb1185)
              ·exact oS rfl rfl rfl rfl rfl (not_f hb1185)
              ·exact oS rfl rfl rfl rfl rfl (not_f hb1185)
              ·exact oS rfl rfl rfl rfl rfl (not_f hb1185)
              ·exact oI rfl fun h => yl_pick_t rfl (h.dt 16 150 rfl rfl rfl) (not_f hb1185) rfl kI
              ·intro fl2148 fh2149 L2145 w2146 hp2147
               have hE2150 := hp2147.ex
               have hE2150z := Ex.size hE2150
               refine dn (CW.sub (sC 1 (hp2147.old 1 _ rfl rfl) (sC 5 (hp2147.old 5 _ rfl rfl) (sC 8 (hp2147.old 8 _ rfl rfl) (sC 160 (hp2147.nt 26 160 rfl rfl rfl) (Sub.nil _))))) (CW.cond_t rfl rfl (cR (sA rfl (dn ?_)))))
               refine CW.ret (tr (tr (rr rfl (.cons rfl .nil) ?_)))
               have hM2155 : (l_FnTables p_0 p_1) = (false) := by first | (simp only [l_FnTables, hb3, hb139, hb168, hb197, hb284, hb371, hb461, hb832, hb833, hb834, hb1003, hb1185, cL]; done) | (simp only [l_FnTables, hb139, cL] <;> simp only [hb3, hb168, hb197, hb284, hb371, hb461, hb832, hb833, hb834, hb1003, hb1185, cL])
               rw [hM2155]
               exact ⟨rfl, (Ex.trans (Ex.trans (Below.only (Ex.trans (Ex.trans (Below.only (Ex.trans (Ex.trans (Below.only (Ex.trans (Ex.trans (Below.only (Ex.trans (Ex.trans (Ex.trans (Ex.trans (Below.only (Ex.trans (Ex.trans (Ex.refl w) hE11) hE18) hO21 oM) hE31) hE41) hE52) hE61) hO64 oM) hE80) hE89) hO92 oM) hE106) hE112) hO115 oM) hE129) hE135) hO138 oM) hE825) hE2150)⟩
          ·refine CW.cond_f rfl hb833 (CW.skip (tn (cR (sM rfl ?_))))
           have q2188 := RdS.only gU (RdS.ex gU (RdS.ex gU (RdS.only gU (RdS.ex gU (RdS.ex gU (RdS.only gU (RdS.ex gU (RdS.ex gU (RdS.ex gU (RdS.ex gU (RdS.only gU (RdS.ex gU (RdS.ex gU h2 hE11) hE18) hO21 (by simp only [Iv]; omega)) hE31) hE41) hE52) hE61) hO64 (by simp only [Iv]; omega)) hE80) hE89) hO92 (by simp only [Iv]; omega)) hE106) hE112) hO115 (by simp only [Iv]; omega)
           have q2192 := RdS.ex gU (RdS.only gU (RdS.ex gU (RdS.ex gU q2188 hE129) hE135) hO138 (by simp only [Iv]; omega)) hE825
           refine sd rfl (yC en18 rfl (oc rfl oz) (Cal.mono (c_s_DrawNextTo p_1 (RdS.up q2192 gU) (okL.mk (xs := p_1) (by first | omega | (simp only [lN]; omega)) fun _ _ => trivial) (by assumption)) ?_))
           rintro v2200 w2193 ⟨A2194, c2194, A2195, c2195, lo2195, hi2195, A2196, c2196, lo2196, hi2196, A2197, c2197, lo2197, hi2197, rfl, h2194, h2195, h2196, h2197, ho2198, ho2199, hrn2202, hrn2203, hrn2204, hrn2205, hrn2206, hrn2207, hE2201⟩
           have hE2201z := Ex.size hE2201
           refine sM rfl (sd rfl (yl_extract rfl rfl rfl (sd rfl (yl_extract rfl rfl rfl (sd rfl (yB ty26 (cs := [.string (bs (([] : Str))), .slice none 0 0, .slice none 0 0]) rfl rfl ?_))))))
           intro b2208 w2209 hs2210 hz2211 hB2212 hE2213
           refine sd rfl (yB ty26 (cs := [.string (bs (([] : Str))), .slice none 0 0, .slice none 0 0]) rfl rfl ?_)
           intro b2214 w2215 hs2216 hz2217 hB2218 hE2219
           refine SeqR.u rfl rfl (yl_store (vs := [.string (bs ((s_DrawNextTo p_1).1.Name)), .slice A2194 (((s_DrawNextTo p_1).1.Cols).length) c2194, .slice A2195 (((s_DrawNextTo p_1).1.Idxs).length) c2195]) ty26 rfl rfl rfl rfl rfl rfl (Box.ex hB2212 hE2219) (nb rfl) ?_)
           intro w2221 hB2222 hO2223
           have hB2222 : Box w2221 b2208 26 [.string (bs ((s_DrawNextTo p_1).1.Name)), .slice A2194 (((s_DrawNextTo p_1).1.Cols).length) c2194, .slice A2195 (((s_DrawNextTo p_1).1.Idxs).length) c2195] := hB2222
           have hO2223z := hO2223.size
           refine SeqR.u rfl rfl (yl_store (vs := [.string (bs ((s_DrawNextTo p_1).2.Name)), .slice A2196 (((s_DrawNextTo p_1).2.Cols).length) c2196, .slice A2197 (((s_DrawNextTo p_1).2.Idxs).length) c2197]) ty26 rfl rfl rfl rfl rfl rfl (Box.only hB2218 hO2223 oM) (nb rfl) ?_)
           intro w2225 hB2226 hO2227
           have hB2226 : Box w2225 b2214 26 [.string (bs ((s_DrawNextTo p_1).2.Name)), .slice A2196 (((s_DrawNextTo p_1).2.Cols).length) c2196, .slice A2197 (((s_DrawNextTo p_1).2.Idxs).length) c2197] := hB2226
           have hO2227z := hO2227.size
           refine dn (cR ?_)
           have q2228 := Box.only hB2222 hO2227 oM
           refine sd rfl (yl_loadN ty26 rfl rfl (q2228.cells (n := 3) rfl) rfl (sd rfl (yl_loadN ty26 rfl rfl (hB2226.cells (n := 3) rfl) rfl ?_)))
           have q2232 := RdS.only gS (RdS.only gS (RdS.ex gS (RdS.ex gS h2194 hE2213) hE2219) hO2223 (by simp only [Iv]; omega)) hO2227 (by simp only [Iv]; omega)
           have q2237 := OwnL.only gI (OwnL.only gI (OwnL.ex gI (OwnL.ex gI h2195 hE2213) hE2219) hO2223 oM) hO2227 oM
           have q2242 := OwnL.only gS (OwnL.only gS (OwnL.ex gS (OwnL.ex gS h2196 hE2213) hE2219) hO2223 oM) hO2227 oM
           have q2247 := OwnL.only gI (OwnL.only gI (OwnL.ex gI (OwnL.ex gI h2197 hE2213) hE2219) hO2223 oM) hO2227 oM
           refine sd rfl (yC en15 rfl (oc rfl (oc rfl oz)) (Cal.mono (c_i_NextTo ((s_DrawNextTo p_1).1) ((s_DrawNextTo p_1).2) (RdS.up q2232 gS) (RdS.up (OwnL.rd gI q2237) gI) (RdS.up (OwnL.rd gS q2242) gS) (RdS.up (OwnL.rd gI q2247) gI) ho2198 ho2199) ?_))
           rintro v2249 w2248 ⟨rfl, hE2250⟩
           have hE2250z := Ex.size hE2250
           refine sM rfl (sd rfl (yl_extract rfl rfl rfl (sd rfl (yl_extract rfl rfl rfl (sA rfl (sA rfl (dn (cR ?_))))))))
           refine sd rfl (yl_loadN ty26 rfl rfl ((Box.ex q2228 hE2250).cells (n := 3) rfl) rfl (sd rfl (yl_loadN ty26 rfl rfl ((Box.ex hB2226 hE2250).cells (n := 3) rfl) rfl (sd rfl (yC en19 rfl (oc rfl (oc rfl oz)) (Cal.mono (c_s_NextTo ((s_DrawNextTo p_1).1) ((s_DrawNextTo p_1).2) (RdS.up (RdS.ex gS q2232 hE2250) gS) (RdS.up (OwnL.rd gI (OwnL.ex gI q2237 hE2250)) gI) (RdS.up (OwnL.rd gS (OwnL.ex gS q2242 hE2250)) gS) (RdS.up (OwnL.rd gI (OwnL.ex gI q2247 hE2250)) gI) ho2198 ho2199) ?_))))))
           rintro v2261 w2260 ⟨rfl, hE2262⟩
           have hE2262z := Ex.size hE2262
           refine sM rfl (sd rfl (yl_extract rfl rfl rfl (sd rfl (yl_extract rfl rfl rfl (sA rfl (sA rfl (dn (cR ?_))))))))
           refine sM rfl ?_
           have q2269 := RdS.ex gU (RdS.ex gU (RdS.only gU (RdS.only gU (RdS.ex gU (RdS.ex gU (RdS.ex gU q2192 hE2201) hE2213) hE2219) hO2223 (by simp only [Iv]; omega)) hO2227 (by simp only [Iv]; omega)) hE2250) hE2262
           refine sd rfl (yC en20 rfl (oc rfl oz) (Cal.mono (c_s_DrawReadTable p_1 (RdS.up q2269 gU) (okL.mk (xs := p_1) (by first | omega | (simp only [lN]; omega)) fun _ _ => trivial) (by assumption)) ?_))
           rintro v2272 w2270 ⟨rfl, ho2271, hE2273⟩
           have hE2273z := Ex.size hE2273
           refine sA rfl (dn (cR (sM rfl ?_)))
           have q2293 := Ex.trans (Ex.trans (Ex.trans (Below.only (Ex.trans (Ex.trans (Below.only (Ex.trans (Ex.trans (Below.only (Ex.trans (Ex.trans (Below.only (Ex.trans (Ex.trans (Ex.trans (Ex.trans (Below.only (Ex.trans (Ex.trans (Ex.refl w) hE11) hE18) hO21 oM) hE31) hE41) hE52) hE61) hO64 oM) hE80) hE89) hO92 oM) hE106) hE112) hO115 oM) hE129) hE135) hO138 oM) hE825) hE2201) hE2213
           have q2299 := Ex.trans (Ex.trans (Ex.trans (Below.only (Below.only (Ex.trans q2293 hE2219) hO2223 oM) hO2227 oM) hE2250) hE2262) hE2273
           refine sd rfl (yC en17 rfl (oc rfl oz) (Cal.mono (c_i_ReadTable (s_DrawReadTable p_1) ho2271 (GB.ex hgb q2299)) ?_))
           rintro v2304 w2300 ⟨A2301, c2301, lo2301, hi2301, A2302, c2302, lo2302, hi2302, rfl, h2301, h2302, ho2303, hrn2306, hrn2307, hrn2308, hE2305⟩
           have hE2305z := Ex.size hE2305
           refine sM rfl (sd rfl (yl_extract rfl rfl rfl (sd rfl (yl_extract rfl rfl rfl (sd rfl (yB ty26 (cs := [.string (bs (([] : Str))), .slice none 0 0, .slice none 0 0]) rfl rfl ?_))))))
           intro b2309 w2310 hs2311 hz2312 hB2313 hE2314
           refine SeqR.u rfl rfl (yl_store (vs := [.string (bs ((i_ReadTable (s_DrawReadTable p_1)).1.Name)), .slice A2301 (((i_ReadTable (s_DrawReadTable p_1)).1.Cols).length) c2301, .slice A2302 (((i_ReadTable (s_DrawReadTable p_1)).1.Idxs).length) c2302]) ty26 rfl rfl rfl rfl rfl rfl hB2313 (nb rfl) ?_)
           intro w2315 hB2316 hO2317
           have hB2316 : Box w2315 b2309 26 [.string (bs ((i_ReadTable (s_DrawReadTable p_1)).1.Name)), .slice A2301 (((i_ReadTable (s_DrawReadTable p_1)).1.Cols).length) c2301, .slice A2302 (((i_ReadTable (s_DrawReadTable p_1)).1.Idxs).length) c2302] := hB2316
           have hO2317z := hO2317.size
           refine sA rfl (dn (cR (sM rfl (sd rfl (yC en21 rfl (oc rfl oz) (Cal.mono (c_s_ReadTable (s_DrawReadTable p_1) ho2271) ?_))))))
           rintro v2322 w2318 ⟨A2319, c2319, lo2319, hi2319, A2320, c2320, lo2320, hi2320, rfl, h2319, h2320, ho2321, hrn2324, hrn2325, hrn2326, hE2323⟩
           have hE2323z := Ex.size hE2323
           refine sM rfl (sd rfl (yl_extract rfl rfl rfl (sd rfl (yl_extract rfl rfl rfl (sd rfl (yB ty26 (cs := [.string (bs (([] : Str))), .slice none 0 0, .slice none 0 0]) rfl rfl ?_))))))
           intro b2327 w2328 hs2329 hz2330 hB2331 hE2332
           refine SeqR.u rfl rfl (yl_store (vs := [.string (bs ((s_ReadTable (s_DrawReadTable p_1)).1.Name)), .slice A2319 (((s_ReadTable (s_DrawReadTable p_1)).1.Cols).length) c2319, .slice A2320 (((s_ReadTable (s_DrawReadTable p_1)).1.Idxs).length) c2320]) ty26 rfl rfl rfl rfl rfl rfl hB2331 (nb rfl) ?_)
           intro w2333 hB2334 hO2335
           have hB2334 : Box w2333 b2327 26 [.string (bs ((s_ReadTable (s_DrawReadTable p_1)).1.Name)), .slice A2319 (((s_ReadTable (s_DrawReadTable p_1)).1.Cols).length) c2319, .slice A2320 (((s_ReadTable (s_DrawReadTable p_1)).1.Idxs).length) c2320] := hB2334
           have hO2335z := hO2335.size
           refine sA rfl (dn (cR (sM rfl (sd rfl (yC en22 rfl (oc rfl oz) (Cal.mono (c_s_DrawColAt p_1 (RdS.up (RdS.only gU (RdS.ex gU (RdS.ex gU (RdS.only gU (RdS.ex gU (RdS.ex gU (RdS.ex gU q2269 hE2273) hE2305) hE2314) hO2317 (by simp only [Iv]; omega)) hE2323) hE2332) hO2335 (by simp only [Iv]; omega)) gU) (okL.mk (xs := p_1) (by first | omega | (simp only [lN]; omega)) fun _ _ => trivial) (by assumption)) ?_))))))
           rintro v2348 w2343 ⟨A2344, c2344, A2345, c2345, lo2345, hi2345, rfl, h2344, h2345, ho2346, ho2347, hrn2350, hE2349⟩
           have hE2349z := Ex.size hE2349
           refine sM rfl (sd rfl (yl_extract rfl rfl rfl (sd rfl (yl_extract rfl rfl rfl (sd rfl (yB ty26 (cs := [.string (bs (([] : Str))), .slice none 0 0, .slice none 0 0]) rfl rfl ?_))))))
           intro b2351 w2352 hs2353 hz2354 hB2355 hE2356
           refine SeqR.u rfl rfl (yl_store (vs := [.string (bs ((s_DrawColAt p_1).1.Name)), .slice A2344 (((s_DrawColAt p_1).1.Cols).length) c2344, .slice A2345 (((s_DrawColAt p_1).1.Idxs).length) c2345]) ty26 rfl rfl rfl rfl rfl rfl hB2355 (nb rfl) ?_)
           intro w2357 hB2358 hO2359
           have hB2358 : Box w2357 b2351 26 [.string (bs ((s_DrawColAt p_1).1.Name)), .slice A2344 (((s_DrawColAt p_1).1.Cols).length) c2344, .slice A2345 (((s_DrawColAt p_1).1.Idxs).length) c2345] := hB2358
           have hO2359z := hO2359.size
           refine sA rfl (dn (cR (sd rfl (yl_loadN ty26 rfl rfl (hB2358.cells (n := 3) rfl) rfl (sM rfl ?_)))))
           have q2361 := RdS.only gS (RdS.ex gS h2344 hE2356) hO2359 (by simp only [Iv]; omega)
           have q2364 := OwnL.only gI (OwnL.ex gI h2345 hE2356) hO2359 oM
           refine sd rfl (yC en23 rfl (oc rfl (oc rfl oz)) (Cal.mono (c_i_ColAt ((s_DrawColAt p_1).1) ((s_DrawColAt p_1).2) (RdS.up q2361 gS) (RdS.up (OwnL.rd gI q2364) gI) ho2346 ho2347) ?_))
           rintro v2366 w2365 ⟨rfl, hE2367⟩
           have hE2367z := Ex.size hE2367
           refine sM rfl (sd rfl (yl_extract rfl rfl rfl (sd rfl (yl_extract rfl rfl rfl (sA rfl (sA rfl (dn (cR ?_))))))))
           refine sd rfl (yl_loadN ty26 rfl rfl ((Box.ex hB2358 hE2367).cells (n := 3) rfl) rfl (sM rfl (sd rfl (yC en24 rfl (oc rfl (oc rfl oz)) (Cal.mono (c_s_ColAt ((s_DrawColAt p_1).1) ((s_DrawColAt p_1).2) (RdS.up (RdS.ex gS q2361 hE2367) gS) (RdS.up (OwnL.rd gI (OwnL.ex gI q2364 hE2367)) gI) ho2346 ho2347) ?_)))))
           rintro v2373 w2372 ⟨rfl, hE2374⟩
           have hE2374z := Ex.size hE2374
           refine sM rfl (sd rfl (yl_extract rfl rfl rfl (sd rfl (yl_extract rfl rfl rfl (sA rfl (sA rfl (dn (cR ?_))))))))
           refine sM rfl (sM rfl (sd rfl (yl_beql un4 rfl rfl rfl (sM rfl (bcase (((i_NextTo ((s_DrawNextTo p_1).1) ((s_DrawNextTo p_1).2)).2) == ((s_NextTo ((s_DrawNextTo p_1).1) ((s_DrawNextTo p_1).2)).2)) (fun hb2375 => ?_) (fun hb2375 => ?_))))))
           ·refine sy rfl rfl hb2375 (yM rfl rfl (sy rfl rfl hb2375 (yM rfl rfl (sy rfl rfl hb2375 (yl_beql un4 rfl rfl rfl (sd rfl (yl_pick_t rfl rfl hb2375 rfl (sM rfl (bcase (((i_NextTo ((s_DrawNextTo p_1).1) ((s_DrawNextTo p_1).2)).1) == ((s_NextTo ((s_DrawNextTo p_1).1) ((s_DrawNextTo p_1).2)).1)) (fun hb2376 => ?_) (fun hb2376 => ?_))))))))))
            ·refine sy rfl rfl hb2376 (yM rfl rfl (sy rfl rfl hb2376 (yM rfl rfl (sy rfl rfl hb2376 (yl_beql un4 rfl rfl rfl (sd rfl (yl_pick_t rfl rfl hb2376 rfl (sM rfl (bcase (((i_ReadTable (s_DrawReadTable p_1)).2) == ((s_ReadTable (s_DrawReadTable p_1)).2)) (fun hb2377 => ?_) (fun hb2377 => ?_))))))))))
             ·refine sy rfl rfl hb2377 (yl_loadN ty26 rfl rfl ((Box.ex (Box.ex (Box.only (Box.ex (Box.ex (Box.only (Box.ex (Box.ex hB2316 hE2323) hE2332) hO2335 oM) hE2349) hE2356) hO2359 oM) hE2367) hE2374).cells (n := 3) rfl) rfl (sy rfl rfl hb2377 (yl_loadN ty26 rfl rfl ((Box.ex (Box.ex (Box.only (Box.ex (Box.ex hB2334 hE2349) hE2356) hO2359 oM) hE2367) hE2374).cells (n := 3) rfl) rfl (sy rfl rfl hb2377 (yC en12 rfl (oc rfl (oc rfl oz)) (Cal.mono (c_l_qSameT ((i_ReadTable (s_DrawReadTable p_1)).1) ((s_ReadTable (s_DrawReadTable p_1)).1) (RdS.up (OwnL.rd gS (OwnL.ex gS (OwnL.ex gS (OwnL.only gS (OwnL.ex gS (OwnL.ex gS (OwnL.only gS (OwnL.ex gS (OwnL.ex gS (OwnL.only gS (OwnL.ex gS h2301 hE2314) hO2317 oM) hE2323) hE2332) hO2335 oM) hE2349) hE2356) hO2359 oM) hE2367) hE2374)) gS) (RdS.up (OwnL.rd gI (OwnL.ex gI (OwnL.ex gI (OwnL.only gI (OwnL.ex gI (OwnL.ex gI (OwnL.only gI (OwnL.ex gI (OwnL.ex gI (OwnL.only gI (OwnL.ex gI h2302 hE2314) hO2317 oM) hE2323) hE2332) hO2335 oM) hE2349) hE2356) hO2359 oM) hE2367) hE2374)) gI) (RdS.up (OwnL.rd gS (OwnL.ex gS (OwnL.ex gS (OwnL.only gS (OwnL.ex gS (OwnL.ex gS (OwnL.only gS (OwnL.ex gS h2319 hE2332) hO2335 oM) hE2349) hE2356) hO2359 oM) hE2367) hE2374)) gS) (RdS.up (OwnL.rd gI (OwnL.ex gI (OwnL.ex gI (OwnL.only gI (OwnL.ex gI (OwnL.ex gI (OwnL.only gI (OwnL.ex gI h2320 hE2332) hO2335 oM) hE2349) hE2356) hO2359 oM) hE2367) hE2374)) gI) ho2303 ho2321) ?_))))))
              rintro v2430 w2429 ⟨rfl, hE2431⟩
              have hE2431z := Ex.size hE2431
              refine sd rfl (yl_pick_t rfl rfl hb2377 rfl (sM rfl (bcase (l_qSameT ((i_ReadTable (s_DrawReadTable p_1)).1) ((s_ReadTable (s_DrawReadTable p_1)).1)) (fun hb2432 => ?_) (fun hb2432 => ?_))))
              ·refine sy rfl rfl hb2432 (yM rfl rfl (sy rfl rfl hb2432 (yM rfl rfl (sy rfl rfl hb2432 (yl_beql un4 rfl rfl rfl (sd rfl (yl_pick_t rfl rfl hb2432 rfl (sM rfl (bcase (((i_ColAt ((s_DrawColAt p_1).1) ((s_DrawColAt p_1).2)).2) == ((s_ColAt ((s_DrawColAt p_1).1) ((s_DrawColAt p_1).2)).2)) (fun hb2433 => ?_) (fun hb2433 => ?_))))))))))
               ·refine sy rfl rfl hb2433 (yM rfl rfl (sy rfl rfl hb2433 (yM rfl rfl (sy rfl rfl hb2433 (yl_eql rfl rfl rfl (sd rfl (yl_pick_t rfl rfl hb2433 rfl (sA rfl (dn (CW.ret (rr rfl (.cons rfl .nil) ?_)))))))))))
                have hM2434 : (l_FnTables p_0 p_1) = (decide (((i_ColAt ((s_DrawColAt p_1).1) ((s_DrawColAt p_1).2)).1) = ((s_ColAt ((s_DrawColAt p_1).1) ((s_DrawColAt p_1).2)).1))) := by first | (simp only [l_FnTables, hb3, hb139, hb168, hb197, hb284, hb371, hb461, hb832, hb833, hb2375, hb2376, hb2377, hb2432, hb2433, cL]; done) | (simp only [l_FnTables, hb139, cL] <;> simp only [hb3, hb168, hb197, hb284, hb371, hb461, hb832, hb833, hb2375, hb2376, hb2377, hb2432, hb2433, cL])
                rw [hM2434]
                exact ⟨rfl, (Ex.trans (Ex.trans (Ex.trans (Below.only (Ex.trans (Ex.trans (Below.only (Ex.trans (Ex.trans (Below.only (Ex.trans (Ex.trans q2299 hE2305) hE2314) hO2317 oM) hE2323) hE2332) hO2335 oM) hE2349) hE2356) hO2359 oM) hE2367) hE2374) hE2431)⟩
               ·refine sz rfl rfl hb2433 (sz rfl rfl hb2433 (sz rfl rfl hb2433 (sd rfl (yl_pick_f rfl rfl hb2433 rfl (sA rfl (dn (CW.ret (rr rfl (.cons rfl .nil) ?_))))))))
                have hM2447 : (l_FnTables p_0 p_1) = (false) := by first | (simp only [l_FnTables, hb3, hb139, hb168, hb197, hb284, hb371, hb461, hb832, hb833, hb2375, hb2376, hb2377, hb2432, hb2433, cL]; done) | (simp only [l_FnTables, hb139, cL] <;> simp only [hb3, hb168, hb197, hb284, hb371, hb461, hb832, hb833, hb2375, hb2376, hb2377, hb2432, hb2433, cL])
                rw [hM2447]
                exact ⟨rfl, (Ex.trans (Ex.trans (Ex.trans (Below.only (Ex.trans (Ex.trans (Below.only (Ex.trans (Ex.trans (Below.only (Ex.trans (Ex.trans q2299 hE2305) hE2314) hO2317 oM) hE2323) hE2332) hO2335 oM) hE2349) hE2356) hO2359 oM) hE2367) hE2374) hE2431)⟩
              ·refine sz rfl rfl hb2432 (sz rfl rfl hb2432 (sz rfl rfl hb2432 (sd rfl (yl_pick_f rfl rfl hb2432 rfl (sM rfl (sz rfl rfl rfl (sz rfl rfl rfl (sz rfl rfl rfl (sd rfl (yl_pick_f rfl rfl rfl rfl ?_))))))))))
               refine sA rfl (dn (CW.ret (rr rfl (.cons rfl .nil) ?_)))
               have hM2460 : (l_FnTables p_0 p_1) = (false) := by first | (simp only [l_FnTables, hb3, hb139, hb168, hb197, hb284, hb371, hb461, hb832, hb833, hb2375, hb2376, hb2377, hb2432, cL]; done) | (simp only [l_FnTables, hb139, cL] <;> simp only [hb3, hb168, hb197, hb284, hb371, hb461, hb832, hb833, hb2375, hb2376, hb2377, hb2432, cL])
               rw [hM2460]
               exact ⟨rfl, (Ex.trans (Ex.trans (Ex.trans (Below.only (Ex.trans (Ex.trans (Below.only (Ex.trans (Ex.trans (Below.only (Ex.trans (Ex.trans q2299 hE2305) hE2314) hO2317 oM) hE2323) hE2332) hO2335 oM) hE2349) hE2356) hO2359 oM) hE2367) hE2374) hE2431)⟩
             ·refine sz rfl rfl hb2377 (sz rfl rfl hb2377 (sz rfl rfl hb2377 (sd rfl (yl_pick_f rfl rfl hb2377 rfl (sM rfl (sz rfl rfl rfl (sz rfl rfl rfl (sz rfl rfl rfl (sd rfl (yl_pick_f rfl rfl rfl rfl ?_))))))))))
              refine sM rfl (sz rfl rfl rfl (sz rfl rfl rfl (sz rfl rfl rfl (sd rfl (yl_pick_f rfl rfl rfl rfl (sA rfl (dn (CW.ret ?_))))))))
              refine rr rfl (.cons rfl .nil) ?_
              have hM2473 : (l_FnTables p_0 p_1) = (false) := by first | (simp only [l_FnTables, hb3, hb139, hb168, hb197, hb284, hb371, hb461, hb832, hb833, hb2375, hb2376, hb2377, cL]; done) | (simp only [l_FnTables, hb139, cL] <;> simp only [hb3, hb168, hb197, hb284, hb371, hb461, hb832, hb833, hb2375, hb2376, hb2377, cL])
              rw [hM2473]
              exact ⟨rfl, (Ex.trans (Ex.trans (Below.only (Ex.trans (Ex.trans (Below.only (Ex.trans (Ex.trans (Below.only (Ex.trans (Ex.trans q2299 hE2305) hE2314) hO2317 oM) hE2323) hE2332) hO2335 oM) hE2349) hE2356) hO2359 oM) hE2367) hE2374)⟩
            ·refine sz rfl rfl hb2376 (sz rfl rfl hb2376 (sz rfl rfl hb2376 (sd rfl (yl_pick_f rfl rfl hb2376 rfl (sM rfl (sz rfl rfl rfl (sz rfl rfl rfl (sz rfl rfl rfl (sd rfl (yl_pick_f rfl rfl rfl rfl ?_))))))))))
             refine sM rfl (sz rfl rfl rfl (sz rfl rfl rfl (sz rfl rfl rfl (sd rfl (yl_pick_f rfl rfl rfl rfl (sM rfl (sz rfl rfl rfl (sz rfl rfl rfl (sz rfl rfl rfl ?_)))))))))
             refine sd rfl (yl_pick_f rfl rfl rfl rfl (sA rfl (dn (CW.ret (rr rfl (.cons rfl .nil) ?_)))))
             have hM2485 : (l_FnTables p_0 p_1) = (false) := by first | (simp only [l_FnTables, hb3, hb139, hb168, hb197, hb284, hb371, hb461, hb832, hb833, hb2375, hb2376, cL]; done) | (simp only [l_FnTables, hb139, cL] <;> simp only [hb3, hb168, hb197, hb284, hb371, hb461, hb832, hb833, hb2375, hb2376, cL])
             rw [hM2485]
             exact ⟨rfl, (Ex.trans (Ex.trans (Below.only (Ex.trans (Ex.trans (Below.only (Ex.trans (Ex.trans (Below.only (Ex.trans (Ex.trans q2299 hE2305) hE2314) hO2317 oM) hE2323) hE2332) hO2335 oM) hE2349) hE2356) hO2359 oM) hE2367) hE2374)⟩
           ·refine sz rfl rfl hb2375 (sz rfl rfl hb2375 (sz rfl rfl hb2375 (sd rfl (yl_pick_f rfl rfl hb2375 rfl (sM rfl (sz rfl rfl rfl (sz rfl rfl rfl (sz rfl rfl rfl (sd rfl (yl_pick_f rfl rfl rfl rfl ?_))))))))))
            refine sM rfl (sz rfl rfl rfl (sz rfl rfl rfl (sz rfl rfl rfl (sd rfl (yl_pick_f rfl rfl rfl rfl (sM rfl (sz rfl rfl rfl (sz rfl rfl rfl (sz rfl rfl rfl ?_)))))))))
            refine sd rfl (yl_pick_f rfl rfl rfl rfl (sM rfl (sz rfl rfl rfl (sz rfl rfl rfl (sz rfl rfl rfl (sd rfl (yl_pick_f rfl rfl rfl rfl (sA rfl (dn ?_)))))))))
            refine CW.ret (rr rfl (.cons rfl .nil) ?_)
            have hM2497 : (l_FnTables p_0 p_1) = (false) := by first | (simp only [l_FnTables, hb3, hb139, hb168, hb197, hb284, hb371, hb461, hb832, hb833, hb2375, cL]; done) | (simp only [l_FnTables, hb139, cL] <;> simp only [hb3, hb168, hb197, hb284, hb371, hb461, hb832, hb833, hb2375, cL])
            rw [hM2497]
            exact ⟨rfl, (Ex.trans (Ex.trans (Below.only (Ex.trans (Ex.trans (Below.only (Ex.trans (Ex.trans (Below.only (Ex.trans (Ex.trans q2299 hE2305) hE2314) hO2317 oM) hE2323) hE2332) hO2335 oM) hE2349) hE2356) hO2359 oM) hE2367) hE2374)⟩
         ·refine CW.cond_t rfl (not_f hb832) (cR (sA rfl (dn (CW.ret (tr (rr rfl (.cons rfl .nil) ?_))))))
          have hM2509 : (l_FnTables p_0 p_1) = (false) := by simp only [l_FnTables, hb3, hb139, hb168, hb197, hb284, hb371, hb461, hb832, cL]
          rw [hM2509]
          exact ⟨rfl, (Ex.trans (Below.only (Ex.trans (Ex.trans (Below.only (Ex.trans (Ex.trans (Below.only (Ex.trans (Ex.trans (Below.only (Ex.trans (Ex.trans (Ex.trans (Ex.trans (Below.only (Ex.trans (Ex.trans (Ex.refl w) hE11) hE18) hO21 oM) hE31) hE41) hE52) hE61) hO64 oM) hE80) hE89) hO92 oM) hE106) hE112) hO115 oM) hE129) hE135) hO138 oM) hE825)⟩
       ·have q2541 := OwnD.only goodO_Table (OwnD.ex goodO_Table (OwnD.ex goodO_Table (OwnD.only goodO_Table (OwnD.ex goodO_Table (OwnD.ex goodO_Table (OwnD.only goodO_Table (OwnD.ex goodO_Table (OwnD.ex goodO_Table (OwnD.only goodO_Table (OwnD.ex goodO_Table (OwnD.ex goodO_Table (OwnD.ex goodO_Table h28 hE41) hE52) hE61) hO64 oM) hE80) hE89) hO92 oM) hE106) hE112) hO115 oM) hE129) hE135) hO138 oM
        refine drI 37 [.bool ((i_WayTo ((s_DrawWayTo p_0).1) ((s_DrawWayTo p_0).2.1) ((s_DrawWayTo p_0).2.2)).2), .bool ((s_WayTo ((s_DrawWayTo p_0).1) ((s_DrawWayTo p_0).2.1) ((s_DrawWayTo p_0).2.2)).2), .bool (!(((i_WayTo ((s_DrawWayTo p_0).1) ((s_DrawWayTo p_0).2.1) ((s_DrawWayTo p_0).2.2)).2) == ((s_WayTo ((s_DrawWayTo p_0).1) ((s_DrawWayTo p_0).2.1) ((s_DrawWayTo p_0).2.2)).2))), .bool (!(((i_WayTo ((s_DrawWayTo p_0).1) ((s_DrawWayTo p_0).2.1) ((s_DrawWayTo p_0).2.2)).2) == ((s_WayTo ((s_DrawWayTo p_0).1) ((s_DrawWayTo p_0).2.1) ((s_DrawWayTo p_0).2.2)).2))), .slice A28 (((i_WayTo ((s_DrawWayTo p_0).1) ((s_DrawWayTo p_0).2.1) ((s_DrawWayTo p_0).2.2)).1).length) c28, .slice A38 (((s_WayTo ((s_DrawWayTo p_0).1) ((s_DrawWayTo p_0).2.1) ((s_DrawWayTo p_0).2.2)).1).length) c38, .bool ((l_qSameTs ((i_WayTo ((s_DrawWayTo p_0).1) ((s_DrawWayTo p_0).2.1) ((s_DrawWayTo p_0).2.2)).1) ((s_WayTo ((s_DrawWayTo p_0).1) ((s_DrawWayTo p_0).2.1) ((s_DrawWayTo p_0).2.2)).1))), .bool (!(l_qSameTs ((i_WayTo ((s_DrawWayTo p_0).1) ((s_DrawWayTo p_0).2.1) ((s_DrawWayTo p_0).2.2)).1) ((s_WayTo ((s_DrawWayTo p_0).1) ((s_DrawWayTo p_0).2.1) ((s_DrawWayTo p_0).2.2)).1))), .bool (!(l_qSameTs ((i_WayTo ((s_DrawWayTo p_0).1) ((s_DrawWayTo p_0).2.1) ((s_DrawWayTo p_0).2.2)).1) ((s_WayTo ((s_DrawWayTo p_0).1) ((s_DrawWayTo p_0).2.1) ((s_DrawWayTo p_0).2.2)).1))), .bool (!(l_qSameTs ((i_WayTo ((s_DrawWayTo p_0).1) ((s_DrawWayTo p_0).2.1) ((s_DrawWayTo p_0).2.2)).1) ((s_WayTo ((s_DrawWayTo p_0).1) ((s_DrawWayTo p_0).2.1) ((s_DrawWayTo p_0).2.2)).1))), .bool ((i_SetStage ((s_DrawWayTo p_0).1) ((s_DrawWayTo p_0).2.1) ((s_DrawWayTo p_0).2.2)).2), .bool ((s_SetStage ((s_DrawWayTo p_0).1) ((s_DrawWayTo p_0).2.1) ((s_DrawWayTo p_0).2.2)).2), .bool (!(((i_SetStage ((s_DrawWayTo p_0).1) ((s_DrawWayTo p_0).2.1) ((s_DrawWayTo p_0).2.2)).2) == ((s_SetStage ((s_DrawWayTo p_0).1) ((s_DrawWayTo p_0).2.1) ((s_DrawWayTo p_0).2.2)).2))), .bool (!(((i_SetStage ((s_DrawWayTo p_0).1) ((s_DrawWayTo p_0).2.1) ((s_DrawWayTo p_0).2.2)).2) == ((s_SetStage ((s_DrawWayTo p_0).1) ((s_DrawWayTo p_0).2.1) ((s_DrawWayTo p_0).2.2)).2))), .bool (!(((i_SetStage ((s_DrawWayTo p_0).1) ((s_DrawWayTo p_0).2.1) ((s_DrawWayTo p_0).2.2)).2) == ((s_SetStage ((s_DrawWayTo p_0).1) ((s_DrawWayTo p_0).2.1) ((s_DrawWayTo p_0).2.2)).2))), .agg #[.string (bs ((i_SetStage ((s_DrawWayTo p_0).1) ((s_DrawWayTo p_0).2.1) ((s_DrawWayTo p_0).2.2)).1.Name)), .slice A48 (((i_SetStage ((s_DrawWayTo p_0).1) ((s_DrawWayTo p_0).2.1) ((s_DrawWayTo p_0).2.2)).1.Cols).length) c48, .slice A49 (((i_SetStage ((s_DrawWayTo p_0).1) ((s_DrawWayTo p_0).2.1) ((s_DrawWayTo p_0).2.2)).1.Idxs).length) c49], .agg #[.string (bs ((s_SetStage ((s_DrawWayTo p_0).1) ((s_DrawWayTo p_0).2.1) ((s_DrawWayTo p_0).2.2)).1.Name)), .slice A76 (((s_SetStage ((s_DrawWayTo p_0).1) ((s_DrawWayTo p_0).2.1) ((s_DrawWayTo p_0).2.2)).1.Cols).length) c76, .slice A77 (((s_SetStage ((s_DrawWayTo p_0).1) ((s_DrawWayTo p_0).2.1) ((s_DrawWayTo p_0).2.2)).1.Idxs).length) c77], .bool ((l_qSameT ((i_SetStage ((s_DrawWayTo p_0).1) ((s_DrawWayTo p_0).2.1) ((s_DrawWayTo p_0).2.2)).1) ((s_SetStage ((s_DrawWayTo p_0).1) ((s_DrawWayTo p_0).2.1) ((s_DrawWayTo p_0).2.2)).1))), .bool (!(l_qSameT ((i_SetStage ((s_DrawWayTo p_0).1) ((s_DrawWayTo p_0).2.1) ((s_DrawWayTo p_0).2.2)).1) ((s_SetStage ((s_DrawWayTo p_0).1) ((s_DrawWayTo p_0).2.1) ((s_DrawWayTo p_0).2.2)).1))), .bool (!(l_qSameT ((i_SetStage ((s_DrawWayTo p_0).1) ((s_DrawWayTo p_0).2.1) ((s_DrawWayTo p_0).2.2)).1) ((s_SetStage ((s_DrawWayTo p_0).1) ((s_DrawWayTo p_0).2.1) ((s_DrawWayTo p_0).2.2)).1))), .bool (!(l_qSameT ((i_SetStage ((s_DrawWayTo p_0).1) ((s_DrawWayTo p_0).2.1) ((s_DrawWayTo p_0).2.2)).1) ((s_SetStage ((s_DrawWayTo p_0).1) ((s_DrawWayTo p_0).2.1) ((s_DrawWayTo p_0).2.2)).1))), .bool ((i_IdxAt ((s_DrawWayTo p_0).1) ((s_DrawWayTo p_0).2.1)).2), .bool ((s_IdxAt ((s_DrawWayTo p_0).1) ((s_DrawWayTo p_0).2.1)).2), .bool (!(((i_IdxAt ((s_DrawWayTo p_0).1) ((s_DrawWayTo p_0).2.1)).2) == ((s_IdxAt ((s_DrawWayTo p_0).1) ((s_DrawWayTo p_0).2.1)).2))), .bool (!(((i_IdxAt ((s_DrawWayTo p_0).1) ((s_DrawWayTo p_0).2.1)).2) == ((s_IdxAt ((s_DrawWayTo p_0).1) ((s_DrawWayTo p_0).2.1)).2))), .bool (!(((i_IdxAt ((s_DrawWayTo p_0).1) ((s_DrawWayTo p_0).2.1)).2) == ((s_IdxAt ((s_DrawWayTo p_0).1) ((s_DrawWayTo p_0).2.1)).2))), .agg #[.string (bs ((i_IdxAt ((s_DrawWayTo p_0).1) ((s_DrawWayTo p_0).2.1)).1.Name)), .int .i64 ((i_IdxAt ((s_DrawWayTo p_0).1) ((s_DrawWayTo p_0).2.1)).1.Col), .int .i64 ((i_IdxAt ((s_DrawWayTo p_0).1) ((s_DrawWayTo p_0).2.1)).1.Stage)], .agg #[.string (bs ((s_IdxAt ((s_DrawWayTo p_0).1) ((s_DrawWayTo p_0).2.1)).1.Name)), .int .i64 ((s_IdxAt ((s_DrawWayTo p_0).1) ((s_DrawWayTo p_0).2.1)).1.Col), .int .i64 ((s_IdxAt ((s_DrawWayTo p_0).1) ((s_DrawWayTo p_0).2.1)).1.Stage)], .bool (!((((i_IdxAt ((s_DrawWayTo p_0).1) ((s_DrawWayTo p_0).2.1)).1.Name) == ((s_IdxAt ((s_DrawWayTo p_0).1) ((s_DrawWayTo p_0).2.1)).1.Name)) && ((decide (((i_IdxAt ((s_DrawWayTo p_0).1) ((s_DrawWayTo p_0).2.1)).1.Col) = ((s_IdxAt ((s_DrawWayTo p_0).1) ((s_DrawWayTo p_0).2.1)).1.Col))) && (decide (((i_IdxAt ((s_DrawWayTo p_0).1) ((s_DrawWayTo p_0).2.1)).1.Stage) = ((s_IdxAt ((s_DrawWayTo p_0).1) ((s_DrawWayTo p_0).2.1)).1.Stage)))))), .bool (!((((i_IdxAt ((s_DrawWayTo p_0).1) ((s_DrawWayTo p_0).2.1)).1.Name) == ((s_IdxAt ((s_DrawWayTo p_0).1) ((s_DrawWayTo p_0).2.1)).1.Name)) && ((decide (((i_IdxAt ((s_DrawWayTo p_0).1) ((s_DrawWayTo p_0).2.1)).1.Col) = ((s_IdxAt ((s_DrawWayTo p_0).1) ((s_DrawWayTo p_0).2.1)).1.Col))) && (decide (((i_IdxAt ((s_DrawWayTo p_0).1) ((s_DrawWayTo p_0).2.1)).1.Stage) = ((s_IdxAt ((s_DrawWayTo p_0).1) ((s_DrawWayTo p_0).2.1)).1.Stage)))))), .bool (!((((i_IdxAt ((s_DrawWayTo p_0).1) ((s_DrawWayTo p_0).2.1)).1.Name) == ((s_IdxAt ((s_DrawWayTo p_0).1) ((s_DrawWayTo p_0).2.1)).1.Name)) && ((decide (((i_IdxAt ((s_DrawWayTo p_0).1) ((s_DrawWayTo p_0).2.1)).1.Col) = ((s_IdxAt ((s_DrawWayTo p_0).1) ((s_DrawWayTo p_0).2.1)).1.Col))) && (decide (((i_IdxAt ((s_DrawWayTo p_0).1) ((s_DrawWayTo p_0).2.1)).1.Stage) = ((s_IdxAt ((s_DrawWayTo p_0).1) ((s_DrawWayTo p_0).2.1)).1.Stage)))))), undef, undef, undef, undef, undef, .bool (true)] Tryz.follows rfl ⟨?_, ?_, ?_, ?_, ?_, ?_, ?_, ?_, ?_, ?_, ?_, ?_, ?_, ?_, ?_, ?_, ?_, ?_, ?_, ?_, ?_, ?_, ?_, ?_, ?_, ?_, ?_, ?_, ?_, ?_, ?_, ?_, ?_, ?_, ?_, ?_, ?_, trivial⟩ ?_
        ·exact oI rfl fun h => yM rfl (h.old 9 _ rfl rfl) kI
        ·exact oI rfl fun h => yM rfl (h.old 11 _ rfl rfl) kI
        ·exact oI rfl fun h => yl_bneq un4 rfl (h.dt 0 96 rfl rfl rfl) (h.dt 1 97 rfl rfl rfl) kI
        ·exact oI rfl fun h => yM rfl (h.dt 2 98 rfl rfl rfl) kI
        ·exact oW rfl rfl rfl rfl (not_t hb139) fun h => yM rfl (h.old 8 _ rfl rfl) kI
        ·exact oW rfl rfl rfl rfl (not_t hb139) fun h => yM rfl (h.old 10 _ rfl rfl) kI
        ·intro L2650 w2651 hi2652
         have hE2653 := hi2652.ex
         have hE2653z := Ex.size hE2653
         exact OpR.want rfl rfl (hi2652.dt 3 99 rfl rfl rfl) (not_t hb139) (yC en11 rfl (oc (hi2652.dt 4 100 rfl rfl rfl) (oc (hi2652.dt 5 101 rfl rfl rfl) oz)) (Cal.mono (c_l_qSameTs ((i_WayTo ((s_DrawWayTo p_0).1) ((s_DrawWayTo p_0).2.1) ((s_DrawWayTo p_0).2.2)).1) ((s_WayTo ((s_DrawWayTo p_0).1) ((s_DrawWayTo p_0).2.1) ((s_DrawWayTo p_0).2.2)).1) (RdS.up (OwnL.rd good_Table (OwnD.own goodO_Table good_Table (OwnD.ex goodO_Table q2541 hE2653))) good_Table) (RdS.up (OwnL.rd good_Table (OwnD.own goodO_Table good_Table (OwnD.ex goodO_Table (OwnD.only goodO_Table (OwnD.ex goodO_Table (OwnD.ex goodO_Table (OwnD.only goodO_Table (OwnD.ex goodO_Table (OwnD.ex goodO_Table (OwnD.only goodO_Table (OwnD.ex goodO_Table (OwnD.ex goodO_Table (OwnD.only goodO_Table (OwnD.ex goodO_Table (OwnD.ex goodO_Table h38 hE52) hE61) hO64 oM) hE80) hE89) hO92 oM) hE106) hE112) hO115 oM) hE129) hE135) hO138 oM) hE2653))) good_Table) ho29 ho39) fun _ _ h => h))
        ·exact oW rfl rfl rfl rfl (not_t hb139) fun h => yl_not rfl (h.dt 6 102 rfl rfl rfl) kI
        ·exact oI rfl fun h => yl_pick_f rfl (h.dt 3 99 rfl rfl rfl) (not_t hb139) (h.dt 7 103 rfl rfl rfl) kI
        ·exact oI rfl fun h => yM rfl (h.dt 8 104 rfl rfl rfl) kI
        ·exact oW rfl rfl rfl rfl (not_t hb168) fun h => yM rfl (h.old 13 _ rfl rfl) kI
        ·exact oW rfl rfl rfl rfl (not_t hb168) fun h => yM rfl (h.old 15 _ rfl rfl) kI
        ·exact oW rfl rfl rfl rfl (not_t hb168) fun h => yl_bneq un4 rfl (h.dt 10 106 rfl rfl rfl) (h.dt 11 107 rfl rfl rfl) kI
        ·exact oI rfl fun h => yl_pick_f rfl (h.dt 9 105 rfl rfl rfl) (not_t hb168) (h.dt 12 108 rfl rfl rfl) kI
        ·exact oI rfl fun h => yM rfl (h.dt 13 109 rfl rfl rfl) kI
        ·intro L2711 w2712 hi2713
         have hE2714 := hi2713.ex
         have hE2714z := Ex.size hE2714
         exact OpR.want rfl rfl (hi2713.dt 14 110 rfl rfl rfl) (not_t hb197) (Yl.sameI (yl_loadN ty26 rfl (hi2713.old 12 _ rfl rfl) ((Box.ex (Box.only (Box.ex (Box.ex (Box.only (Box.ex (Box.ex (Box.only (Box.ex (Box.ex hB63 hE80) hE89) hO92 oM) hE106) hE112) hO115 oM) hE129) hE135) hO138 oM) hE2714).cells (n := 3) rfl) rfl kI))
        ·intro L2718 w2719 hi2720
         have hE2721 := hi2720.ex
         have hE2721z := Ex.size hE2721
         exact OpR.want rfl rfl (hi2720.dt 14 110 rfl rfl rfl) (not_t hb197) (Yl.sameI (yl_loadN ty26 rfl (hi2720.old 14 _ rfl rfl) ((Box.ex (Box.only (Box.ex (Box.ex (Box.only (Box.ex (Box.ex hB91 hE106) hE112) hO115 oM) hE129) hE135) hO138 oM) hE2721).cells (n := 3) rfl) rfl kI))
        ·intro L2725 w2726 hi2727
         have hE2728 := hi2727.ex
         have hE2728z := Ex.size hE2728
         exact OpR.want rfl rfl (hi2727.dt 14 110 rfl rfl rfl) (not_t hb197) (yC en12 rfl (oc (hi2727.dt 15 111 rfl rfl rfl) (oc (hi2727.dt 16 112 rfl rfl rfl) oz)) (Cal.mono (c_l_qSameT ((i_SetStage ((s_DrawWayTo p_0).1) ((s_DrawWayTo p_0).2.1) ((s_DrawWayTo p_0).2.2)).1) ((s_SetStage ((s_DrawWayTo p_0).1) ((s_DrawWayTo p_0).2.1) ((s_DrawWayTo p_0).2.2)).1) (RdS.up (OwnL.rd gS (OwnL.ex gS (OwnL.only gS (OwnL.ex gS (OwnL.ex gS (OwnL.only gS (OwnL.ex gS (OwnL.ex gS (OwnL.only gS (OwnL.ex gS (OwnL.ex gS (OwnL.only gS (OwnL.ex gS h48 hE61) hO64 oM) hE80) hE89) hO92 oM) hE106) hE112) hO115 oM) hE129) hE135) hO138 oM) hE2728)) gS) (RdS.up (OwnL.rd gI (OwnL.ex gI (OwnL.only gI (OwnL.ex gI (OwnL.ex gI (OwnL.only gI (OwnL.ex gI (OwnL.ex gI (OwnL.only gI (OwnL.ex gI (OwnL.ex gI (OwnL.only gI (OwnL.ex gI h49 hE61) hO64 oM) hE80) hE89) hO92 oM) hE106) hE112) hO115 oM) hE129) hE135) hO138 oM) hE2728)) gI) (RdS.up (OwnL.rd gS (OwnL.ex gS (OwnL.only gS (OwnL.ex gS (OwnL.ex gS (OwnL.only gS (OwnL.ex gS (OwnL.ex gS (OwnL.only gS (OwnL.ex gS h76 hE89) hO92 oM) hE106) hE112) hO115 oM) hE129) hE135) hO138 oM) hE2728)) gS) (RdS.up (OwnL.rd gI (OwnL.ex gI (OwnL.only gI (OwnL.ex gI (OwnL.ex gI (OwnL.only gI (OwnL.ex gI (OwnL.ex gI (OwnL.only gI (OwnL.ex gI h77 hE89) hO92 oM) hE106) hE112) hO115 oM) hE129) hE135) hO138 oM) hE2728)) gI) ho50 ho78) fun _ _ h => h))
        ·exact oW rfl rfl rfl rfl (not_t hb197) fun h => yl_not rfl (h.dt 17 113 rfl rfl rfl) kI
        ·exact oI rfl fun h => yl_pick_f rfl (h.dt 14 110 rfl rfl rfl) (not_t hb197) (h.dt 18 114 rfl rfl rfl) kI
        ·exact oI rfl fun h => yM rfl (h.dt 19 115 rfl rfl rfl) kI
        ·exact oW rfl rfl rfl rfl (not_t hb284) fun h => yM rfl (h.old 17 _ rfl rfl) kI
        ·exact oW rfl rfl rfl rfl (not_t hb284) fun h => yM rfl (h.old 19 _ rfl rfl) kI
        ·exact oW rfl rfl rfl rfl (not_t hb284) fun h => yl_bneq un4 rfl (h.dt 21 117 rfl rfl rfl) (h.dt 22 118 rfl rfl rfl) kI
        ·exact oI rfl fun h => yl_pick_f rfl (h.dt 20 116 rfl rfl rfl) (not_t hb284) (h.dt 23 119 rfl rfl rfl) kI
        ·exact oI rfl fun h => yM rfl (h.dt 24 120 rfl rfl rfl) kI
        ·intro L2790 w2791 hi2792
         have hE2793 := hi2792.ex
         have hE2793z := Ex.size hE2793
         exact OpR.want rfl rfl (hi2792.dt 25 121 rfl rfl rfl) (not_t hb371) (Yl.sameI (yl_loadN ty35 rfl (hi2792.old 16 _ rfl rfl) ((Box.ex (Box.only (Box.ex (Box.ex hB114 hE129) hE135) hO138 oM) hE2793).cells (n := 3) rfl) rfl kI))
        ·exact oW rfl rfl rfl rfl (not_t hb371) fun h => yl_loadN ty35 rfl (h.old 18 _ rfl rfl) ((Box.ex hB137 h.ex).cells (n := 3) rfl) rfl kI
        ·exact oW rfl rfl rfl rfl (not_t hb371) fun h => yl_aneq (xs := [.string (bs ((i_IdxAt ((s_DrawWayTo p_0).1) ((s_DrawWayTo p_0).2.1)).1.Name)), .int .i64 ((i_IdxAt ((s_DrawWayTo p_0).1) ((s_DrawWayTo p_0).2.1)).1.Col), .int .i64 ((i_IdxAt ((s_DrawWayTo p_0).1) ((s_DrawWayTo p_0).2.1)).1.Stage)]) (ys := [.string (bs ((s_IdxAt ((s_DrawWayTo p_0).1) ((s_DrawWayTo p_0).2.1)).1.Name)), .int .i64 ((s_IdxAt ((s_DrawWayTo p_0).1) ((s_DrawWayTo p_0).2.1)).1.Col), .int .i64 ((s_IdxAt ((s_DrawWayTo p_0).1) ((s_DrawWayTo p_0).2.1)).1.Stage)]) Tryz.ae35 rfl (h.dt 26 122 rfl rfl rfl) (h.dt 27 123 rfl rfl rfl) kI
        ·exact oI rfl fun h => yl_pick_f rfl (h.dt 25 121 rfl rfl rfl) (not_t hb371) (h.dt 28 124 rfl rfl rfl) kI
        ·exact oI rfl fun h => yM rfl (h.dt 29 125 rfl rfl rfl) kI
        ·exact oS rfl rfl rfl rfl rfl (not_f hb461)
        ·exact oS rfl rfl rfl rfl rfl (not_f hb461)
        ·exact oS rfl rfl rfl rfl rfl (not_f hb461)
        ·exact oS rfl rfl rfl rfl rfl (not_f hb461)
        ·exact oS rfl rfl rfl rfl rfl (not_f hb461)
        ·exact oI rfl fun h => yl_pick_t rfl (h.dt 30 126 rfl rfl rfl) (not_f hb461) rfl kI
        ·intro fl2856 fh2857 L2853 w2854 hp2855
         have hE2858 := hp2855.ex
         have hE2858z := Ex.size hE2858
         refine dn (CW.sub (sC 1 (hp2855.old 1 _ rfl rfl) (sC 5 (hp2855.old 5 _ rfl rfl) (sC 8 (hp2855.old 8 _ rfl rfl) (sC 9 (hp2855.old 9 _ rfl rfl) (sC 12 (hp2855.old 12 _ rfl rfl) (sC 132 (hp2855.nt 36 132 rfl rfl rfl) (Sub.nil _))))))) (CW.cond_t rfl rfl (cR (sA rfl (dn ?_)))))
         refine CW.ret (tr (rr rfl (.cons rfl .nil) ?_))
         have hM2865 : (l_FnTables p_0 p_1) = (false) := by simp only [l_FnTables, hb3, hb139, hb168, hb197, hb284, hb371, hb461, cL]
         rw [hM2865]
         exact ⟨rfl, (Ex.trans (Below.only (Ex.trans (Ex.trans (Below.only (Ex.trans (Ex.trans (Below.only (Ex.trans (Ex.trans (Below.only (Ex.trans (Ex.trans (Ex.trans (Ex.trans (Below.only (Ex.trans (Ex.trans (Ex.refl w) hE11) hE18) hO21 oM) hE31) hE41) hE52) hE61) hO64 oM) hE80) hE89) hO92 oM) hE106) hE112) hO115 oM) hE129) hE135) hO138 oM) hE2858)⟩
      ·have q2897 := OwnD.only goodO_Table (OwnD.ex goodO_Table (OwnD.ex goodO_Table (OwnD.only goodO_Table (OwnD.ex goodO_Table (OwnD.ex goodO_Table (OwnD.only goodO_Table (OwnD.ex goodO_Table (OwnD.ex goodO_Table (OwnD.only goodO_Table (OwnD.ex goodO_Table (OwnD.ex goodO_Table (OwnD.ex goodO_Table h28 hE41) hE52) hE61) hO64 oM) hE80) hE89) hO92 oM) hE106) hE112) hO115 oM) hE129) hE135) hO138 oM
       refine drI 37 [.bool ((i_WayTo ((s_DrawWayTo p_0).1) ((s_DrawWayTo p_0).2.1) ((s_DrawWayTo p_0).2.2)).2), .bool ((s_WayTo ((s_DrawWayTo p_0).1) ((s_DrawWayTo p_0).2.1) ((s_DrawWayTo p_0).2.2)).2), .bool (!(((i_WayTo ((s_DrawWayTo p_0).1) ((s_DrawWayTo p_0).2.1) ((s_DrawWayTo p_0).2.2)).2) == ((s_WayTo ((s_DrawWayTo p_0).1) ((s_DrawWayTo p_0).2.1) ((s_DrawWayTo p_0).2.2)).2))), .bool (!(((i_WayTo ((s_DrawWayTo p_0).1) ((s_DrawWayTo p_0).2.1) ((s_DrawWayTo p_0).2.2)).2) == ((s_WayTo ((s_DrawWayTo p_0).1) ((s_DrawWayTo p_0).2.1) ((s_DrawWayTo p_0).2.2)).2))), .slice A28 (((i_WayTo ((s_DrawWayTo p_0).1) ((s_DrawWayTo p_0).2.1) ((s_DrawWayTo p_0).2.2)).1).length) c28, .slice A38 (((s_WayTo ((s_DrawWayTo p_0).1) ((s_DrawWayTo p_0).2.1) ((s_DrawWayTo p_0).2.2)).1).length) c38, .bool ((l_qSameTs ((i_WayTo ((s_DrawWayTo p_0).1) ((s_DrawWayTo p_0).2.1) ((s_DrawWayTo p_0).2.2)).1) ((s_WayTo ((s_DrawWayTo p_0).1) ((s_DrawWayTo p_0).2.1) ((s_DrawWayTo p_0).2.2)).1))), .bool (!(l_qSameTs ((i_WayTo ((s_DrawWayTo p_0).1) ((s_DrawWayTo p_0).2.1) ((s_DrawWayTo p_0).2.2)).1) ((s_WayTo ((s_DrawWayTo p_0).1) ((s_DrawWayTo p_0).2.1) ((s_DrawWayTo p_0).2.2)).1))), .bool (!(l_qSameTs ((i_WayTo ((s_DrawWayTo p_0).1) ((s_DrawWayTo p_0).2.1) ((s_DrawWayTo p_0).2.2)).1) ((s_WayTo ((s_DrawWayTo p_0).1) ((s_DrawWayTo p_0).2.1) ((s_DrawWayTo p_0).2.2)).1))), .bool (!(l_qSameTs ((i_WayTo ((s_DrawWayTo p_0).1) ((s_DrawWayTo p_0).2.1) ((s_DrawWayTo p_0).2.2)).1) ((s_WayTo ((s_DrawWayTo p_0).1) ((s_DrawWayTo p_0).2.1) ((s_DrawWayTo p_0).2.2)).1))), .bool ((i_SetStage ((s_DrawWayTo p_0).1) ((s_DrawWayTo p_0).2.1) ((s_DrawWayTo p_0).2.2)).2), .bool ((s_SetStage ((s_DrawWayTo p_0).1) ((s_DrawWayTo p_0).2.1) ((s_DrawWayTo p_0).2.2)).2), .bool (!(((i_SetStage ((s_DrawWayTo p_0).1) ((s_DrawWayTo p_0).2.1) ((s_DrawWayTo p_0).2.2)).2) == ((s_SetStage ((s_DrawWayTo p_0).1) ((s_DrawWayTo p_0).2.1) ((s_DrawWayTo p_0).2.2)).2))), .bool (!(((i_SetStage ((s_DrawWayTo p_0).1) ((s_DrawWayTo p_0).2.1) ((s_DrawWayTo p_0).2.2)).2) == ((s_SetStage ((s_DrawWayTo p_0).1) ((s_DrawWayTo p_0).2.1) ((s_DrawWayTo p_0).2.2)).2))), .bool (!(((i_SetStage ((s_DrawWayTo p_0).1) ((s_DrawWayTo p_0).2.1) ((s_DrawWayTo p_0).2.2)).2) == ((s_SetStage ((s_DrawWayTo p_0).1) ((s_DrawWayTo p_0).2.1) ((s_DrawWayTo p_0).2.2)).2))), .agg #[.string (bs ((i_SetStage ((s_DrawWayTo p_0).1) ((s_DrawWayTo p_0).2.1) ((s_DrawWayTo p_0).2.2)).1.Name)), .slice A48 (((i_SetStage ((s_DrawWayTo p_0).1) ((s_DrawWayTo p_0).2.1) ((s_DrawWayTo p_0).2.2)).1.Cols).length) c48, .slice A49 (((i_SetStage ((s_DrawWayTo p_0).1) ((s_DrawWayTo p_0).2.1) ((s_DrawWayTo p_0).2.2)).1.Idxs).length) c49], .agg #[.string (bs ((s_SetStage ((s_DrawWayTo p_0).1) ((s_DrawWayTo p_0).2.1) ((s_DrawWayTo p_0).2.2)).1.Name)), .slice A76 (((s_SetStage ((s_DrawWayTo p_0).1) ((s_DrawWayTo p_0).2.1) ((s_DrawWayTo p_0).2.2)).1.Cols).length) c76, .slice A77 (((s_SetStage ((s_DrawWayTo p_0).1) ((s_DrawWayTo p_0).2.1) ((s_DrawWayTo p_0).2.2)).1.Idxs).length) c77], .bool ((l_qSameT ((i_SetStage ((s_DrawWayTo p_0).1) ((s_DrawWayTo p_0).2.1) ((s_DrawWayTo p_0).2.2)).1) ((s_SetStage ((s_DrawWayTo p_0).1) ((s_DrawWayTo p_0).2.1) ((s_DrawWayTo p_0).2.2)).1))), .bool (!(l_qSameT ((i_SetStage ((s_DrawWayTo p_0).1) ((s_DrawWayTo p_0).2.1) ((s_DrawWayTo p_0).2.2)).1) ((s_SetStage ((s_DrawWayTo p_0).1) ((s_DrawWayTo p_0).2.1) ((s_DrawWayTo p_0).2.2)).1))), .bool (!(l_qSameT ((i_SetStage ((s_DrawWayTo p_0).1) ((s_DrawWayTo p_0).2.1) ((s_DrawWayTo p_0).2.2)).1) ((s_SetStage ((s_DrawWayTo p_0).1) ((s_DrawWayTo p_0).2.1) ((s_DrawWayTo p_0).2.2)).1))), .bool (!(l_qSameT ((i_SetStage ((s_DrawWayTo p_0).1) ((s_DrawWayTo p_0).2.1) ((s_DrawWayTo p_0).2.2)).1) ((s_SetStage ((s_DrawWayTo p_0).1) ((s_DrawWayTo p_0).2.1) ((s_DrawWayTo p_0).2.2)).1))), .bool ((i_IdxAt ((s_DrawWayTo p_0).1) ((s_DrawWayTo p_0).2.1)).2), .bool ((s_IdxAt ((s_DrawWayTo p_0).1) ((s_DrawWayTo p_0).2.1)).2), .bool (!(((i_IdxAt ((s_DrawWayTo p_0).1) ((s_DrawWayTo p_0).2.1)).2) == ((s_IdxAt ((s_DrawWayTo p_0).1) ((s_DrawWayTo p_0).2.1)).2))), .bool (!(((i_IdxAt ((s_DrawWayTo p_0).1) ((s_DrawWayTo p_0).2.1)).2) == ((s_IdxAt ((s_DrawWayTo p_0).1) ((s_DrawWayTo p_0).2.1)).2))), .bool (!(((i_IdxAt ((s_DrawWayTo p_0).1) ((s_DrawWayTo p_0).2.1)).2) == ((s_IdxAt ((s_DrawWayTo p_0).1) ((s_DrawWayTo p_0).2.1)).2))), undef, undef, undef, .bool (true), .bool (true), undef, undef, undef, undef, undef, .bool (true)] Tryz.follows rfl ⟨?_, ?_, ?_, ?_, ?_, ?_, ?_, ?_, ?_, ?_, ?_, ?_, ?_, ?_, ?_, ?_, ?_, ?_, ?_, ?_, ?_, ?_, ?_, ?_, ?_, ?_, ?_, ?_, ?_, ?_, ?_, ?_, ?_, ?_, ?_, ?_, ?_, trivial⟩ ?_
       ·exact oI rfl fun h => yM rfl (h.old 9 _ rfl rfl) kI
       ·exact oI rfl fun h => yM rfl (h.old 11 _ rfl rfl) kI
       ·exact oI rfl fun h => yl_bneq un4 rfl (h.dt 0 96 rfl rfl rfl) (h.dt 1 97 rfl rfl rfl) kI
       ·exact oI rfl fun h => yM rfl (h.dt 2 98 rfl rfl rfl) kI
       ·exact oW rfl rfl rfl rfl (not_t hb139) fun h => yM rfl (h.old 8 _ rfl rfl) kI
       ·exact oW rfl rfl rfl rfl (not_t hb139) fun h => yM rfl (h.old 10 _ rfl rfl) kI
       ·intro L3003 w3004 hi3005
        have hE3006 := hi3005.ex
        have hE3006z := Ex.size hE3006
        exact OpR.want rfl rfl (hi3005.dt 3 99 rfl rfl rfl) (not_t hb139) (yC en11 rfl (oc (hi3005.dt 4 100 rfl rfl rfl) (oc (hi3005.dt 5 101 rfl rfl rfl) oz)) (Cal.mono (c_l_qSameTs ((i_WayTo ((s_DrawWayTo p_0).1) ((s_DrawWayTo p_0).2.1) ((s_DrawWayTo p_0).2.2)).1) ((s_WayTo ((s_DrawWayTo p_0).1) ((s_DrawWayTo p_0).2.1) ((s_DrawWayTo p_0).2.2)).1) (RdS.up (OwnL.rd good_Table (OwnD.own goodO_Table good_Table (OwnD.ex goodO_Table q2897 hE3006))) good_Table) (RdS.up (OwnL.rd good_Table (OwnD.own goodO_Table good_Table (OwnD.ex goodO_Table (OwnD.only goodO_Table (OwnD.ex goodO_Table (OwnD.ex goodO_Table (OwnD.only goodO_Table (OwnD.ex goodO_Table (OwnD.ex goodO_Table (OwnD.only goodO_Table (OwnD.ex goodO_Table (OwnD.ex goodO_Table (OwnD.only goodO_Table (OwnD.ex goodO_Table (OwnD.ex goodO_Table h38 hE52) hE61) hO64 oM) hE80) hE89) hO92 oM) hE106) hE112) hO115 oM) hE129) hE135) hO138 oM) hE3006))) good_Table) ho29 ho39) fun _ _ h => h))
       ·exact oW rfl rfl rfl rfl (not_t hb139) fun h => yl_not rfl (h.dt 6 102 rfl rfl rfl) kI
       ·exact oI rfl fun h => yl_pick_f rfl (h.dt 3 99 rfl rfl rfl) (not_t hb139) (h.dt 7 103 rfl rfl rfl) kI
       ·exact oI rfl fun h => yM rfl (h.dt 8 104 rfl rfl rfl) kI
       ·exact oW rfl rfl rfl rfl (not_t hb168) fun h => yM rfl (h.old 13 _ rfl rfl) kI
       ·exact oW rfl rfl rfl rfl (not_t hb168) fun h => yM rfl (h.old 15 _ rfl rfl) kI
       ·exact oW rfl rfl rfl rfl (not_t hb168) fun h => yl_bneq un4 rfl (h.dt 10 106 rfl rfl rfl) (h.dt 11 107 rfl rfl rfl) kI
       ·exact oI rfl fun h => yl_pick_f rfl (h.dt 9 105 rfl rfl rfl) (not_t hb168) (h.dt 12 108 rfl rfl rfl) kI
       ·exact oI rfl fun h => yM rfl (h.dt 13 109 rfl rfl rfl) kI
       ·intro L3064 w3065 hi3066
        have hE3067 := hi3066.ex
        have hE3067z := Ex.size hE3067
        exact OpR.want rfl rfl (hi3066.dt 14 110 rfl rfl rfl) (not_t hb197) (Yl.sameI (yl_loadN ty26 rfl (hi3066.old 12 _ rfl rfl) ((Box.ex (Box.only (Box.ex (Box.ex (Box.only (Box.ex (Box.ex (Box.only (Box.ex (Box.ex hB63 hE80) hE89) hO92 oM) hE106) hE112) hO115 oM) hE129) hE135) hO138 oM) hE3067).cells (n := 3) rfl) rfl kI))
       ·intro L3071 w3072 hi3073
        have hE3074 := hi3073.ex
        have hE3074z := Ex.size hE3074
        exact OpR.want rfl rfl (hi3073.dt 14 110 rfl rfl rfl) (not_t hb197) (Yl.sameI (yl_loadN ty26 rfl (hi3073.old 14 _ rfl rfl) ((Box.ex (Box.only (Box.ex (Box.ex (Box.only (Box.ex (Box.ex hB91 hE106) hE112) hO115 oM) hE129) hE135) hO138 oM) hE3074).cells (n := 3) rfl) rfl kI))
       ·intro L3078 w3079 hi3080
        have hE3081 := hi3080.ex
        have hE3081z := Ex.size hE3081
        exact OpR.want rfl rfl (hi3080.dt 14 110 rfl rfl rfl) (not_t hb197) (yC en12 rfl (oc (hi3080.dt 15 111 rfl rfl rfl) (oc (hi3080.dt 16 112 rfl rfl rfl) oz)) (Cal.mono (c_l_qSameT ((i_SetStage ((s_DrawWayTo p_0).1) ((s_DrawWayTo p_0).2.1) ((s_DrawWayTo p_0).2.2)).1) ((s_SetStage ((s_DrawWayTo p_0).1) ((s_DrawWayTo p_0).2.1) ((s_DrawWayTo p_0).2.2)).1) (RdS.up (OwnL.rd gS (OwnL.ex gS (OwnL.only gS (OwnL.ex gS (OwnL.ex gS (OwnL.only gS (OwnL.ex gS (OwnL.ex gS (OwnL.only gS (OwnL.ex gS (OwnL.ex gS (OwnL.only gS (OwnL.ex gS h48 hE61) hO64 oM) hE80) hE89) hO92 oM) hE106) hE112) hO115 oM) hE129) hE135) hO138 oM) hE3081)) gS) (RdS.up (OwnL.rd gI (OwnL.ex gI (OwnL.only gI (OwnL.ex gI (OwnL.ex gI (OwnL.only gI (OwnL.ex gI (OwnL.ex gI (OwnL.only gI (OwnL.ex gI (OwnL.ex gI (OwnL.only gI (OwnL.ex gI h49 hE61) hO64 oM) hE80) hE89) hO92 oM) hE106) hE112) hO115 oM) hE129) hE135) hO138 oM) hE3081)) gI) (RdS.up (OwnL.rd gS (OwnL.ex gS (OwnL.only gS (OwnL.ex gS (OwnL.ex gS (OwnL.only gS (OwnL.ex gS (OwnL.ex gS (OwnL.only gS (OwnL.ex gS h76 hE89) hO92 oM) hE106) hE112) hO115 oM) hE129) hE135) hO138 oM) hE3081)) gS) (RdS.up (OwnL.rd gI (OwnL.ex gI (OwnL.only gI (OwnL.ex gI (OwnL.ex gI (OwnL.only gI (OwnL.ex gI (OwnL.ex gI (OwnL.only gI (OwnL.ex gI h77 hE89) hO92 oM) hE106) hE112) hO115 oM) hE129) hE135) hO138 oM) hE3081)) gI) ho50 ho78) fun _ _ h => h))
       ·exact oW rfl rfl rfl rfl (not_t hb197) fun h => yl_not rfl (h.dt 17 113 rfl rfl rfl) kI
       ·exact oI rfl fun h => yl_pick_f rfl (h.dt 14 110 rfl rfl rfl) (not_t hb197) (h.dt 18 114 rfl rfl rfl) kI
       ·exact oI rfl fun h => yM rfl (h.dt 19 115 rfl rfl rfl) kI
       ·exact oW rfl rfl rfl rfl (not_t hb284) fun h => yM rfl (h.old 17 _ rfl rfl) kI
       ·exact oW rfl rfl rfl rfl (not_t hb284) fun h => yM rfl (h.old 19 _ rfl rfl) kI
       ·exact oW rfl rfl rfl rfl (not_t hb284) fun h => yl_bneq un4 rfl (h.dt 21 117 rfl rfl rfl) (h.dt 22 118 rfl rfl rfl) kI
       ·exact oI rfl fun h => yl_pick_f rfl (h.dt 20 116 rfl rfl rfl) (not_t hb284) (h.dt 23 119 rfl rfl rfl) kI
       ·exact oI rfl fun h => yM rfl (h.dt 24 120 rfl rfl rfl) kI
       ·exact oS rfl rfl rfl rfl rfl (not_f hb371)
       ·exact oS rfl rfl rfl rfl rfl (not_f hb371)
       ·exact oS rfl rfl rfl rfl rfl (not_f hb371)
       ·exact oI rfl fun h => yl_pick_t rfl (h.dt 25 121 rfl rfl rfl) (not_f hb371) rfl kI
       ·exact oI rfl fun h => yM rfl (h.dt 29 125 rfl rfl rfl) kI
       ·exact oS rfl rfl rfl rfl rfl rfl
       ·exact oS rfl rfl rfl rfl rfl rfl
       ·exact oS rfl rfl rfl rfl rfl rfl
       ·exact oS rfl rfl rfl rfl rfl rfl
       ·exact oS rfl rfl rfl rfl rfl rfl
       ·exact oI rfl fun h => yl_pick_t rfl (h.dt 30 126 rfl rfl rfl) rfl rfl kI
       ·intro fl3203 fh3204 L3200 w3201 hp3202
        have hE3205 := hp3202.ex
        have hE3205z := Ex.size hE3205
        refine dn (CW.sub (sC 1 (hp3202.old 1 _ rfl rfl) (sC 5 (hp3202.old 5 _ rfl rfl) (sC 8 (hp3202.old 8 _ rfl rfl) (sC 9 (hp3202.old 9 _ rfl rfl) (sC 12 (hp3202.old 12 _ rfl rfl) (sC 132 (hp3202.nt 36 132 rfl rfl rfl) (Sub.nil _))))))) (CW.cond_t rfl rfl (cR (sA rfl (dn ?_)))))
        refine CW.ret (tr (rr rfl (.cons rfl .nil) ?_))
        have hM3212 : (l_FnTables p_0 p_1) = (false) := by simp only [l_FnTables, hb3, hb139, hb168, hb197, hb284, hb371, cL]
        rw [hM3212]
        exact ⟨rfl, (Ex.trans (Below.only (Ex.trans (Ex.trans (Below.only (Ex.trans (Ex.trans (Below.only (Ex.trans (Ex.trans (Below.only (Ex.trans (Ex.trans (Ex.trans (Ex.trans (Below.only (Ex.trans (Ex.trans (Ex.refl w) hE11) hE18) hO21 oM) hE31) hE41) hE52) hE61) hO64 oM) hE80) hE89) hO92 oM) hE106) hE112) hO115 oM) hE129) hE135) hO138 oM) hE3205)⟩
     ·have q3244 := OwnD.only goodO_Table (OwnD.ex goodO_Table (OwnD.ex goodO_Table (OwnD.only goodO_Table (OwnD.ex goodO_Table (OwnD.ex goodO_Table (OwnD.only goodO_Table (OwnD.ex goodO_Table (OwnD.ex goodO_Table (OwnD.only goodO_Table (OwnD.ex goodO_Table (OwnD.ex goodO_Table (OwnD.ex goodO_Table h28 hE41) hE52) hE61) hO64 oM) hE80) hE89) hO92 oM) hE106) hE112) hO115 oM) hE129) hE135) hO138 oM
      refine drI 37 [.bool ((i_WayTo ((s_DrawWayTo p_0).1) ((s_DrawWayTo p_0).2.1) ((s_DrawWayTo p_0).2.2)).2), .bool ((s_WayTo ((s_DrawWayTo p_0).1) ((s_DrawWayTo p_0).2.1) ((s_DrawWayTo p_0).2.2)).2), .bool (!(((i_WayTo ((s_DrawWayTo p_0).1) ((s_DrawWayTo p_0).2.1) ((s_DrawWayTo p_0).2.2)).2) == ((s_WayTo ((s_DrawWayTo p_0).1) ((s_DrawWayTo p_0).2.1) ((s_DrawWayTo p_0).2.2)).2))), .bool (!(((i_WayTo ((s_DrawWayTo p_0).1) ((s_DrawWayTo p_0).2.1) ((s_DrawWayTo p_0).2.2)).2) == ((s_WayTo ((s_DrawWayTo p_0).1) ((s_DrawWayTo p_0).2.1) ((s_DrawWayTo p_0).2.2)).2))), .slice A28 (((i_WayTo ((s_DrawWayTo p_0).1) ((s_DrawWayTo p_0).2.1) ((s_DrawWayTo p_0).2.2)).1).length) c28, .slice A38 (((s_WayTo ((s_DrawWayTo p_0).1) ((s_DrawWayTo p_0).2.1) ((s_DrawWayTo p_0).2.2)).1).length) c38, .bool ((l_qSameTs ((i_WayTo ((s_DrawWayTo p_0).1) ((s_DrawWayTo p_0).2.1) ((s_DrawWayTo p_0).2.2)).1) ((s_WayTo ((s_DrawWayTo p_0).1) ((s_DrawWayTo p_0).2.1) ((s_DrawWayTo p_0).2.2)).1))), .bool (!(l_qSameTs ((i_WayTo ((s_DrawWayTo p_0).1) ((s_DrawWayTo p_0).2.1) ((s_DrawWayTo p_0).2.2)).1) ((s_WayTo ((s_DrawWayTo p_0).1) ((s_DrawWayTo p_0).2.1) ((s_DrawWayTo p_0).2.2)).1))), .bool (!(l_qSameTs ((i_WayTo ((s_DrawWayTo p_0).1) ((s_DrawWayTo p_0).2.1) ((s_DrawWayTo p_0).2.2)).1) ((s_WayTo ((s_DrawWayTo p_0).1) ((s_DrawWayTo p_0).2.1) ((s_DrawWayTo p_0).2.2)).1))), .bool (!(l_qSameTs ((i_WayTo ((s_DrawWayTo p_0).1) ((s_DrawWayTo p_0).2.1) ((s_DrawWayTo p_0).2.2)).1) ((s_WayTo ((s_DrawWayTo p_0).1) ((s_DrawWayTo p_0).2.1) ((s_DrawWayTo p_0).2.2)).1))), .bool ((i_SetStage ((s_DrawWayTo p_0).1) ((s_DrawWayTo p_0).2.1) ((s_DrawWayTo p_0).2.2)).2), .bool ((s_SetStage ((s_DrawWayTo p_0).1) ((s_DrawWayTo p_0).2.1) ((s_DrawWayTo p_0).2.2)).2), .bool (!(((i_SetStage ((s_DrawWayTo p_0).1) ((s_DrawWayTo p_0).2.1) ((s_DrawWayTo p_0).2.2)).2) == ((s_SetStage ((s_DrawWayTo p_0).1) ((s_DrawWayTo p_0).2.1) ((s_DrawWayTo p_0).2.2)).2))), .bool (!(((i_SetStage ((s_DrawWayTo p_0).1) ((s_DrawWayTo p_0).2.1) ((s_DrawWayTo p_0).2.2)).2) == ((s_SetStage ((s_DrawWayTo p_0).1) ((s_DrawWayTo p_0).2.1) ((s_DrawWayTo p_0).2.2)).2))), .bool (!(((i_SetStage ((s_DrawWayTo p_0).1) ((s_DrawWayTo p_0).2.1) ((s_DrawWayTo p_0).2.2)).2) == ((s_SetStage ((s_DrawWayTo p_0).1) ((s_DrawWayTo p_0).2.1) ((s_DrawWayTo p_0).2.2)).2))), .agg #[.string (bs ((i_SetStage ((s_DrawWayTo p_0).1) ((s_DrawWayTo p_0).2.1) ((s_DrawWayTo p_0).2.2)).1.Name)), .slice A48 (((i_SetStage ((s_DrawWayTo p_0).1) ((s_DrawWayTo p_0).2.1) ((s_DrawWayTo p_0).2.2)).1.Cols).length) c48, .slice A49 (((i_SetStage ((s_DrawWayTo p_0).1) ((s_DrawWayTo p_0).2.1) ((s_DrawWayTo p_0).2.2)).1.Idxs).length) c49], .agg #[.string (bs ((s_SetStage ((s_DrawWayTo p_0).1) ((s_DrawWayTo p_0).2.1) ((s_DrawWayTo p_0).2.2)).1.Name)), .slice A76 (((s_SetStage ((s_DrawWayTo p_0).1) ((s_DrawWayTo p_0).2.1) ((s_DrawWayTo p_0).2.2)).1.Cols).length) c76, .slice A77 (((s_SetStage ((s_DrawWayTo p_0).1) ((s_DrawWayTo p_0).2.1) ((s_DrawWayTo p_0).2.2)).1.Idxs).length) c77], .bool ((l_qSameT ((i_SetStage ((s_DrawWayTo p_0).1) ((s_DrawWayTo p_0).2.1) ((s_DrawWayTo p_0).2.2)).1) ((s_SetStage ((s_DrawWayTo p_0).1) ((s_DrawWayTo p_0).2.1) ((s_DrawWayTo p_0).2.2)).1))), .bool (!(l_qSameT ((i_SetStage ((s_DrawWayTo p_0).1) ((s_DrawWayTo p_0).2.1) ((s_DrawWayTo p_0).2.2)).1) ((s_SetStage ((s_DrawWayTo p_0).1) ((s_DrawWayTo p_0).2.1) ((s_DrawWayTo p_0).2.2)).1))), .bool (!(l_qSameT ((i_SetStage ((s_DrawWayTo p_0).1) ((s_DrawWayTo p_0).2.1) ((s_DrawWayTo p_0).2.2)).1) ((s_SetStage ((s_DrawWayTo p_0).1) ((s_DrawWayTo p_0).2.1) ((s_DrawWayTo p_0).2.2)).1))), .bool (!(l_qSameT ((i_SetStage ((s_DrawWayTo p_0).1) ((s_DrawWayTo p_0).2.1) ((s_DrawWayTo p_0).2.2)).1) ((s_SetStage ((s_DrawWayTo p_0).1) ((s_DrawWayTo p_0).2.1) ((s_DrawWayTo p_0).2.2)).1))), undef, undef, undef, .bool (true), .bool (true), undef, undef, undef, .bool (true), .bool (true), undef, undef, undef, undef, undef, .bool (true)] Tryz.follows rfl ⟨?_, ?_, ?_, ?_, ?_, ?_, ?_, ?_, ?_, ?_, ?_, ?_, ?_, ?_, ?_, ?_, ?_, ?_, ?_, ?_, ?_, ?_, ?_, ?_, ?_, ?_, ?_, ?_, ?_, ?_, ?_, ?_, ?_, ?_, ?_, ?_, ?_, trivial⟩ ?_
      ·exact oI rfl fun h => yM rfl (h.old 9 _ rfl rfl) kI
      ·exact oI rfl fun h => yM rfl (h.old 11 _ rfl rfl) kI
      ·exact oI rfl fun h => yl_bneq un4 rfl (h.dt 0 96 rfl rfl rfl) (h.dt 1 97 rfl rfl rfl) kI
      ·exact oI rfl fun h => yM rfl (h.dt 2 98 rfl rfl rfl) kI
      ·exact oW rfl rfl rfl rfl (not_t hb139) fun h => yM rfl (h.old 8 _ rfl rfl) kI
      ·exact oW rfl rfl rfl rfl (not_t hb139) fun h => yM rfl (h.old 10 _ rfl rfl) kI
      ·intro L3350 w3351 hi3352
       have hE3353 := hi3352.ex
       have hE3353z := Ex.size hE3353
       exact OpR.want rfl rfl (hi3352.dt 3 99 rfl rfl rfl) (not_t hb139) (yC en11 rfl (oc (hi3352.dt 4 100 rfl rfl rfl) (oc (hi3352.dt 5 101 rfl rfl rfl) oz)) (Cal.mono (c_l_qSameTs ((i_WayTo ((s_DrawWayTo p_0).1) ((s_DrawWayTo p_0).2.1) ((s_DrawWayTo p_0).2.2)).1) ((s_WayTo ((s_DrawWayTo p_0).1) ((s_DrawWayTo p_0).2.1) ((s_DrawWayTo p_0).2.2)).1) (RdS.up (OwnL.rd good_Table (OwnD.own goodO_Table good_Table (OwnD.ex goodO_Table q3244 hE3353))) good_Table) (RdS.up (OwnL.rd good_Table (OwnD.own goodO_Table good_Table (OwnD.ex goodO_Table (OwnD.only goodO_Table (OwnD.ex goodO_Table (OwnD.ex goodO_Table (OwnD.only goodO_Table (OwnD.ex goodO_Table (OwnD.ex goodO_Table (OwnD.only goodO_Table (OwnD.ex goodO_Table (OwnD.ex goodO_Table (OwnD.only goodO_Table (OwnD.ex goodO_Table (OwnD.ex goodO_Table h38 hE52) hE61) hO64 oM) hE80) hE89) hO92 oM) hE106) hE112) hO115 oM) hE129) hE135) hO138 oM) hE3353))) good_Table) ho29 ho39) fun _ _ h => h))
      ·exact oW rfl rfl rfl rfl (not_t hb139) fun h => yl_not rfl (h.dt 6 102 rfl rfl rfl) kI
      ·exact oI rfl fun h => yl_pick_f rfl (h.dt 3 99 rfl rfl rfl) (not_t hb139) (h.dt 7 103 rfl rfl rfl) kI
      ·exact oI rfl fun h => yM rfl (h.dt 8 104 rfl rfl rfl) kI
      ·exact oW rfl rfl rfl rfl (not_t hb168) fun h => yM rfl (h.old 13 _ rfl rfl) kI
      ·exact oW rfl rfl rfl rfl (not_t hb168) fun h => yM rfl (h.old 15 _ rfl rfl) kI
      ·exact oW rfl rfl rfl rfl (not_t hb168) fun h => yl_bneq un4 rfl (h.dt 10 106 rfl rfl rfl) (h.dt 11 107 rfl rfl rfl) kI
      ·exact oI rfl fun h => yl_pick_f rfl (h.dt 9 105 rfl rfl rfl) (not_t hb168) (h.dt 12 108 rfl rfl rfl) kI
      ·exact oI rfl fun h => yM rfl (h.dt 13 109 rfl rfl rfl) kI
      ·intro L3411 w3412 hi3413
       have hE3414 := hi3413.ex
       have hE3414z := Ex.size hE3414
       exact OpR.want rfl rfl (hi3413.dt 14 110 rfl rfl rfl) (not_t hb197) (Yl.sameI (yl_loadN ty26 rfl (hi3413.old 12 _ rfl rfl) ((Box.ex (Box.only (Box.ex (Box.ex (Box.only (Box.ex (Box.ex (Box.only (Box.ex (Box.ex hB63 hE80) hE89) hO92 oM) hE106) hE112) hO115 oM) hE129) hE135) hO138 oM) hE3414).cells (n := 3) rfl) rfl kI))
      ·intro L3418 w3419 hi3420
       have hE3421 := hi3420.ex
       have hE3421z := Ex.size hE3421
       exact OpR.want rfl rfl (hi3420.dt 14 110 rfl rfl rfl) (not_t hb197) (Yl.sameI (yl_loadN ty26 rfl (hi3420.old 14 _ rfl rfl) ((Box.ex (Box.only (Box.ex (Box.ex (Box.only (Box.ex (Box.ex hB91 hE106) hE112) hO115 oM) hE129) hE135) hO138 oM) hE3421).cells (n := 3) rfl) rfl kI))
      ·intro L3425 w3426 hi3427
       have hE3428 := hi3427.ex
       have hE3428z := Ex.size hE3428
       exact OpR.want rfl rfl (hi3427.dt 14 110 rfl rfl rfl) (not_t hb197) (yC en12 rfl (oc (hi3427.dt 15 111 rfl rfl rfl) (oc (hi3427.dt 16 112 rfl rfl rfl) oz)) (Cal.mono (c_l_qSameT ((i_SetStage ((s_DrawWayTo p_0).1) ((s_DrawWayTo p_0).2.1) ((s_DrawWayTo p_0).2.2)).1) ((s_SetStage ((s_DrawWayTo p_0).1) ((s_DrawWayTo p_0).2.1) ((s_DrawWayTo p_0).2.2)).1) (RdS.up (OwnL.rd gS (OwnL.ex gS (OwnL.only gS (OwnL.ex gS (OwnL.ex gS (OwnL.only gS (OwnL.ex gS (OwnL.ex gS (OwnL.only gS (OwnL.ex gS (OwnL.ex gS (OwnL.only gS (OwnL.ex gS h48 hE61) hO64 oM) hE80) hE89) hO92 oM) hE106) hE112) hO115 oM) hE129) hE135) hO138 oM) hE3428)) gS) (RdS.up (OwnL.rd gI (OwnL.ex gI (OwnL.only gI (OwnL.ex gI (OwnL.ex gI (OwnL.only gI (OwnL.ex gI (OwnL.ex gI (OwnL.only gI (OwnL.ex gI (OwnL.ex gI (OwnL.only gI (OwnL.ex gI h49 hE61) hO64 oM) hE80) hE89) hO92 oM) hE106) hE112) hO115 oM) hE129) hE135) hO138 oM) hE3428)) gI) (RdS.up (OwnL.rd gS (OwnL.ex gS (OwnL.only gS (OwnL.ex gS (OwnL.ex gS (OwnL.only gS (OwnL.ex gS (OwnL.ex gS (OwnL.only gS (OwnL.ex gS h76 hE89) hO92 oM) hE106) hE112) hO115 oM) hE129) hE135) hO138 oM) hE3428)) gS) (RdS.up (OwnL.rd gI (OwnL.ex gI (OwnL.only gI (OwnL.ex gI (OwnL.ex gI (OwnL.only gI (OwnL.ex gI (OwnL.ex gI (OwnL.only gI (OwnL.ex gI h77 hE89) hO92 oM) hE106) hE112) hO115 oM) hE129) hE135) hO138 oM) hE3428)) gI) ho50 ho78) fun _ _ h => h))
      ·exact oW rfl rfl rfl rfl (not_t hb197) fun h => yl_not rfl (h.dt 17 113 rfl rfl rfl) kI
      ·exact oI rfl fun h => yl_pick_f rfl (h.dt 14 110 rfl rfl rfl) (not_t hb197) (h.dt 18 114 rfl rfl rfl) kI
      ·exact oI rfl fun h => yM rfl (h.dt 19 115 rfl rfl rfl) kI
      ·exact oS rfl rfl rfl rfl rfl (not_f hb284)
      ·exact oS rfl rfl rfl rfl rfl (not_f hb284)
      ·exact oS rfl rfl rfl rfl rfl (not_f hb284)
      ·exact oI rfl fun h => yl_pick_t rfl (h.dt 20 116 rfl rfl rfl) (not_f hb284) rfl kI
      ·exact oI rfl fun h => yM rfl (h.dt 24 120 rfl rfl rfl) kI
      ·exact oS rfl rfl rfl rfl rfl rfl
      ·exact oS rfl rfl rfl rfl rfl rfl
      ·exact oS rfl rfl rfl rfl rfl rfl
      ·exact oI rfl fun h => yl_pick_t rfl (h.dt 25 121 rfl rfl rfl) rfl rfl kI
      ·exact oI rfl fun h => yM rfl (h.dt 29 125 rfl rfl rfl) kI
      ·exact oS rfl rfl rfl rfl rfl rfl
      ·exact oS rfl rfl rfl rfl rfl rfl
      ·exact oS rfl rfl rfl rfl rfl rfl
      ·exact oS rfl rfl rfl rfl rfl rfl
      ·exact oS rfl rfl rfl rfl rfl rfl
      ·exact oI rfl fun h => yl_pick_t rfl (h.dt 30 126 rfl rfl rfl) rfl rfl kI
      ·intro fl3546 fh3547 L3543 w3544 hp3545
       have hE3548 := hp3545.ex
       have hE3548z := Ex.size hE3548
       refine dn (CW.sub (sC 1 (hp3545.old 1 _ rfl rfl) (sC 5 (hp3545.old 5 _ rfl rfl) (sC 8 (hp3545.old 8 _ rfl rfl) (sC 9 (hp3545.old 9 _ rfl rfl) (sC 12 (hp3545.old 12 _ rfl rfl) (sC 132 (hp3545.nt 36 132 rfl rfl rfl) (Sub.nil _))))))) (CW.cond_t rfl rfl (cR (sA rfl (dn ?_)))))
       refine CW.ret (tr (rr rfl (.cons rfl .nil) ?_))
       have hM3555 : (l_FnTables p_0 p_1) = (false) := by simp only [l_FnTables, hb3, hb139, hb168, hb197, hb284, cL]
       rw [hM3555]
       exact ⟨rfl, (Ex.trans (Below.only (Ex.trans (Ex.trans (Below.only (Ex.trans (Ex.trans (Below.only (Ex.trans (Ex.trans (Below.only (Ex.trans (Ex.trans (Ex.trans (Ex.trans (Below.only (Ex.trans (Ex.trans (Ex.refl w) hE11) hE18) hO21 oM) hE31) hE41) hE52) hE61) hO64 oM) hE80) hE89) hO92 oM) hE106) hE112) hO115 oM) hE129) hE135) hO138 oM) hE3548)⟩
    ·have q3587 := OwnD.only goodO_Table (OwnD.ex goodO_Table (OwnD.ex goodO_Table (OwnD.only goodO_Table (OwnD.ex goodO_Table (OwnD.ex goodO_Table (OwnD.only goodO_Table (OwnD.ex goodO_Table (OwnD.ex goodO_Table (OwnD.only goodO_Table (OwnD.ex goodO_Table (OwnD.ex goodO_Table (OwnD.ex goodO_Table h28 hE41) hE52) hE61) hO64 oM) hE80) hE89) hO92 oM) hE106) hE112) hO115 oM) hE129) hE135) hO138 oM
     refine drI 37 [.bool ((i_WayTo ((s_DrawWayTo p_0).1) ((s_DrawWayTo p_0).2.1) ((s_DrawWayTo p_0).2.2)).2), .bool ((s_WayTo ((s_DrawWayTo p_0).1) ((s_DrawWayTo p_0).2.1) ((s_DrawWayTo p_0).2.2)).2), .bool (!(((i_WayTo ((s_DrawWayTo p_0).1) ((s_DrawWayTo p_0).2.1) ((s_DrawWayTo p_0).2.2)).2) == ((s_WayTo ((s_DrawWayTo p_0).1) ((s_DrawWayTo p_0).2.1) ((s_DrawWayTo p_0).2.2)).2))), .bool (!(((i_WayTo ((s_DrawWayTo p_0).1) ((s_DrawWayTo p_0).2.1) ((s_DrawWayTo p_0).2.2)).2) == ((s_WayTo ((s_DrawWayTo p_0).1) ((s_DrawWayTo p_0).2.1) ((s_DrawWayTo p_0).2.2)).2))), .slice A28 (((i_WayTo ((s_DrawWayTo p_0).1) ((s_DrawWayTo p_0).2.1) ((s_DrawWayTo p_0).2.2)).1).length) c28, .slice A38 (((s_WayTo ((s_DrawWayTo p_0).1) ((s_DrawWayTo p_0).2.1) ((s_DrawWayTo p_0).2.2)).1).length) c38, .bool ((l_qSameTs ((i_WayTo ((s_DrawWayTo p_0).1) ((s_DrawWayTo p_0).2.1) ((s_DrawWayTo p_0).2.2)).1) ((s_WayTo ((s_DrawWayTo p_0).1) ((s_DrawWayTo p_0).2.1) ((s_DrawWayTo p_0).2.2)).1))), .bool (!(l_qSameTs ((i_WayTo ((s_DrawWayTo p_0).1) ((s_DrawWayTo p_0).2.1) ((s_DrawWayTo p_0).2.2)).1) ((s_WayTo ((s_DrawWayTo p_0).1) ((s_DrawWayTo p_0).2.1) ((s_DrawWayTo p_0).2.2)).1))), .bool (!(l_qSameTs ((i_WayTo ((s_DrawWayTo p_0).1) ((s_DrawWayTo p_0).2.1) ((s_DrawWayTo p_0).2.2)).1) ((s_WayTo ((s_DrawWayTo p_0).1) ((s_DrawWayTo p_0).2.1) ((s_DrawWayTo p_0).2.2)).1))), .bool (!(l_qSameTs ((i_WayTo ((s_DrawWayTo p_0).1) ((s_DrawWayTo p_0).2.1) ((s_DrawWayTo p_0).2.2)).1) ((s_WayTo ((s_DrawWayTo p_0).1) ((s_DrawWayTo p_0).2.1) ((s_DrawWayTo p_0).2.2)).1))), .bool ((i_SetStage ((s_DrawWayTo p_0).1) ((s_DrawWayTo p_0).2.1) ((s_DrawWayTo p_0).2.2)).2), .bool ((s_SetStage ((s_DrawWayTo p_0).1) ((s_DrawWayTo p_0).2.1) ((s_DrawWayTo p_0).2.2)).2), .bool (!(((i_SetStage ((s_DrawWayTo p_0).1) ((s_DrawWayTo p_0).2.1) ((s_DrawWayTo p_0).2.2)).2) == ((s_SetStage ((s_DrawWayTo p_0).1) ((s_DrawWayTo p_0).2.1) ((s_DrawWayTo p_0).2.2)).2))), .bool (!(((i_SetStage ((s_DrawWayTo p_0).1) ((s_DrawWayTo p_0).2.1) ((s_DrawWayTo p_0).2.2)).2) == ((s_SetStage ((s_DrawWayTo p_0).1) ((s_DrawWayTo p_0).2.1) ((s_DrawWayTo p_0).2.2)).2))), .bool (!(((i_SetStage ((s_DrawWayTo p_0).1) ((s_DrawWayTo p_0).2.1) ((s_DrawWayTo p_0).2.2)).2) == ((s_SetStage ((s_DrawWayTo p_0).1) ((s_DrawWayTo p_0).2.1) ((s_DrawWayTo p_0).2.2)).2))), undef, undef, undef, undef, .bool (true), .bool (true), undef, undef, undef, .bool (true), .bool (true), undef, undef, undef, .bool (true), .bool (true), undef, undef, undef, undef, undef, .bool (true)] Tryz.follows rfl ⟨?_, ?_, ?_, ?_, ?_, ?_, ?_, ?_, ?_, ?_, ?_, ?_, ?_, ?_, ?_, ?_, ?_, ?_, ?_, ?_, ?_, ?_, ?_, ?_, ?_, ?_, ?_, ?_, ?_, ?_, ?_, ?_, ?_, ?_, ?_, ?_, ?_, trivial⟩ ?_
     ·exact oI rfl fun h => yM rfl (h.old 9 _ rfl rfl) kI
     ·exact oI rfl fun h => yM rfl (h.old 11 _ rfl rfl) kI
     ·exact oI rfl fun h => yl_bneq un4 rfl (h.dt 0 96 rfl rfl rfl) (h.dt 1 97 rfl rfl rfl) kI
     ·exact oI rfl fun h => yM rfl (h.dt 2 98 rfl rfl rfl) kI
     ·exact oW rfl rfl rfl rfl (not_t hb139) fun h => yM rfl (h.old 8 _ rfl rfl) kI
     ·exact oW rfl rfl rfl rfl (not_t hb139) fun h => yM rfl (h.old 10 _ rfl rfl) kI
     ·intro L3635 w3636 hi3637
      have hE3638 := hi3637.ex
      have hE3638z := Ex.size hE3638
      exact OpR.want rfl rfl (hi3637.dt 3 99 rfl rfl rfl) (not_t hb139) (yC en11 rfl (oc (hi3637.dt 4 100 rfl rfl rfl) (oc (hi3637.dt 5 101 rfl rfl rfl) oz)) (Cal.mono (c_l_qSameTs ((i_WayTo ((s_DrawWayTo p_0).1) ((s_DrawWayTo p_0).2.1) ((s_DrawWayTo p_0).2.2)).1) ((s_WayTo ((s_DrawWayTo p_0).1) ((s_DrawWayTo p_0).2.1) ((s_DrawWayTo p_0).2.2)).1) (RdS.up (OwnL.rd good_Table (OwnD.own goodO_Table good_Table (OwnD.ex goodO_Table q3587 hE3638))) good_Table) (RdS.up (OwnL.rd good_Table (OwnD.own goodO_Table good_Table (OwnD.ex goodO_Table (OwnD.only goodO_Table (OwnD.ex goodO_Table (OwnD.ex goodO_Table (OwnD.only goodO_Table (OwnD.ex goodO_Table (OwnD.ex goodO_Table (OwnD.only goodO_Table (OwnD.ex goodO_Table (OwnD.ex goodO_Table (OwnD.only goodO_Table (OwnD.ex goodO_Table (OwnD.ex goodO_Table h38 hE52) hE61) hO64 oM) hE80) hE89) hO92 oM) hE106) hE112) hO115 oM) hE129) hE135) hO138 oM) hE3638))) good_Table) ho29 ho39) fun _ _ h => h))
     ·exact oW rfl rfl rfl rfl (not_t hb139) fun h => yl_not rfl (h.dt 6 102 rfl rfl rfl) kI
     ·exact oI rfl fun h => yl_pick_f rfl (h.dt 3 99 rfl rfl rfl) (not_t hb139) (h.dt 7 103 rfl rfl rfl) kI
     ·exact oI rfl fun h => yM rfl (h.dt 8 104 rfl rfl rfl) kI
     ·exact oW rfl rfl rfl rfl (not_t hb168) fun h => yM rfl (h.old 13 _ rfl rfl) kI
     ·exact oW rfl rfl rfl rfl (not_t hb168) fun h => yM rfl (h.old 15 _ rfl rfl) kI
     ·exact oW rfl rfl rfl rfl (not_t hb168) fun h => yl_bneq un4 rfl (h.dt 10 106 rfl rfl rfl) (h.dt 11 107 rfl rfl rfl) kI
     ·exact oI rfl fun h => yl_pick_f rfl (h.dt 9 105 rfl rfl rfl) (not_t hb168) (h.dt 12 108 rfl rfl rfl) kI
     ·exact oI rfl fun h => yM rfl (h.dt 13 109 rfl rfl rfl) kI
     ·exact oS rfl rfl rfl rfl rfl (not_f hb197)
     ·exact oS rfl rfl rfl rfl rfl (not_f hb197)
     ·exact oS rfl rfl rfl rfl rfl (not_f hb197)
     ·exact oS rfl rfl rfl rfl rfl (not_f hb197)
     ·exact oI rfl fun h => yl_pick_t rfl (h.dt 14 110 rfl rfl rfl) (not_f hb197) rfl kI
     ·exact oI rfl fun h => yM rfl (h.dt 19 115 rfl rfl rfl) kI
     ·exact oS rfl rfl rfl rfl rfl rfl
     ·exact oS rfl rfl rfl rfl rfl rfl
     ·exact oS rfl rfl rfl rfl rfl rfl
     ·exact oI rfl fun h => yl_pick_t rfl (h.dt 20 116 rfl rfl rfl) rfl rfl kI
     ·exact oI rfl fun h => yM rfl (h.dt 24 120 rfl rfl rfl) kI
     ·exact oS rfl rfl rfl rfl rfl rfl
     ·exact oS rfl rfl rfl rfl rfl rfl
     ·exact oS rfl rfl rfl rfl rfl rfl
     ·exact oI rfl fun h => yl_pick_t rfl (h.dt 25 121 rfl rfl rfl) rfl rfl kI
     ·exact oI rfl fun h => yM rfl (h.dt 29 125 rfl rfl rfl) kI
     ·exact oS rfl rfl rfl rfl rfl rfl
     ·exact oS rfl rfl rfl rfl rfl rfl
     ·exact oS rfl rfl rfl rfl rfl rfl
     ·exact oS rfl rfl rfl rfl rfl rfl
     ·exact oS rfl rfl rfl rfl rfl rfl
     ·exact oI rfl fun h => yl_pick_t rfl (h.dt 30 126 rfl rfl rfl) rfl rfl kI
     ·intro fl3813 fh3814 L3810 w3811 hp3812
      have hE3815 := hp3812.ex
      have hE3815z := Ex.size hE3815
      refine dn (CW.sub (sC 1 (hp3812.old 1 _ rfl rfl) (sC 5 (hp3812.old 5 _ rfl rfl) (sC 8 (hp3812.old 8 _ rfl rfl) (sC 9 (hp3812.old 9 _ rfl rfl) (sC 12 (hp3812.old 12 _ rfl rfl) (sC 132 (hp3812.nt 36 132 rfl rfl rfl) (Sub.nil _))))))) (CW.cond_t rfl rfl (cR (sA rfl (dn ?_)))))
      refine CW.ret (tr (rr rfl (.cons rfl .nil) ?_))
      have hM3822 : (l_FnTables p_0 p_1) = (false) := by simp only [l_FnTables, hb3, hb139, hb168, hb197, cL]
      rw [hM3822]
      exact ⟨rfl, (Ex.trans (Below.only (Ex.trans (Ex.trans (Below.only (Ex.trans (Ex.trans (Below.only (Ex.trans (Ex.trans (Below.only (Ex.trans (Ex.trans (Ex.trans (Ex.trans (Below.only (Ex.trans (Ex.trans (Ex.refl w) hE11) hE18) hO21 oM) hE31) hE41) hE52) hE61) hO64 oM) hE80) hE89) hO92 oM) hE106) hE112) hO115 oM) hE129) hE135) hO138 oM) hE3815)⟩
   ·have q3854 := OwnD.only goodO_Table (OwnD.ex goodO_Table (OwnD.ex goodO_Table (OwnD.only goodO_Table (OwnD.ex goodO_Table (OwnD.ex goodO_Table (OwnD.only goodO_Table (OwnD.ex goodO_Table (OwnD.ex goodO_Table (OwnD.only goodO_Table (OwnD.ex goodO_Table (OwnD.ex goodO_Table (OwnD.ex goodO_Table h28 hE41) hE52) hE61) hO64 oM) hE80) hE89) hO92 oM) hE106) hE112) hO115 oM) hE129) hE135) hO138 oM
    refine drI 37 [.bool ((i_WayTo ((s_DrawWayTo p_0).1) ((s_DrawWayTo p_0).2.1) ((s_DrawWayTo p_0).2.2)).2), .bool ((s_WayTo ((s_DrawWayTo p_0).1) ((s_DrawWayTo p_0).2.1) ((s_DrawWayTo p_0).2.2)).2), .bool (!(((i_WayTo ((s_DrawWayTo p_0).1) ((s_DrawWayTo p_0).2.1) ((s_DrawWayTo p_0).2.2)).2) == ((s_WayTo ((s_DrawWayTo p_0).1) ((s_DrawWayTo p_0).2.1) ((s_DrawWayTo p_0).2.2)).2))), .bool (!(((i_WayTo ((s_DrawWayTo p_0).1) ((s_DrawWayTo p_0).2.1) ((s_DrawWayTo p_0).2.2)).2) == ((s_WayTo ((s_DrawWayTo p_0).1) ((s_DrawWayTo p_0).2.1) ((s_DrawWayTo p_0).2.2)).2))), .slice A28 (((i_WayTo ((s_DrawWayTo p_0).1) ((s_DrawWayTo p_0).2.1) ((s_DrawWayTo p_0).2.2)).1).length) c28, .slice A38 (((s_WayTo ((s_DrawWayTo p_0).1) ((s_DrawWayTo p_0).2.1) ((s_DrawWayTo p_0).2.2)).1).length) c38, .bool ((l_qSameTs ((i_WayTo ((s_DrawWayTo p_0).1) ((s_DrawWayTo p_0).2.1) ((s_DrawWayTo p_0).2.2)).1) ((s_WayTo ((s_DrawWayTo p_0).1) ((s_DrawWayTo p_0).2.1) ((s_DrawWayTo p_0).2.2)).1))), .bool (!(l_qSameTs ((i_WayTo ((s_DrawWayTo p_0).1) ((s_DrawWayTo p_0).2.1) ((s_DrawWayTo p_0).2.2)).1) ((s_WayTo ((s_DrawWayTo p_0).1) ((s_DrawWayTo p_0).2.1) ((s_DrawWayTo p_0).2.2)).1))), .bool (!(l_qSameTs ((i_WayTo ((s_DrawWayTo p_0).1) ((s_DrawWayTo p_0).2.1) ((s_DrawWayTo p_0).2.2)).1) ((s_WayTo ((s_DrawWayTo p_0).1) ((s_DrawWayTo p_0).2.1) ((s_DrawWayTo p_0).2.2)).1))), .bool (!(l_qSameTs ((i_WayTo ((s_DrawWayTo p_0).1) ((s_DrawWayTo p_0).2.1) ((s_DrawWayTo p_0).2.2)).1) ((s_WayTo ((s_DrawWayTo p_0).1) ((s_DrawWayTo p_0).2.1) ((s_DrawWayTo p_0).2.2)).1))), undef, undef, undef, .bool (true), .bool (true), undef, undef, undef, undef, .bool (true), .bool (true), undef, undef, undef, .bool (true), .bool (true), undef, undef, undef, .bool (true), .bool (true), undef, undef, undef, undef, undef, .bool (true)] Tryz.follows rfl ⟨?_, ?_, ?_, ?_, ?_, ?_, ?_, ?_, ?_, ?_, ?_, ?_, ?_, ?_, ?_, ?_, ?_, ?_, ?_, ?_, ?_, ?_, ?_, ?_, ?_, ?_, ?_, ?_, ?_, ?_, ?_, ?_, ?_, ?_, ?_, ?_, ?_, trivial⟩ ?_
    ·exact oI rfl fun h => yM rfl (h.old 9 _ rfl rfl) kI
    ·exact oI rfl fun h => yM rfl (h.old 11 _ rfl rfl) kI
    ·exact oI rfl fun h => yl_bneq un4 rfl (h.dt 0 96 rfl rfl rfl) (h.dt 1 97 rfl rfl rfl) kI
    ·exact oI rfl fun h => yM rfl (h.dt 2 98 rfl rfl rfl) kI
    ·exact oW rfl rfl rfl rfl (not_t hb139) fun h => yM rfl (h.old 8 _ rfl rfl) kI
    ·exact oW rfl rfl rfl rfl (not_t hb139) fun h => yM rfl (h.old 10 _ rfl rfl) kI
    ·intro L3902 w3903 hi3904
     have hE3905 := hi3904.ex
     have hE3905z := Ex.size hE3905
     exact OpR.want rfl rfl (hi3904.dt 3 99 rfl rfl rfl) (not_t hb139) (yC en11 rfl (oc (hi3904.dt 4 100 rfl rfl rfl) (oc (hi3904.dt 5 101 rfl rfl rfl) oz)) (Cal.mono (c_l_qSameTs ((i_WayTo ((s_DrawWayTo p_0).1) ((s_DrawWayTo p_0).2.1) ((s_DrawWayTo p_0).2.2)).1) ((s_WayTo ((s_DrawWayTo p_0).1) ((s_DrawWayTo p_0).2.1) ((s_DrawWayTo p_0).2.2)).1) (RdS.up (OwnL.rd good_Table (OwnD.own goodO_Table good_Table (OwnD.ex goodO_Table q3854 hE3905))) good_Table) (RdS.up (OwnL.rd good_Table (OwnD.own goodO_Table good_Table (OwnD.ex goodO_Table (OwnD.only goodO_Table (OwnD.ex goodO_Table (OwnD.ex goodO_Table (OwnD.only goodO_Table (OwnD.ex goodO_Table (OwnD.ex goodO_Table (OwnD.only goodO_Table (OwnD.ex goodO_Table (OwnD.ex goodO_Table (OwnD.only goodO_Table (OwnD.ex goodO_Table (OwnD.ex goodO_Table h38 hE52) hE61) hO64 oM) hE80) hE89) hO92 oM) hE106) hE112) hO115 oM) hE129) hE135) hO138 oM) hE3905))) good_Table) ho29 ho39) fun _ _ h => h))
    ·exact oW rfl rfl rfl rfl (not_t hb139) fun h => yl_not rfl (h.dt 6 102 rfl rfl rfl) kI
    ·exact oI rfl fun h => yl_pick_f rfl (h.dt 3 99 rfl rfl rfl) (not_t hb139) (h.dt 7 103 rfl rfl rfl) kI
    ·exact oI rfl fun h => yM rfl (h.dt 8 104 rfl rfl rfl) kI
    ·exact oS rfl rfl rfl rfl rfl (not_f hb168)
    ·exact oS rfl rfl rfl rfl rfl (not_f hb168)
    ·exact oS rfl rfl rfl rfl rfl (not_f hb168)
    ·exact oI rfl fun h => yl_pick_t rfl (h.dt 9 105 rfl rfl rfl) (not_f hb168) rfl kI
    ·exact oI rfl fun h => yM rfl (h.dt 13 109 rfl rfl rfl) kI
    ·exact oS rfl rfl rfl rfl rfl rfl
    ·exact oS rfl rfl rfl rfl rfl rfl
    ·exact oS rfl rfl rfl rfl rfl rfl
    ·exact oS rfl rfl rfl rfl rfl rfl
    ·exact oI rfl fun h => yl_pick_t rfl (h.dt 14 110 rfl rfl rfl) rfl rfl kI
    ·exact oI rfl fun h => yM rfl (h.dt 19 115 rfl rfl rfl) kI
    ·exact oS rfl rfl rfl rfl rfl rfl
    ·exact oS rfl rfl rfl rfl rfl rfl
    ·exact oS rfl rfl rfl rfl rfl rfl
    ·exact oI rfl fun h => yl_pick_t rfl (h.dt 20 116 rfl rfl rfl) rfl rfl kI
    ·exact oI rfl fun h => yM rfl (h.dt 24 120 rfl rfl rfl) kI
    ·exact oS rfl rfl rfl rfl rfl rfl
    ·exact oS rfl rfl rfl rfl rfl rfl
    ·exact oS rfl rfl rfl rfl rfl rfl
    ·exact oI rfl fun h => yl_pick_t rfl (h.dt 25 121 rfl rfl rfl) rfl rfl kI
    ·exact oI rfl fun h => yM rfl (h.dt 29 125 rfl rfl rfl) kI
    ·exact oS rfl rfl rfl rfl rfl rfl
    ·exact oS rfl rfl rfl rfl rfl rfl
    ·exact oS rfl rfl rfl rfl rfl rfl
    ·exact oS rfl rfl rfl rfl rfl rfl
    ·exact oS rfl rfl rfl rfl rfl rfl
    ·exact oI rfl fun h => yl_pick_t rfl (h.dt 30 126 rfl rfl rfl) rfl rfl kI
    ·intro fl4076 fh4077 L4073 w4074 hp4075
     have hE4078 := hp4075.ex
     have hE4078z := Ex.size hE4078
     refine dn (CW.sub (sC 1 (hp4075.old 1 _ rfl rfl) (sC 5 (hp4075.old 5 _ rfl rfl) (sC 8 (hp4075.old 8 _ rfl rfl) (sC 9 (hp4075.old 9 _ rfl rfl) (sC 12 (hp4075.old 12 _ rfl rfl) (sC 132 (hp4075.nt 36 132 rfl rfl rfl) (Sub.nil _))))))) (CW.cond_t rfl rfl (cR (sA rfl (dn ?_)))))
     refine CW.ret (tr (rr rfl (.cons rfl .nil) ?_))
     have hM4085 : (l_FnTables p_0 p_1) = (false) := by simp only [l_FnTables, hb3, hb139, hb168, cL]
     rw [hM4085]
     exact ⟨rfl, (Ex.trans (Below.only (Ex.trans (Ex.trans (Below.only (Ex.trans (Ex.trans (Below.only (Ex.trans (Ex.trans (Below.only (Ex.trans (Ex.trans (Ex.trans (Ex.trans (Below.only (Ex.trans (Ex.trans (Ex.refl w) hE11) hE18) hO21 oM) hE31) hE41) hE52) hE61) hO64 oM) hE80) hE89) hO92 oM) hE106) hE112) hO115 oM) hE129) hE135) hO138 oM) hE4078)⟩
  ·refine drI 37 [.bool ((i_WayTo ((s_DrawWayTo p_0).1) ((s_DrawWayTo p_0).2.1) ((s_DrawWayTo p_0).2.2)).2), .bool ((s_WayTo ((s_DrawWayTo p_0).1) ((s_DrawWayTo p_0).2.1) ((s_DrawWayTo p_0).2.2)).2), .bool (!(((i_WayTo ((s_DrawWayTo p_0).1) ((s_DrawWayTo p_0).2.1) ((s_DrawWayTo p_0).2.2)).2) == ((s_WayTo ((s_DrawWayTo p_0).1) ((s_DrawWayTo p_0).2.1) ((s_DrawWayTo p_0).2.2)).2))), .bool (!(((i_WayTo ((s_DrawWayTo p_0).1) ((s_DrawWayTo p_0).2.1) ((s_DrawWayTo p_0).2.2)).2) == ((s_WayTo ((s_DrawWayTo p_0).1) ((s_DrawWayTo p_0).2.1) ((s_DrawWayTo p_0).2.2)).2))), undef, undef, undef, undef, .bool (true), .bool (true), undef, undef, undef, .bool (true), .bool (true), undef, undef, undef, undef, .bool (true), .bool (true), undef, undef, undef, .bool (true), .bool (true), undef, undef, undef, .bool (true), .bool (true), undef, undef, undef, undef, undef, .bool (true)] Tryz.follows rfl ⟨?_, ?_, ?_, ?_, ?_, ?_, ?_, ?_, ?_, ?_, ?_, ?_, ?_, ?_, ?_, ?_, ?_, ?_, ?_, ?_, ?_, ?_, ?_, ?_, ?_, ?_, ?_, ?_, ?_, ?_, ?_, ?_, ?_, ?_, ?_, ?_, ?_, trivial⟩ ?_
   ·exact oI rfl fun h => yM rfl (h.old 9 _ rfl rfl) kI
   ·exact oI rfl fun h => yM rfl (h.old 11 _ rfl rfl) kI
   ·exact oI rfl fun h => yl_bneq un4 rfl (h.dt 0 96 rfl rfl rfl) (h.dt 1 97 rfl rfl rfl) kI
   ·exact oI rfl fun h => yM rfl (h.dt 2 98 rfl rfl rfl) kI
   ·exact oS rfl rfl rfl rfl rfl (not_f hb139)
   ·exact oS rfl rfl rfl rfl rfl (not_f hb139)
   ·exact oS rfl rfl rfl rfl rfl (not_f hb139)
   ·exact oS rfl rfl rfl rfl rfl (not_f hb139)
   ·exact oI rfl fun h => yl_pick_t rfl (h.dt 3 99 rfl rfl rfl) (not_f hb139) rfl kI
   ·exact oI rfl fun h => yM rfl (h.dt 8 104 rfl rfl rfl) kI
   ·exact oS rfl rfl rfl rfl rfl rfl
   ·exact oS rfl rfl rfl rfl rfl rfl
   ·exact oS rfl rfl rfl rfl rfl rfl
   ·exact oI rfl fun h => yl_pick_t rfl (h.dt 9 105 rfl rfl rfl) rfl rfl kI
   ·exact oI rfl fun h => yM rfl (h.dt 13 109 rfl rfl rfl) kI
   ·exact oS rfl rfl rfl rfl rfl rfl
   ·exact oS rfl rfl rfl rfl rfl rfl
   ·exact oS rfl rfl rfl rfl rfl rfl
   ·exact oS rfl rfl rfl rfl rfl rfl
   ·exact oI rfl fun h => yl_pick_t rfl (h.dt 14 110 rfl rfl rfl) rfl rfl kI
   ·exact oI rfl fun h => yM rfl (h.dt 19 115 rfl rfl rfl) kI
   ·exact oS rfl rfl rfl rfl rfl rfl
   ·exact oS rfl rfl rfl rfl rfl rfl
   ·exact oS rfl rfl rfl rfl rfl rfl
   ·exact oI rfl fun h => yl_pick_t rfl (h.dt 20 116 rfl rfl rfl) rfl rfl kI
   ·exact oI rfl fun h => yM rfl (h.dt 24 120 rfl rfl rfl) kI
   ·exact oS rfl rfl rfl rfl rfl rfl
   ·exact oS rfl rfl rfl rfl rfl rfl
   ·exact oS rfl rfl rfl rfl rfl rfl
   ·exact oI rfl fun h => yl_pick_t rfl (h.dt 25 121 rfl rfl rfl) rfl rfl kI
   ·exact oI rfl fun h => yM rfl (h.dt 29 125 rfl rfl rfl) kI
   ·exact oS rfl rfl rfl rfl rfl rfl
   ·exact oS rfl rfl rfl rfl rfl rfl
   ·exact oS rfl rfl rfl rfl rfl rfl
   ·exact oS rfl rfl rfl rfl rfl rfl
   ·exact oS rfl rfl rfl rfl rfl rfl
   ·exact oI rfl fun h => yl_pick_t rfl (h.dt 30 126 rfl rfl rfl) rfl rfl kI
   ·intro fl4299 fh4300 L4296 w4297 hp4298
    have hE4301 := hp4298.ex
    have hE4301z := Ex.size hE4301
    refine dn (CW.sub (sC 1 (hp4298.old 1 _ rfl rfl) (sC 5 (hp4298.old 5 _ rfl rfl) (sC 8 (hp4298.old 8 _ rfl rfl) (sC 9 (hp4298.old 9 _ rfl rfl) (sC 12 (hp4298.old 12 _ rfl rfl) (sC 132 (hp4298.nt 36 132 rfl rfl rfl) (Sub.nil _))))))) (CW.cond_t rfl rfl (cR (sA rfl (dn ?_)))))
    refine CW.ret (tr (rr rfl (.cons rfl .nil) ?_))
    have hM4308 : (l_FnTables p_0 p_1) = (false) := by simp only [l_FnTables, hb3, hb139, cL]
    rw [hM4308]
    exact ⟨rfl, (Ex.trans (Below.only (Ex.trans (Ex.trans (Below.only (Ex.trans (Ex.trans (Below.only (Ex.trans (Ex.trans (Below.only (Ex.trans (Ex.trans (Ex.trans (Ex.trans (Below.only (Ex.trans (Ex.trans (Ex.refl w) hE11) hE18) hO21 oM) hE31) hE41) hE52) hE61) hO64 oM) hE80) hE89) hO92 oM) hE106) hE112) hO115 oM) hE129) hE135) hO138 oM) hE4301)⟩
end Go.Proofs.YtgfkmgjpannelaaGreatDoor
