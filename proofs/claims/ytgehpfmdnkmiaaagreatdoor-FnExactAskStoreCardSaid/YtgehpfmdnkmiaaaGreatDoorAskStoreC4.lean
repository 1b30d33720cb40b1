/- Ask Store: what each call returns, part 4. -/
import Derived.Test.YtgehpfmdnkmiaaaGreatDoorAskStoreC3
set_option maxRecDepth 100000
set_option maxHeartbeats 2000000
open Go.Proofs.Tryz Go.Proofs.YtgehpfmdnkmiaaaGreatDoor.Tryz
set_option linter.unusedVariables false
set_option linter.unusedSimpArgs false
namespace Go.Proofs.YtgehpfmdnkmiaaaGreatDoor
open Go.RowKit Go.X
theorem c_i_Table_askStore {A1 : Option Addr} {c1 : Nat} {A2 : Option Addr} {c2 : Nat} {A4 : Option Addr} {c4 : Nat} {A6 : Option Addr} {c6 : Nat} {A7 : Option Addr} {c7 : Nat} {w : World} (p_0 : DTable) (p_1 : List DWrite) (p_2 : DStmt) (h1 : RdS w (Iv 0 w.heap.size) (RF e_Str) 1 A1 p_0.Cols.length c1 p_0.Cols) (h2 : RdS w (Iv 0 w.heap.size) (RF e_Idx) 3 A2 p_0.Idxs.length c2 p_0.Idxs) (h4 : RdS w (Iv 0 w.heap.size) (RF e_Write) 3 A4 p_1.length c4 p_1) (h6 : RdS w (Iv 0 w.heap.size) (RF e_Str) 1 A6 p_2.Act.Old.Vals.length c6 p_2.Act.Old.Vals) (h7 : RdS w (Iv 0 w.heap.size) (RF e_Str) 1 A7 p_2.Act.New.Vals.length c7 p_2.Act.New.Vals) (o3 : ok_Table p_0) (o5 : (okL ok_Write) p_1) (o8 : ok_Stmt p_2) (pre0 : i_GoodStmt p_0 p_2 = true) (pre1 : i_isRows p_1 = true) : Cal Tryz.prog 34 #[.agg #[.string (bs (p_0.Name)), .slice A1 p_0.Cols.length c1, .slice A2 p_0.Idxs.length c2], .slice A4 p_1.length c4, .agg #[.int .i64 (p_2.Kind), .int .i64 (p_2.Act.Kind), .slice A6 p_2.Act.Old.Vals.length c6, .slice A7 p_2.Act.New.Vals.length c7, .string (bs (p_2.Idx)), .string (bs (p_2.Low)), .string (bs (p_2.High))]] w fun v w' => ∃ A_1 c_1 lo_1 hi_1, v = .tuple #[.slice A_1 (((i_Table_askStore p_0 p_1 p_2).1).length) c_1, .bool ((i_Table_askStore p_0 p_1 p_2).2)] ∧ OwnD w' lo_1 hi_1 45 1 RO_Row A_1 (((i_Table_askStore p_0 p_1 p_2).1).length) c_1 ((i_Table_askStore p_0 p_1 p_2).1) ∧ (okL ok_Row) ((i_Table_askStore p_0 p_1 p_2).1) ∧ (w.heap.size ≤ lo_1 ∧ lo_1 ≤ hi_1 ∧ hi_1 ≤ w'.heap.size) ∧ Ex w w' := by
 have hol9 : p_0.Name.length ≤ 1073741824 := o3.1
 have hol10 := o3.2.1.1
 have hol11 := o3.2.2.1
 have hol12 := o5.1
 have hol13 := o8.1.1.1
 have hol14 := o8.1.2.1
 have hol15 : p_2.Idx.length ≤ 1073741824 := o8.2.1
 have hol16 : p_2.Low.length ≤ 1073741824 := o8.2.2.1
 have hol17 : p_2.High.length ≤ 1073741824 := o8.2.2.2
 have hai := ask_idx' pre0
 have hen := entries_len p_0 p_2.Idx p_1
 refine Cal.of func34 rfl ntmps34 rfl (cR (sd rfl (yl_box rfl rfl rfl ?_)))
 intro b18 w19 hs20 hz21 hB22 hE23
 refine sd rfl (yl_box rfl rfl rfl ?_)
 intro b24 w25 hs26 hz27 hB28 hE29
 refine sA rfl (sA rfl (dn (cR (sd rfl (yl_buildSlice (cs := []) un36 ty45 (by decide) rfl opvs_nil (by kernel_rfl) ?_)))))
 intro b30 w31 hs32 hz33 hB34 hE35
 have hO36 : OwnL w31 b30 (b30 + 1) 45 1 R_Row (some ⟨b30, 0, none⟩) 0 0 ([] : List DRow) := OwnL.of_box (S := fun _ => False) hB34 (Nat.le_refl _) (Nat.lt_succ_self _) EncL.nil (nb rfl) (fun h => h) (fun _ h => False.elim h)
 refine sA rfl (dn (CW.seq (cR (sd rfl (yl_fieldAddr fd49_0 rfl rfl ?_)))))
 have q37 := Box.ex hB28 hE35
 refine sd rfl (yl_load1 ty3 rfl rfl ((q37.cell 0).trans rfl) (sd rfl (yl_eql rfl rfl rfl (dn (bcase (decide (p_2.Kind = 2)) (fun hb38 => ?_) (fun hb38 => ?_))))))
 ·have hb38p := dec_t hb38
  refine CW.cond_t rfl hb38 (CW.seq (cR (sd rfl (yl_loadN ty41 rfl rfl ((Box.ex (Box.ex hB22 hE29) hE35).cells (n := 3) rfl) rfl (sM rfl (sd rfl (yl_fieldAddr fd49_3 rfl rfl (sd rfl (yl_load1 ty9 rfl rfl ((q37.cell 5).trans rfl) (sd rfl (yC en60 rfl (oc rfl (oc rfl (oc rfl oz))) (Cal.mono (c_i_Table_rowAt p_0 p_1 p_2.Low (RdS.up (RdS.ex gS (RdS.ex gS (RdS.ex gS h1 hE23) hE29) hE35) gS) (RdS.up (RdS.ex gI (RdS.ex gI (RdS.ex gI h2 hE23) hE29) hE35) gI) (RdS.up (RdS.ex gW (RdS.ex gW (RdS.ex gW h4 hE23) hE29) hE35) gW) o3 o5 o8.2.2.1 (good_stmt' pre0)) ?_))))))))))))
  rintro v53 w50 ⟨A51, c51, lo51, hi51, rfl, h51, ho52, hrn55, hE54⟩
  have hE54z := Ex.size hE54
  refine sM rfl (sd rfl (yl_extract rfl rfl rfl (sd rfl (yl_extract rfl rfl rfl (sd rfl (yB ty45 (cs := [.slice none 0 0]) rfl rfl ?_))))))
  intro b56 w57 hs58 hz59 hB60 hE61
  refine SeqR.u rfl rfl (yl_store (vs := [.slice A51 (((i_Table_rowAt p_0 p_1 p_2.Low).1.Vals).length) c51]) ty45 rfl rfl rfl rfl rfl rfl hB60 (nb rfl) ?_)
  intro w62 hB63 hO64
  have hB63 : Box w62 b56 45 [.slice A51 (((i_Table_rowAt p_0 p_1 p_2.Low).1.Vals).length) c51] := hB63
  have hO64z := hO64.size
  refine sA rfl (dn (cR (sM rfl (dn (bcase ((i_Table_rowAt p_0 p_1 p_2.Low).2) (fun hb65 => ?_) (fun hb65 => ?_))))))
  ·refine CW.cond_t rfl hb65 (CW.region (sM rfl (sd rfl (yl_loadN ty45 rfl rfl (hB63.cells (n := 1) rfl) rfl (sd rfl (yl_buildSlice (cs := [.slice A51 (((i_Table_rowAt p_0 p_1 p_2.Low).1.Vals).length) c51]) un36 ty45 (by decide) rfl (oc rfl oz) (by kernel_rfl) ?_))))))
   intro b66 w67 hs68 hz69 hB70 hE71
   have hO72 : OwnD w67 w31.heap.size (b66 + 1) 45 1 RO_Row (some ⟨b66, 0, none⟩) 1 1 ([(i_Table_rowAt p_0 p_1 p_2.Low).1] : List DRow) := OwnD.of_box (b := b66) (xs := ([(i_Table_rowAt p_0 p_1 p_2.Low).1] : List DRow)) (cells := [[.slice A51 (((i_Table_rowAt p_0 p_1 p_2.Low).1.Vals).length) c51]]) (by rw [List.flatten_singleton]; exact hB70) oM (Nat.lt_succ_self _) (.cons (l := w31.heap.size) (h := b66) (Nat.le_refl _) oM rfl (fun k hk => by cases hk; exact .inr (Nat.le_refl _)) (mkO_Row (l := w31.heap.size) (h := b66) (OwnL.ex gS (OwnL.only gS (OwnL.ex gS h51 hE61) hO64 oM) hE71) oM) (.nil (Nat.le_succ _))) (nb rfl)
   refine sd rfl (yl_appendD (xs := ([] : List DRow)) (ys := ([(i_Table_rowAt p_0 p_1 p_2.Low).1] : List DRow)) goodO_Row un36 ty45 rfl (nb rfl) rfl rfl rfl (OwnD.empty w67 w31.heap.size w31.heap.size 45 1 RO_Row (some ⟨b30, 0, none⟩)) hO72 Bl Bl oM oM oM oM ?_)
   intro A75 c76 w77 row78 hO79 hG80 hrg81
   have hG80z := hG80.size
   refine sA rfl (dn (cR (sM rfl (sA rfl (sA rfl (SeqR.done ?_))))))
   refine tn (CW.ret (tr (rr rfl (.cons rfl (.cons rfl .nil)) ?_)))
   have hM82 : (i_Table_askStore p_0 p_1 p_2) = (((([] : List DRow) ++ ([(i_Table_rowAt p_0 p_1 p_2.Low).1] : List DRow)), true)) := by simp only [i_Table_askStore, hb38, hb65, cL]
   rw [hM82]
   exact ⟨A75, c76, w31.heap.size, w77.heap.size, rfl, hO79, (okL.mk (xs := (([] : List DRow) ++ ([(i_Table_rowAt p_0 p_1 p_2.Low).1] : List DRow))) Bl (okE.append okE.nil ((okL.mk (nb rfl) (okE.cons (show ok_Row ((i_Table_rowAt p_0 p_1 p_2.Low).1) from ho52) okE.nil))).2)), oM, (Below.grown (Ex.trans (Below.only (Ex.trans (Ex.trans (Ex.trans (Ex.trans (Ex.trans (Ex.refl w) hE23) hE29) hE35) hE54) hE61) hO64 oM) hE71) hG80 oM (fun k hk => by have := hrg81 k hk; omega))⟩
  ·refine CW.cond_f rfl hb65 (CW.skip (tn (cR (sM rfl (sA rfl (sA rfl (SeqR.done ?_)))))))
   refine tn (CW.ret (tr (rr rfl (.cons rfl (.cons rfl .nil)) ?_)))
   have hM91 : (i_Table_askStore p_0 p_1 p_2) = ((([] : List DRow), true)) := by simp only [i_Table_askStore, hb38, hb65, cL]
   have hfx92 := ((OwnD.empty w62 b30 (b30 + 1) 45 1 RO_Row (some ⟨b30, 0, none⟩))).1
   rw [hM91]
   exact ⟨(some ⟨b30, 0, none⟩), 0, b30, (b30 + 1), (by first | rfl | (simp only [List.length_replicate, List.length_set]; done) | (simp only [List.length_replicate, List.length_set]; rfl) | rw [hfx92]), (OwnD.fix (OwnD.empty w62 b30 (b30 + 1) 45 1 RO_Row (some ⟨b30, 0, none⟩))), (okL.nil _), oM, (Below.only (Ex.trans (Ex.trans (Ex.trans (Ex.trans (Ex.trans (Ex.refl w) hE23) hE29) hE35) hE54) hE61) hO64 oM)⟩
 ·have hb38p := dec_f hb38
  refine CW.cond_f rfl hb38 (CW.skip (tn (CW.seq (cR (sd rfl (yl_fieldAddr fd49_0 rfl rfl (sd rfl (yl_load1 ty3 rfl rfl ((q37.cell 0).trans rfl) (sd rfl (yl_neq rfl rfl rfl ?_))))))))))
  refine sM rfl (bcase (decide (p_2.Kind = 3)) (fun hb99 => ?_) (fun hb99 => ?_))
  ·have hb99p := dec_t hb99
   have q101 := Box.ex (Box.ex hB22 hE29) hE35
   refine sy rfl rfl (not_t hb99) (yl_loadN ty41 rfl rfl (q101.cells (n := 3) rfl) rfl (sy rfl rfl (not_t hb99) (yl_fieldAddr fd49_2 rfl rfl (sy rfl rfl (not_t hb99) (yl_load1 ty9 rfl rfl ((q37.cell 4).trans rfl) ?_)))))
   have q104 := RdS.ex gS (RdS.ex gS (RdS.ex gS h1 hE23) hE29) hE35
   have q107 := RdS.ex gI (RdS.ex gI (RdS.ex gI h2 hE23) hE29) hE35
   refine sy rfl rfl (not_t hb99) (yC en61 rfl (oc rfl (oc rfl oz)) (Cal.mono (c_i_Table_idx p_0 p_2.Idx (RdS.up q104 gS) (RdS.up q107 gI) o3 o8.2.1 Bo) ?_))
   rintro v110 w108 ⟨rfl, ho109, hE111⟩
   have hE111z := Ex.size hE111
   refine sy rfl rfl (not_t hb99) (yl_field1 fd88_2 rfl rfl rfl (sy rfl rfl (not_t hb99) (yl_neq rfl rfl rfl (sd rfl (yl_pick_f rfl rfl (not_t hb99) rfl (dn (bcase (decide (((i_Table_idx p_0 p_2.Idx).Stage) = 3)) (fun hb112 => ?_) (fun hb112 => ?_))))))))
   ·have hb112p := dec_t hb112
    refine CW.cond_f rfl (not_t hb112) (CW.skip (tn (cR (sd rfl (yl_buildSlice (cs := []) un99 ty104 (by decide) rfl opvs_nil (by kernel_rfl) ?_)))))
    intro b113 w114 hs115 hz116 hB117 hE118
    have hO119 : OwnL w114 b113 (b113 + 1) 104 2 (RF e_Entry) (some ⟨b113, 0, none⟩) 0 0 ([] : List DEntry) := OwnL.of_box (S := fun _ => False) hB117 (Nat.le_refl _) (Nat.lt_succ_self _) EncL.nil (nb rfl) (fun h => h) (fun _ h => False.elim h)
    refine sA rfl (dn (CW.seq (cR ?_)))
    have q121 := Box.ex (Box.ex q101 hE111) hE118
    refine sd rfl (yl_loadN ty41 rfl rfl (q121.cells (n := 3) rfl) rfl (sd rfl (yl_fieldAddr fd49_2 rfl rfl ?_)))
    have q123 := Box.ex (Box.ex q37 hE111) hE118
    refine sd rfl (yl_load1 ty9 rfl rfl ((q123.cell 4).trans rfl) (sM rfl ?_))
    have q125 := RdS.ex gS (RdS.ex gS q104 hE111) hE118
    have q127 := RdS.ex gI (RdS.ex gI q107 hE111) hE118
    have q132 := RdS.ex gW (RdS.ex gW (RdS.ex gW (RdS.ex gW (RdS.ex gW h4 hE23) hE29) hE35) hE111) hE118
    refine sd rfl (yC en62 rfl (oc rfl (oc rfl (oc rfl oz))) (Cal.mono (c_i_Table_entriesIn p_0 p_2.Idx p_1 (RdS.up q125 gS) (RdS.up q127 gI) (RdS.up q132 gW) o3 o8.2.1 o5 Bo) ?_))
    rintro v136 w133 ⟨A134, c134, lo134, hi134, rfl, h134, ho135, hrn138, hE137⟩
    have hE137z := Ex.size hE137
    refine sd rfl (yL un22 rfl rfl (sM rfl (dn (CW.block (CW.loop (fun m168 L169 w170 => ∃ (k139 : Nat) (x164 : List DEntry) (A165 : Option Addr) (c166 : Nat) (u167 : Nat), m168 = (i_Table_entriesIn p_0 p_2.Idx p_1).length - k139 ∧ k139 ≤ (i_Table_entriesIn p_0 p_2.Idx p_1).length ∧ w133.heap.size ≤ w170.heap.size ∧ lkp L169 1 = some (.slice A4 p_1.length c4) ∧ lkp L169 3 = some (.pointer (some ⟨b18, 0, none⟩)) ∧ lkp L169 5 = some (.pointer (some ⟨b24, 0, none⟩)) ∧ lkp L169 8 = some (.slice (some ⟨b30, 0, none⟩) 0 0) ∧ lkp L169 11 = some (.slice A165 x164.length c166) ∧ lkp L169 55 = some (.slice A134 ((i_Table_entriesIn p_0 p_2.Idx p_1).length) c134) ∧ lkp L169 56 = some (.int .i64 (((i_Table_entriesIn p_0 p_2.Idx p_1).length : Int))) ∧ lkp L169 57 = some (.int .i64 ((k139 : Int))) ∧ RdS w170 (Iv 0 w.heap.size) (RF e_Write) 3 A4 p_1.length c4 p_1 ∧ Box w170 b18 41 [.string (bs (p_0.Name)), .slice A1 p_0.Cols.length c1, .slice A2 p_0.Idxs.length c2] ∧ RdS w170 (Iv 0 w.heap.size) (RF e_Str) 1 A1 p_0.Cols.length c1 p_0.Cols ∧ RdS w170 (Iv 0 w.heap.size) (RF e_Idx) 3 A2 p_0.Idxs.length c2 p_0.Idxs ∧ Box w170 b24 49 [.int .i64 (p_2.Kind), .int .i64 (p_2.Act.Kind), .slice A6 p_2.Act.Old.Vals.length c6, .slice A7 p_2.Act.New.Vals.length c7, .string (bs (p_2.Idx)), .string (bs (p_2.Low)), .string (bs (p_2.High))] ∧ RdS w170 (Iv 0 w.heap.size) (RF e_Str) 1 A6 p_2.Act.Old.Vals.length c6 p_2.Act.Old.Vals ∧ RdS w170 (Iv 0 w.heap.size) (RF e_Str) 1 A7 p_2.Act.New.Vals.length c7 p_2.Act.New.Vals ∧ OwnL w170 b30 (b30 + 1) 45 1 R_Row (some ⟨b30, 0, none⟩) 0 0 ([] : List DRow) ∧ OwnL w170 w133.heap.size u167 104 2 (RF e_Entry) A165 x164.length c166 x164 ∧ OwnL w170 lo134 hi134 9 1 (RF e_Str) A134 ((i_Table_entriesIn p_0 p_2.Idx p_1).length) c134 (i_Table_entriesIn p_0 p_2.Idx p_1) ∧ Ex w w170 ∧ (w133.heap.size ≤ u167 ∧ u167 ≤ w170.heap.size) ∧ x164.length ≤ 0 + 1 * (k139 - 0) ∧ (∀ y ∈ x164, ok_Entry y) ∧ loopM (B_i_Table_askStore_0 p_0 p_1 p_2) ((i_Table_entriesIn p_0 p_2.Idx p_1).length - k139) k139 (x164) = loopM (B_i_Table_askStore_0 p_0 p_1 p_2) ((i_Table_entriesIn p_0 p_2.Idx p_1).length - 0) 0 (([] : List DEntry))) ((i_Table_entriesIn p_0 p_2.Idx p_1).length - 0) ?_ ?_)))))
    ·exact ⟨0, ([] : List DEntry), (some ⟨b113, 0, none⟩), 0, w133.heap.size, rfl, oM, Nat.le_refl _, rfl, rfl, rfl, rfl, rfl, rfl, rfl, rfl, (RdS.ex gW q132 hE137), (Box.ex q121 hE137), (RdS.ex gS q125 hE137), (RdS.ex gI q127 hE137), (Box.ex q123 hE137), (RdS.ex gS (RdS.ex gS (RdS.ex gS (RdS.ex gS (RdS.ex gS (RdS.ex gS h6 hE23) hE29) hE35) hE111) hE118) hE137), (RdS.ex gS (RdS.ex gS (RdS.ex gS (RdS.ex gS (RdS.ex gS (RdS.ex gS h7 hE23) hE29) hE35) hE111) hE118) hE137), (OwnL.ex good_Row (OwnL.ex good_Row (OwnL.ex good_Row hO36 hE111) hE118) hE137), (OwnL.empty w133 w133.heap.size w133.heap.size 104 2 (RF e_Entry) (some ⟨b113, 0, none⟩)), h134, (Ex.trans (Ex.trans (Ex.trans (Ex.trans (Ex.trans (Ex.trans (Ex.refl w) hE23) hE29) hE35) hE111) hE118) hE137), oM, (by first | (simp; done) | (first | omega | (simp only [lN, toS_length]; omega))), okE.nil, rfl⟩
    ·rintro m197 L198 w199 ⟨k139, x164, A165, c166, u167, rfl, hk200, hsz202, hl203, hl204, hl205, hl206, hl207, hl208, hl209, hl210, hf211, hf212, hf213, hf214, hf215, hf216, hf217, hf218, hf219, hf220, hf221, hu222, hln223, hok224, hI201⟩
     refine CW.sub (Sub.cons hl203 (Sub.cons hl204 (Sub.cons hl205 (Sub.cons hl206 (Sub.cons hl207 (Sub.cons hl208 (Sub.cons hl209 (Sub.cons hl210 (Sub.nil _))))))))) ?_
     have hf212z := Box.lt hf212
     have hf215z := Box.lt hf215
     have hf221z := Ex.size hf221
     have hbg225 := RdS.big (OwnL.rd gS hf220)
     rcases Nat.lt_or_ge k139 ((i_Table_entriesIn p_0 p_2.Idx p_1).length) with hlt227 | hlt227
     ·refine cR (sd rfl (yl_lss rfl rfl rfl (dn (CW.seq (CW.cond_t rfl (lt_t hlt227) (CW.skip (tn ?_)))))))
      refine CW.seq (CW.block (cR ?_))
      obtain ⟨eb229, eo229, _, eA229, _, ebl229, _, eR229, eC229⟩ := RdS.aD (OwnL.rd gS hf220) d_Str (i := k139)
      obtain rfl := eR229
      have eC229 : Cells w199 eb229 (eo229 + k139 * 1) [.string (bs (((i_Table_entriesIn p_0 p_2.Idx p_1).getD k139 d_Str)))] := eC229
      refine sd rfl (yl_ixN un22 ty9 rfl rfl rfl eA229 (sd rfl (yl_load1 ty9 rfl rfl (eC229 0 _ rfl) (sA rfl (dn (cR (sd rfl (yl_loadN ty41 rfl rfl (hf212.cells (n := 3) rfl) rfl (sd rfl (yl_fieldAddr fd49_2 rfl rfl ?_))))))))))
      refine sd rfl (yl_load1 ty9 rfl rfl ((hf215.cell 4).trans rfl) (sM rfl (sd rfl (yC en63 rfl (oc rfl (oc rfl (oc rfl oz))) (Cal.mono (c_i_Table_readIdxKey p_0 p_2.Idx ((i_Table_entriesIn p_0 p_2.Idx p_1).getD k139 d_Str) (RdS.up hf213 gS) (RdS.up hf214 gI) o3 o8.2.1 (okL.getD ho135 ok_d_Str _) Bo) ?_)))))
      rintro v233 w230 ⟨rfl, ho231, ho232, hE234⟩
      have hE234z := Ex.size hE234
      refine sM rfl (sd rfl (yl_extract rfl rfl rfl (sd rfl (yl_extract rfl rfl rfl (sd rfl (yl_extract rfl rfl rfl (sA rfl (sA rfl (sA rfl (dn ?_))))))))))
      refine cR (sM rfl (sd rfl (yl_fieldAddr fd49_3 rfl rfl ?_)))
      have q235 := Box.ex hf215 hE234
      refine sd rfl (yl_load1 ty9 rfl rfl ((q235.cell 5).trans rfl) (sd rfl (yl_sgeq (a := ((i_Table_readIdxKey p_0 p_2.Idx ((i_Table_entriesIn p_0 p_2.Idx p_1).getD k139 d_Str)).1)) (b := p_2.Low) rfl rfl rfl (sM rfl (bcase (sLt ((i_Table_readIdxKey p_0 p_2.Idx ((i_Table_entriesIn p_0 p_2.Idx p_1).getD k139 d_Str)).1) p_2.Low) (fun hb236 => ?_) (fun hb236 => ?_))))))
      ·refine sz rfl rfl (not_t hb236) (sz rfl rfl (not_t hb236) (sz rfl rfl (not_t hb236) (sz rfl rfl (not_t hb236) (sd rfl (yl_pick_f rfl rfl (not_t hb236) rfl (dn (CW.cond_f rfl rfl (CW.skip ?_))))))))
       refine bn (tn (CW.region (sd rfl (yl_inc rfl rfl rfl oM (sM rfl (dn ?_))))))
       have hB237 : B_i_Table_askStore_0 p_0 p_1 p_2 k139 (x164) = .cont (x164) := by simp only [B_i_Table_askStore_0, hb38, hb99, hb112, hb236, cL]
       exact ⟨(i_Table_entriesIn p_0 p_2.Idx p_1).length - (k139 + 1), oM, k139 + 1, x164, A165, c166, u167, rfl, hlt227, oM, rfl, rfl, rfl, rfl, rfl, rfl, rfl, rfl, (RdS.ex gW hf211 hE234), (Box.ex hf212 hE234), (RdS.ex gS hf213 hE234), (RdS.ex gI hf214 hE234), q235, (RdS.ex gS hf216 hE234), (RdS.ex gS hf217 hE234), (OwnL.ex good_Row hf218 hE234), (OwnL.ex good_Entry hf219 hE234), (OwnL.ex gS hf220 hE234), (Ex.trans hf221 hE234), oM, Bl, hok224, (loopM.cont hlt227 hB237).symm.trans hI201⟩
      ·refine sy rfl rfl (not_f hb236) (yM rfl rfl (sy rfl rfl (not_f hb236) (yl_fieldAddr fd49_4 rfl rfl (sy rfl rfl (not_f hb236) (yl_load1 ty9 rfl rfl ((q235.cell 6).trans rfl) (sy rfl rfl (not_f hb236) (yl_sleq (a := ((i_Table_readIdxKey p_0 p_2.Idx ((i_Table_entriesIn p_0 p_2.Idx p_1).getD k139 d_Str)).1)) (b := p_2.High) rfl rfl rfl (sd rfl (yl_pick_t rfl rfl (not_f hb236) rfl (dn (bcase (sLe ((i_Table_readIdxKey p_0 p_2.Idx ((i_Table_entriesIn p_0 p_2.Idx p_1).getD k139 d_Str)).1) p_2.High) (fun hb248 => ?_) (fun hb248 => ?_))))))))))))
       ·refine CW.cond_t rfl hb248 (CW.region (sM rfl (sM rfl (sM rfl (sd rfl (yl_build (cs := [.string (bs ((i_Table_readIdxKey p_0 p_2.Idx ((i_Table_entriesIn p_0 p_2.Idx p_1).getD k139 d_Str)).1)), .string (bs ((i_Table_readIdxKey p_0 p_2.Idx ((i_Table_entriesIn p_0 p_2.Idx p_1).getD k139 d_Str)).2.1))]) rfl (oc rfl (oc rfl oz)) (by kernel_rfl) (sd rfl (yl_buildSlice (cs := [.string (bs ((i_Table_readIdxKey p_0 p_2.Idx ((i_Table_entriesIn p_0 p_2.Idx p_1).getD k139 d_Str)).1)), .string (bs ((i_Table_readIdxKey p_0 p_2.Idx ((i_Table_entriesIn p_0 p_2.Idx p_1).getD k139 d_Str)).2.1))]) un99 ty104 (by decide) rfl (oc rfl oz) (by kernel_rfl) ?_))))))))
        intro b249 w250 hs251 hz252 hB253 hE254
        have hO255 : OwnL w250 b249 (b249 + 1) 104 2 (RF e_Entry) (some ⟨b249, 0, none⟩) 1 1 ([(⟨(i_Table_readIdxKey p_0 p_2.Idx ((i_Table_entriesIn p_0 p_2.Idx p_1).getD k139 d_Str)).1, (i_Table_readIdxKey p_0 p_2.Idx ((i_Table_entriesIn p_0 p_2.Idx p_1).getD k139 d_Str)).2.1⟩ : DEntry)] : List DEntry) := OwnL.of_box (S := fun _ => False) hB253 (Nat.le_refl _) (Nat.lt_succ_self _) (EncL.cons (c := [.string (bs ((i_Table_readIdxKey p_0 p_2.Idx ((i_Table_entriesIn p_0 p_2.Idx p_1).getD k139 d_Str)).1)), .string (bs ((i_Table_readIdxKey p_0 p_2.Idx ((i_Table_entriesIn p_0 p_2.Idx p_1).getD k139 d_Str)).2.1))]) rfl rfl EncL.nil) (nb rfl) (fun h => h) (fun _ h => False.elim h)
        refine sd rfl (yl_appendL (S := (fun _ => False)) (lo := w133.heap.size) (hi := u167) (xs := x164) (ys := ([(⟨(i_Table_readIdxKey p_0 p_2.Idx ((i_Table_entriesIn p_0 p_2.Idx p_1).getD k139 d_Str)).1, (i_Table_readIdxKey p_0 p_2.Idx ((i_Table_entriesIn p_0 p_2.Idx p_1).getD k139 d_Str)).2.1⟩ : DEntry)] : List DEntry)) good_Entry un99 ty104 rfl (nb rfl) rfl rfl rfl (OwnL.ex good_Entry (OwnL.ex good_Entry hf219 hE234) hE254) (EncL.cons (c := [.string (bs ((i_Table_readIdxKey p_0 p_2.Idx ((i_Table_entriesIn p_0 p_2.Idx p_1).getD k139 d_Str)).1)), .string (bs ((i_Table_readIdxKey p_0 p_2.Idx ((i_Table_entriesIn p_0 p_2.Idx p_1).getD k139 d_Str)).2.1))]) rfl rfl EncL.nil) (Or.inr ⟨_, _, rfl, rfl, hB253.cells (o := 0) (n := 2) rfl⟩) rfl Bl Bl oM oM (fun _ h _ => False.elim h) oM ?_)
        intro A258 c259 w260 row261 hO262 hG263 hrg264
        have hG263z := hG263.size
        refine sA rfl (SeqR.done (bn (tn (CW.region (sd rfl (yl_inc rfl rfl rfl oM (sM rfl (dn ?_))))))))
        have hB265 : B_i_Table_askStore_0 p_0 p_1 p_2 k139 (x164) = .cont ((x164 ++ ([(⟨(i_Table_readIdxKey p_0 p_2.Idx ((i_Table_entriesIn p_0 p_2.Idx p_1).getD k139 d_Str)).1, (i_Table_readIdxKey p_0 p_2.Idx ((i_Table_entriesIn p_0 p_2.Idx p_1).getD k139 d_Str)).2.1⟩ : DEntry)] : List DEntry))) := by simp only [B_i_Table_askStore_0, hb38, hb99, hb112, hb236, hb248, cL]
        exact ⟨(i_Table_entriesIn p_0 p_2.Idx p_1).length - (k139 + 1), oM, k139 + 1, (x164 ++ ([(⟨(i_Table_readIdxKey p_0 p_2.Idx ((i_Table_entriesIn p_0 p_2.Idx p_1).getD k139 d_Str)).1, (i_Table_readIdxKey p_0 p_2.Idx ((i_Table_entriesIn p_0 p_2.Idx p_1).getD k139 d_Str)).2.1⟩ : DEntry)] : List DEntry)), A258, c259, w260.heap.size, rfl, hlt227, oM, rfl, rfl, rfl, rfl, rfl, rfl, rfl, rfl, (RdS.grown gW (RdS.ex gW (RdS.ex gW hf211 hE234) hE254) hG263 (fun k hk => by have := hrg264 k hk; simp only [Iv]; omega)), (Box.grown (Box.ex (Box.ex hf212 hE234) hE254) hG263 (fun k hk => by have := hrg264 k hk; omega)), (RdS.grown gS (RdS.ex gS (RdS.ex gS hf213 hE234) hE254) hG263 (fun k hk => by have := hrg264 k hk; simp only [Iv]; omega)), (RdS.grown gI (RdS.ex gI (RdS.ex gI hf214 hE234) hE254) hG263 (fun k hk => by have := hrg264 k hk; simp only [Iv]; omega)), (Box.grown (Box.ex q235 hE254) hG263 (fun k hk => by have := hrg264 k hk; omega)), (RdS.grown gS (RdS.ex gS (RdS.ex gS hf216 hE234) hE254) hG263 (fun k hk => by have := hrg264 k hk; simp only [Iv]; omega)), (RdS.grown gS (RdS.ex gS (RdS.ex gS hf217 hE234) hE254) hG263 (fun k hk => by have := hrg264 k hk; simp only [Iv]; omega)), (OwnL.grown good_Row (OwnL.ex good_Row (OwnL.ex good_Row hf218 hE234) hE254) hG263 (fun k hk => by have := hrg264 k hk; omega)), hO262, (OwnL.grown gS (OwnL.ex gS (OwnL.ex gS hf220 hE234) hE254) hG263 (fun k hk => by have := hrg264 k hk; omega)), (Below.grown (Ex.trans (Ex.trans hf221 hE234) hE254) hG263 oM (fun k hk => by have := hrg264 k hk; omega)), oM, Bl, (okE.append hok224 ((okL.mk (nb rfl) (okE.cons ⟨ho231, ho232⟩ okE.nil))).2), (loopM.cont hlt227 hB265).symm.trans hI201⟩
       ·refine CW.cond_f rfl hb248 (CW.skip (bn (tn (CW.region (sd rfl (yl_inc rfl rfl rfl oM (sM rfl (dn ?_))))))))
        have hB295 : B_i_Table_askStore_0 p_0 p_1 p_2 k139 (x164) = .cont (x164) := by simp only [B_i_Table_askStore_0, hb38, hb99, hb112, hb236, hb248, cL]
        exact ⟨(i_Table_entriesIn p_0 p_2.Idx p_1).length - (k139 + 1), oM, k139 + 1, x164, A165, c166, u167, rfl, hlt227, oM, rfl, rfl, rfl, rfl, rfl, rfl, rfl, rfl, (RdS.ex gW hf211 hE234), (Box.ex hf212 hE234), (RdS.ex gS hf213 hE234), (RdS.ex gI hf214 hE234), q235, (RdS.ex gS hf216 hE234), (RdS.ex gS hf217 hE234), (OwnL.ex good_Row hf218 hE234), (OwnL.ex good_Entry hf219 hE234), (OwnL.ex gS hf220 hE234), (Ex.trans hf221 hE234), oM, Bl, hok224, (loopM.cont hlt227 hB295).symm.trans hI201⟩
     ·refine cR (sd rfl (yl_lss rfl rfl rfl (dn (CW.seq (CW.cond_f rfl (lt_f hlt227) (CW.exit (tx ?_)))))))
      refine tx ?_
      have hL306 : loopM (B_i_Table_askStore_0 p_0 p_1 p_2) ((i_Table_entriesIn p_0 p_2.Idx p_1).length - 0) 0 (([] : List DEntry)) = .done (x164) := hI201.symm.trans (loopM.stop hlt227)
      refine bx (tn (cR (sM rfl (sd rfl (yC en64 rfl (oc rfl (oc rfl oz)) (Cal.mono (c_g_slices_SortFunc_entry x164 hf219 oM) ?_))))))
      rintro v308 w307 ⟨rfl, h310, hm309⟩
      have hm309z := Mut.size hm309
      have hrf311 := len_sortE x164
      refine dn (CW.seq (cR (sM rfl (sd rfl (yL un99 rfl rfl (sM rfl (SeqR.done ?_)))))))
      refine tn (CW.block (CW.loop (fun m400 L401 w402 => ∃ (k312 : Nat) (x396 : List DRow) (A397 : Option Addr) (c398 : Nat) (u399 : Nat), m400 = x164.length - k312 ∧ k312 ≤ x164.length ∧ w307.heap.size ≤ w402.heap.size ∧ lkp L401 1 = some (.slice A4 p_1.length c4) ∧ lkp L401 3 = some (.pointer (some ⟨b18, 0, none⟩)) ∧ lkp L401 8 = some (.slice A397 x396.length c398) ∧ lkp L401 89 = some (.slice A165 x164.length c166) ∧ lkp L401 90 = some (.int .i64 ((x164.length : Int))) ∧ lkp L401 91 = some (.int .i64 ((k312 : Int))) ∧ RdS w402 (Iv 0 w.heap.size) (RF e_Write) 3 A4 p_1.length c4 p_1 ∧ Box w402 b18 41 [.string (bs (p_0.Name)), .slice A1 p_0.Cols.length c1, .slice A2 p_0.Idxs.length c2] ∧ RdS w402 (Iv 0 w.heap.size) (RF e_Str) 1 A1 p_0.Cols.length c1 p_0.Cols ∧ RdS w402 (Iv 0 w.heap.size) (RF e_Idx) 3 A2 p_0.Idxs.length c2 p_0.Idxs ∧ OwnD w402 w307.heap.size u399 45 1 RO_Row A397 x396.length c398 x396 ∧ OwnL w402 w133.heap.size u167 104 2 (RF e_Entry) A165 x164.length c166 (g_slices_SortFunc_entry x164) ∧ Ex w w402 ∧ (w307.heap.size ≤ u399 ∧ u399 ≤ w402.heap.size) ∧ x396.length ≤ 0 + 1 * (k312 - 0) ∧ (∀ y ∈ x396, ok_Row y) ∧ loopM (B_i_Table_askStore_1 p_0 p_1 p_2 x164) (x164.length - k312) k312 (x396) = loopM (B_i_Table_askStore_1 p_0 p_1 p_2 x164) (x164.length - 0) 0 (([] : List DRow))) (x164.length - 0) ?_ ?_))
      ·exact ⟨0, ([] : List DRow), (some ⟨b30, 0, none⟩), 0, w307.heap.size, rfl, oM, Nat.le_refl _, rfl, rfl, rfl, rfl, rfl, rfl, (RdS.mut gW hf211 hm309 (fun k hk => by simp only [InR, or_false, Iv, Ge] at hk ⊢; omega)), (Box.mut hf212 hm309 (fun k hk => by simp only [InR, or_false] at hk; omega)), (RdS.mut gS hf213 hm309 (fun k hk => by simp only [InR, or_false, Iv, Ge] at hk ⊢; omega)), (RdS.mut gI hf214 hm309 (fun k hk => by simp only [InR, or_false, Iv, Ge] at hk ⊢; omega)), (OwnD.empty w307 w307.heap.size w307.heap.size 45 1 RO_Row (some ⟨b30, 0, none⟩)), h310, (Ex.mut hf221 hm309 (fun k hk => by simp only [InR, or_false] at hk; omega)), oM, (by first | (simp; done) | (first | omega | (simp only [lN, toS_length]; omega))), okE.nil, rfl⟩
      ·rintro m408 L409 w410 ⟨k312, x396, A397, c398, u399, rfl, hk411, hsz413, hl414, hl415, hl416, hl417, hl418, hl419, hf420, hf421, hf422, hf423, hf424, hf425, hf426, hu427, hln428, hok429, hI412⟩
       refine CW.sub (Sub.cons hl414 (Sub.cons hl415 (Sub.cons hl416 (Sub.cons hl417 (Sub.cons hl418 (Sub.cons hl419 (Sub.nil _))))))) ?_
       have hf421z := Box.lt hf421
       have hf426z := Ex.size hf426
       have hbg430 := RdS.big (OwnL.rd good_Entry hf425)
       rcases Nat.lt_or_ge k312 x164.length with hlt432 | hlt432
       ·refine cR (sd rfl (yl_lss rfl rfl rfl (dn (CW.seq (CW.cond_t rfl (lt_t hlt432) (CW.skip (tn ?_)))))))
        refine CW.seq (CW.block (cR ?_))
        obtain ⟨eb434, eo434, _, eA434, _, ebl434, _, eR434, eC434⟩ := RdS.aD (OwnL.rd good_Entry hf425) d_Entry (i := k312)
        obtain rfl := eR434
        have eC434 : Cells w410 eb434 (eo434 + k312 * 2) [.string (bs (((g_slices_SortFunc_entry x164).getD k312 d_Entry).val)), .string (bs (((g_slices_SortFunc_entry x164).getD k312 d_Entry).primary))] := eC434
        refine sd rfl (yl_ixN un99 ty104 rfl rfl rfl eA434 (sd rfl (yl_loadN ty104 rfl rfl eC434 rfl (sd rfl (yB ty104 (cs := [.string (bs (([] : Str))), .string (bs (([] : Str)))]) rfl rfl ?_)))))
        intro b435 w436 hs437 hz438 hB439 hE440
        refine SeqR.u rfl rfl (yl_store (vs := [.string (bs (((g_slices_SortFunc_entry x164).getD k312 d_Entry).val)), .string (bs (((g_slices_SortFunc_entry x164).getD k312 d_Entry).primary))]) ty104 rfl rfl rfl rfl rfl rfl hB439 (nb rfl) ?_)
        intro w441 hB442 hO443
        have hB442 : Box w441 b435 104 [.string (bs (((g_slices_SortFunc_entry x164).getD k312 d_Entry).val)), .string (bs (((g_slices_SortFunc_entry x164).getD k312 d_Entry).primary))] := hB442
        have hO443z := hO443.size
        refine dn (cR ?_)
        have q445 := Box.only (Box.ex hf421 hE440) hO443 oM
        refine sd rfl (yl_loadN ty41 rfl rfl (q445.cells (n := 3) rfl) rfl (sM rfl (sd rfl (yl_fieldAddr fd104_1 rfl rfl (sd rfl (yl_load1 ty9 rfl rfl ((hB442.cell 1).trans rfl) ?_))))))
        have q447 := RdS.only gS (RdS.ex gS hf422 hE440) hO443 (by simp only [Iv]; omega)
        have q449 := RdS.only gI (RdS.ex gI hf423 hE440) hO443 (by simp only [Iv]; omega)
        have q451 := RdS.only gW (RdS.ex gW hf420 hE440) hO443 (by simp only [Iv]; omega)
        refine sd rfl (yC en60 rfl (oc rfl (oc rfl (oc rfl oz))) (Cal.mono (c_i_Table_rowAt p_0 p_1 (((g_slices_SortFunc_entry x164).getD k312 d_Entry).primary) (RdS.up q447 gS) (RdS.up q449 gI) (RdS.up q451 gW) o3 o5 ((okL.getD (okL_sortE (okL.mk (xs := x164) Bl hok224)) ok_d_Entry _).2) (good_stmt' pre0)) ?_))
        rintro v455 w452 ⟨A453, c453, lo453, hi453, rfl, h453, ho454, hrn457, hE456⟩
        have hE456z := Ex.size hE456
        refine sM rfl (sd rfl (yl_extract rfl rfl rfl (sd rfl (yl_extract rfl rfl rfl (sd rfl (yB ty45 (cs := [.slice none 0 0]) rfl rfl ?_))))))
        intro b458 w459 hs460 hz461 hB462 hE463
        refine SeqR.u rfl rfl (yl_store (vs := [.slice A453 (((i_Table_rowAt p_0 p_1 (((g_slices_SortFunc_entry x164).getD k312 d_Entry).primary)).1.Vals).length) c453]) ty45 rfl rfl rfl rfl rfl rfl hB462 (nb rfl) ?_)
        intro w464 hB465 hO466
        have hB465 : Box w464 b458 45 [.slice A453 (((i_Table_rowAt p_0 p_1 (((g_slices_SortFunc_entry x164).getD k312 d_Entry).primary)).1.Vals).length) c453] := hB465
        have hO466z := hO466.size
        refine sA rfl (dn (cR (sM rfl (dn (bcase ((i_Table_rowAt p_0 p_1 (((g_slices_SortFunc_entry x164).getD k312 d_Entry).primary)).2) (fun hb467 => ?_) (fun hb467 => ?_))))))
        ·refine CW.cond_t rfl hb467 (CW.region (sM rfl (sd rfl (yl_loadN ty45 rfl rfl (hB465.cells (n := 1) rfl) rfl (sd rfl (yl_buildSlice (cs := [.slice A453 (((i_Table_rowAt p_0 p_1 (((g_slices_SortFunc_entry x164).getD k312 d_Entry).primary)).1.Vals).length) c453]) un36 ty45 (by decide) rfl (oc rfl oz) (by kernel_rfl) ?_))))))
         intro b468 w469 hs470 hz471 hB472 hE473
         have hO474 : OwnD w469 w441.heap.size (b468 + 1) 45 1 RO_Row (some ⟨b468, 0, none⟩) 1 1 ([(i_Table_rowAt p_0 p_1 (((g_slices_SortFunc_entry x164).getD k312 d_Entry).primary)).1] : List DRow) := OwnD.of_box (b := b468) (xs := ([(i_Table_rowAt p_0 p_1 (((g_slices_SortFunc_entry x164).getD k312 d_Entry).primary)).1] : List DRow)) (cells := [[.slice A453 (((i_Table_rowAt p_0 p_1 (((g_slices_SortFunc_entry x164).getD k312 d_Entry).primary)).1.Vals).length) c453]]) (by rw [List.flatten_singleton]; exact hB472) oM (Nat.lt_succ_self _) (.cons (l := w441.heap.size) (h := b468) (Nat.le_refl _) oM rfl (fun k hk => by cases hk; exact .inr (Nat.le_refl _)) (mkO_Row (l := w441.heap.size) (h := b468) (OwnL.ex gS (OwnL.only gS (OwnL.ex gS h453 hE463) hO466 oM) hE473) oM) (.nil (Nat.le_succ _))) (nb rfl)
         refine sd rfl (yl_appendD (xs := x396) (ys := ([(i_Table_rowAt p_0 p_1 (((g_slices_SortFunc_entry x164).getD k312 d_Entry).primary)).1] : List DRow)) goodO_Row un36 ty45 rfl (nb rfl) rfl rfl rfl (OwnD.ex goodO_Row (OwnD.only goodO_Row (OwnD.ex goodO_Row (OwnD.ex goodO_Row (OwnD.only goodO_Row (OwnD.ex goodO_Row hf424 hE440) hO443 oM) hE456) hE463) hO466 oM) hE473) hO474 Bl Bl oM oM oM oM ?_)
         intro A483 c484 w485 row486 hO487 hG488 hrg489
         have hG488z := hG488.size
         refine sA rfl (SeqR.done (bn (tn (CW.region (sd rfl (yl_inc rfl rfl rfl oM (sM rfl (dn ?_))))))))
         have hB490 : B_i_Table_askStore_1 p_0 p_1 p_2 x164 k312 (x396) = .cont ((x396 ++ ([(i_Table_rowAt p_0 p_1 (((g_slices_SortFunc_entry x164).getD k312 d_Entry).primary)).1] : List DRow))) := by simp only [B_i_Table_askStore_1, hb38, hb99, hb112, hb467, hL306, cL]
         exact ⟨x164.length - (k312 + 1), oM, k312 + 1, (x396 ++ ([(i_Table_rowAt p_0 p_1 (((g_slices_SortFunc_entry x164).getD k312 d_Entry).primary)).1] : List DRow)), A483, c484, w485.heap.size, rfl, hlt432, oM, rfl, rfl, rfl, rfl, rfl, rfl, (RdS.grown gW (RdS.ex gW (RdS.only gW (RdS.ex gW (RdS.ex gW q451 hE456) hE463) hO466 (by simp only [Iv]; omega)) hE473) hG488 (fun k hk => by have := hrg489 k hk; simp only [Iv]; omega)), (Box.grown (Box.ex (Box.only (Box.ex (Box.ex q445 hE456) hE463) hO466 oM) hE473) hG488 (fun k hk => by have := hrg489 k hk; omega)), (RdS.grown gS (RdS.ex gS (RdS.only gS (RdS.ex gS (RdS.ex gS q447 hE456) hE463) hO466 (by simp only [Iv]; omega)) hE473) hG488 (fun k hk => by have := hrg489 k hk; simp only [Iv]; omega)), (RdS.grown gI (RdS.ex gI (RdS.only gI (RdS.ex gI (RdS.ex gI q449 hE456) hE463) hO466 (by simp only [Iv]; omega)) hE473) hG488 (fun k hk => by have := hrg489 k hk; simp only [Iv]; omega)), hO487, (OwnL.grown good_Entry (OwnL.ex good_Entry (OwnL.only good_Entry (OwnL.ex good_Entry (OwnL.ex good_Entry (OwnL.only good_Entry (OwnL.ex good_Entry hf425 hE440) hO443 oM) hE456) hE463) hO466 oM) hE473) hG488 (fun k hk => by have := hrg489 k hk; omega)), (Below.grown (Ex.trans (Below.only (Ex.trans (Ex.trans (Below.only (Ex.trans hf426 hE440) hO443 oM) hE456) hE463) hO466 oM) hE473) hG488 oM (fun k hk => by have := hrg489 k hk; omega)), oM, Bl, (okE.append hok429 ((okL.mk (nb rfl) (okE.cons (show ok_Row ((i_Table_rowAt p_0 p_1 (((g_slices_SortFunc_entry x164).getD k312 d_Entry).primary)).1) from ho454) okE.nil))).2), (loopM.cont hlt432 hB490).symm.trans hI412⟩
        ·refine CW.cond_f rfl hb467 (CW.skip (bn (tn (CW.region (sd rfl (yl_inc rfl rfl rfl oM (sM rfl (dn ?_))))))))
         have hB525 : B_i_Table_askStore_1 p_0 p_1 p_2 x164 k312 (x396) = .cont (x396) := by simp only [B_i_Table_askStore_1, hb38, hb99, hb112, hb467, hL306, cL]
         exact ⟨x164.length - (k312 + 1), oM, k312 + 1, x396, A397, c398, u399, rfl, hlt432, oM, rfl, rfl, rfl, rfl, rfl, rfl, (RdS.only gW (RdS.ex gW (RdS.ex gW q451 hE456) hE463) hO466 (by simp only [Iv]; omega)), (Box.only (Box.ex (Box.ex q445 hE456) hE463) hO466 oM), (RdS.only gS (RdS.ex gS (RdS.ex gS q447 hE456) hE463) hO466 (by simp only [Iv]; omega)), (RdS.only gI (RdS.ex gI (RdS.ex gI q449 hE456) hE463) hO466 (by simp only [Iv]; omega)), (OwnD.only goodO_Row (OwnD.ex goodO_Row (OwnD.ex goodO_Row (OwnD.only goodO_Row (OwnD.ex goodO_Row hf424 hE440) hO443 oM) hE456) hE463) hO466 oM), (OwnL.only good_Entry (OwnL.ex good_Entry (OwnL.ex good_Entry (OwnL.only good_Entry (OwnL.ex good_Entry hf425 hE440) hO443 oM) hE456) hE463) hO466 oM), (Below.only (Ex.trans (Ex.trans (Below.only (Ex.trans hf426 hE440) hO443 oM) hE456) hE463) hO466 oM), oM, Bl, hok429, (loopM.cont hlt432 hB525).symm.trans hI412⟩
       ·refine cR (sd rfl (yl_lss rfl rfl rfl (dn (CW.seq (CW.cond_f rfl (lt_f hlt432) (CW.exit (tx ?_)))))))
        refine tx ?_
        have hL553 : loopM (B_i_Table_askStore_1 p_0 p_1 p_2 x164) (x164.length - 0) 0 (([] : List DRow)) = .done (x396) := hI412.symm.trans (loopM.stop hlt432)
        refine bx (tn (cR (sM rfl (sA rfl (sA rfl (dn ?_))))))
        refine CW.ret (rr rfl (.cons rfl (.cons rfl .nil)) ?_)
        have hM554 : (i_Table_askStore p_0 p_1 p_2) = ((x396, true)) := by simp only [i_Table_askStore, hb38, hb99, hb112, hL306, hL553, cL]
        rw [hM554]
        exact ⟨A397, c398, w307.heap.size, u399, rfl, hf424, (okL.mk (xs := x396) Bl hok429), oM, hf426⟩
   ·have hb112p := dec_f hb112
    refine CW.cond_t rfl (not_f hb112) (cR (sA rfl (sA rfl (dn (CW.ret (tr ?_))))))
    refine rr rfl (.cons rfl (.cons rfl .nil)) ?_
    have hM555 : (i_Table_askStore p_0 p_1 p_2) = ((([] : List DRow), false)) := by simp only [i_Table_askStore, hb38, hb99, hb112, cL]
    rw [hM555]
    exact ⟨none, 0, w108.heap.size, w108.heap.size, rfl, (OwnD.nil _ _ _ _ _ _), (okL.nil _), oM, (Ex.trans (Ex.trans (Ex.trans (Ex.trans (Ex.refl w) hE23) hE29) hE35) hE111)⟩
  ·have hb99p := dec_f hb99
   refine sz rfl rfl (not_f hb99) (sz rfl rfl (not_f hb99) (sz rfl rfl (not_f hb99) (sz rfl rfl (not_f hb99) (sz rfl rfl (not_f hb99) (sz rfl rfl (not_f hb99) (sd rfl (yl_pick_t rfl rfl (not_f hb99) rfl (dn ?_))))))))
   refine CW.cond_t rfl rfl (cR (sA rfl (sA rfl (dn (CW.ret (tr ?_))))))
   refine rr rfl (.cons rfl (.cons rfl .nil)) ?_
   have hM560 : (i_Table_askStore p_0 p_1 p_2) = ((([] : List DRow), false)) := by simp only [i_Table_askStore, hb38, hb99, cL]
   rw [hM560]
   exact ⟨none, 0, w31.heap.size, w31.heap.size, rfl, (OwnD.nil _ _ _ _ _ _), (okL.nil _), oM, (Ex.trans (Ex.trans (Ex.trans (Ex.refl w) hE23) hE29) hE35)⟩
theorem c_i_AskStore {A1 : Option Addr} {c1 : Nat} {A2 : Option Addr} {c2 : Nat} {A4 : Option Addr} {c4 : Nat} {A6 : Option Addr} {c6 : Nat} {A7 : Option Addr} {c7 : Nat} {w : World} (p_t : DTable) (ps : List DWrite) (p_s : DStmt) (h1 : RdS w (Iv 0 w.heap.size) (RF e_Str) 1 A1 p_t.Cols.length c1 p_t.Cols) (h2 : RdS w (Iv 0 w.heap.size) (RF e_Idx) 3 A2 p_t.Idxs.length c2 p_t.Idxs) (h4 : RdS w (Iv 0 w.heap.size) (RF e_Write) 3 A4 ps.length c4 ps) (h6 : RdS w (Iv 0 w.heap.size) (RF e_Str) 1 A6 p_s.Act.Old.Vals.length c6 p_s.Act.Old.Vals) (h7 : RdS w (Iv 0 w.heap.size) (RF e_Str) 1 A7 p_s.Act.New.Vals.length c7 p_s.Act.New.Vals) (o3 : ok_Table p_t) (o5 : (okL ok_Write) ps) (o8 : ok_Stmt p_s) : Cal Tryz.prog 11 #[.agg #[.string (bs (p_t.Name)), .slice A1 p_t.Cols.length c1, .slice A2 p_t.Idxs.length c2], .slice A4 ps.length c4, .agg #[.int .i64 (p_s.Kind), .int .i64 (p_s.Act.Kind), .slice A6 p_s.Act.Old.Vals.length c6, .slice A7 p_s.Act.New.Vals.length c7, .string (bs (p_s.Idx)), .string (bs (p_s.Low)), .string (bs (p_s.High))]] w fun v w' => ∃ A_1 c_1 lo_1 hi_1, v = .tuple #[.slice A_1 (((i_AskStore p_t ps p_s).1).length) c_1, .bool ((i_AskStore p_t ps p_s).2)] ∧ OwnD w' lo_1 hi_1 45 1 RO_Row A_1 (((i_AskStore p_t ps p_s).1).length) c_1 ((i_AskStore p_t ps p_s).1) ∧ (okL ok_Row) ((i_AskStore p_t ps p_s).1) ∧ (w.heap.size ≤ lo_1 ∧ lo_1 ≤ hi_1 ∧ hi_1 ≤ w'.heap.size) ∧ Ex w w' := by
 have hol9 : p_t.Name.length ≤ 1073741824 := o3.1
 have hol10 := o3.2.1.1
 have hol11 := o3.2.2.1
 have hol12 := o5.1
 have hol13 := o8.1.1.1
 have hol14 := o8.1.2.1
 have hol15 : p_s.Idx.length ≤ 1073741824 := o8.2.1
 have hol16 : p_s.Low.length ≤ 1073741824 := o8.2.2.1
 have hol17 : p_s.High.length ≤ 1073741824 := o8.2.2.2
 refine Cal.of func11 rfl ntmps11 rfl (cR (sd rfl (yl_box rfl rfl rfl ?_)))
 intro b18 w19 hs20 hz21 hB22 hE23
 refine sd rfl (yl_box rfl rfl rfl ?_)
 intro b24 w25 hs26 hz27 hB28 hE29
 refine sA rfl (sA rfl (dn (CW.seq (cR ?_))))
 have q30 := Box.ex hB22 hE29
 refine sd rfl (yl_loadN ty41 rfl rfl (q30.cells (n := 3) rfl) rfl (sd rfl (yl_loadN ty49 rfl rfl (hB28.cells (n := 7) rfl) rfl ?_)))
 have q32 := RdS.ex gS (RdS.ex gS h1 hE23) hE29
 have q34 := RdS.ex gI (RdS.ex gI h2 hE23) hE29
 have q36 := RdS.ex gS (RdS.ex gS h6 hE23) hE29
 have q38 := RdS.ex gS (RdS.ex gS h7 hE23) hE29
 refine sd rfl (yC en32 rfl (oc rfl (oc rfl oz)) (Cal.mono (c_i_GoodStmt p_t p_s (RdS.up q32 gS) (RdS.up q34 gI) (RdS.up q36 gS) (RdS.up q38 gS) o3 o8) ?_))
 rintro v40 w39 ⟨rfl, hE41⟩
 have hE41z := Ex.size hE41
 refine sd rfl (yl_not rfl rfl (sM rfl (bcase (i_GoodStmt p_t p_s) (fun hb42 => ?_) (fun hb42 => ?_))))
 ·refine sy rfl rfl (not_t hb42) (yM rfl rfl ?_)
  have q45 := RdS.ex gW (RdS.ex gW (RdS.ex gW h4 hE23) hE29) hE41
  refine sy rfl rfl (not_t hb42) (yC en33 rfl (oc rfl oz) (Cal.mono (c_i_isRows ps (RdS.up q45 gW) o5) ?_))
  rintro v47 w46 ⟨rfl, hE48⟩
  have hE48z := Ex.size hE48
  refine sy rfl rfl (not_t hb42) (yl_not rfl rfl (sd rfl (yl_pick_f rfl rfl (not_t hb42) rfl (dn (bcase (i_isRows ps) (fun hb49 => ?_) (fun hb49 => ?_))))))
  ·refine CW.cond_f rfl (not_t hb49) (CW.skip (tn (cR (sd rfl (yl_loadN ty41 rfl rfl ((Box.ex (Box.ex q30 hE41) hE48).cells (n := 3) rfl) rfl (sM rfl (sd rfl (yl_loadN ty49 rfl rfl ((Box.ex (Box.ex hB28 hE41) hE48).cells (n := 7) rfl) rfl (sd rfl (yC en34 rfl (oc rfl (oc rfl (oc rfl oz))) (Cal.mono (c_i_Table_askStore p_t ps p_s (RdS.up (RdS.ex gS (RdS.ex gS q32 hE41) hE48) gS) (RdS.up (RdS.ex gI (RdS.ex gI q34 hE41) hE48) gI) (RdS.up (RdS.ex gW q45 hE48) gW) (RdS.up (RdS.ex gS (RdS.ex gS q36 hE41) hE48) gS) (RdS.up (RdS.ex gS (RdS.ex gS q38 hE41) hE48) gS) o3 o5 o8 Bo Bo) ?_)))))))))))
   rintro v66 w63 ⟨A64, c64, lo64, hi64, rfl, h64, ho65, hrn68, hE67⟩
   have hE67z := Ex.size hE67
   refine sd rfl (yl_extract rfl rfl rfl (sd rfl (yl_extract rfl rfl rfl (sA rfl (sA rfl (dn (CW.ret (rr rfl (.cons rfl (.cons rfl .nil)) ?_))))))))
   have hM69 : (i_AskStore p_t ps p_s) = (((i_Table_askStore p_t ps p_s).1, (i_Table_askStore p_t ps p_s).2)) := by simp only [i_AskStore, hb42, hb49, cL]
   rw [hM69]
   exact ⟨A64, c64, lo64, hi64, rfl, h64, ho65, oM, (Ex.trans (Ex.trans (Ex.trans (Ex.trans (Ex.trans (Ex.refl w) hE23) hE29) hE41) hE48) hE67)⟩
  ·refine CW.cond_t rfl (not_f hb49) (cR (sA rfl (sA rfl (dn (CW.ret (tr ?_))))))
   refine rr rfl (.cons rfl (.cons rfl .nil)) ?_
   have hM75 : (i_AskStore p_t ps p_s) = ((([] : List DRow), false)) := by simp only [i_AskStore, hb42, hb49, cL]
   rw [hM75]
   exact ⟨none, 0, w46.heap.size, w46.heap.size, rfl, (OwnD.nil _ _ _ _ _ _), (okL.nil _), oM, (Ex.trans (Ex.trans (Ex.trans (Ex.trans (Ex.refl w) hE23) hE29) hE41) hE48)⟩
 ·refine sz rfl rfl (not_f hb42) (sz rfl rfl (not_f hb42) (sz rfl rfl (not_f hb42) (sd rfl (yl_pick_t rfl rfl (not_f hb42) rfl (dn (CW.cond_t rfl rfl (cR ?_)))))))
  refine sA rfl (sA rfl (dn (CW.ret (tr (rr rfl (.cons rfl (.cons rfl .nil)) ?_)))))
  have hM80 : (i_AskStore p_t ps p_s) = ((([] : List DRow), false)) := by simp only [i_AskStore, hb42, cL]
  rw [hM80]
  exact ⟨none, 0, w39.heap.size, w39.heap.size, rfl, (OwnD.nil _ _ _ _ _ _), (okL.nil _), oM, (Ex.trans (Ex.trans (Ex.trans (Ex.refl w) hE23) hE29) hE41)⟩
theorem c_l_eqStringS {A1 : Option Addr} {c1 : Nat} {A2 : Option Addr} {c2 : Nat} {w : World} (p_a : List Str) (p_b : List Str) (h1 : RdS w (Iv 0 w.heap.size) (RF e_Str) 1 A1 p_a.length c1 p_a) (h2 : RdS w (Iv 0 w.heap.size) (RF e_Str) 1 A2 p_b.length c2 p_b) : Cal Tryz.prog 36 #[.slice A1 p_a.length c1, .slice A2 p_b.length c2] w fun v w' => v = .bool ((l_eqStringS p_a p_b)) ∧ Ex w w' := by
 refine Cal.of func36 rfl ntmps36 rfl (cR (sA rfl (dn (CW.seq (cR ?_)))))
 refine sM rfl (sd rfl (yL un22 rfl rfl (sM rfl (sd rfl (yL un22 rfl rfl (sd rfl (yl_neq rfl rfl rfl (dn (bcase (decide ((p_a.length : Int) = (p_b.length : Int))) (fun hb3 => ?_) (fun hb3 => ?_))))))))))
 ·have hb3p := dec_t hb3
  refine CW.cond_f rfl (not_t hb3) (CW.skip (tn (CW.seq (cR (sA rfl (dn ?_))))))
  refine CW.block (CW.loop (fun m5 L6 w7 => ∃ (k4 : Nat), m5 = p_a.length - k4 ∧ k4 ≤ p_a.length ∧ w.heap.size ≤ w7.heap.size ∧ lkp L6 0 = some (.slice A1 p_a.length c1) ∧ lkp L6 1 = some (.slice A2 p_b.length c2) ∧ lkp L6 5 = some (.int .i64 ((k4 : Int))) ∧ RdS w7 (Iv 0 w.heap.size) (RF e_Str) 1 A1 p_a.length c1 p_a ∧ RdS w7 (Iv 0 w.heap.size) (RF e_Str) 1 A2 p_b.length c2 p_b ∧ Ex w w7 ∧ loopM (B_l_eqStringS_0 p_a p_b) (p_a.length - k4) k4 () = loopM (B_l_eqStringS_0 p_a p_b) (p_a.length - 0) 0 ()) (p_a.length - 0) ?_ ?_)
  ·exact ⟨0, rfl, oM, Nat.le_refl _, rfl, rfl, rfl, h1, h2, (Ex.refl w), rfl⟩
  ·rintro m8 L9 w10 ⟨k4, rfl, hk11, hsz13, hl14, hl15, hl16, hf17, hf18, hf19, hI12⟩
   refine CW.sub (Sub.cons hl14 (Sub.cons hl15 (Sub.cons hl16 (Sub.nil _)))) ?_
   have hf19z := Ex.size hf19
   have hbg20 := RdS.big hf17
   rcases Nat.lt_or_ge k4 p_a.length with hlt21 | hlt21
   ·refine CW.seq (cR (sM rfl (sM rfl (sd rfl (yL un22 rfl rfl (sd rfl (yl_lss rfl rfl rfl (dn ?_))))))))
    refine CW.cond_t rfl (lt_t hlt21) (CW.skip (tn (CW.seq (CW.block (CW.seq ?_)))))
    obtain ⟨eb22, eo22, _, eA22, _, ebl22, _, eR22, eC22⟩ := RdS.aD hf17 d_Str (i := k4)
    obtain rfl := eR22
    have eC22 : Cells w10 eb22 (eo22 + k4 * 1) [.string (bs ((p_a.getD k4 d_Str)))] := eC22
    obtain ⟨eb23, eo23, _, eA23, _, ebl23, _, eR23, eC23⟩ := RdS.aD hf18 d_Str (i := k4)
    obtain rfl := eR23
    have eC23 : Cells w10 eb23 (eo23 + k4 * 1) [.string (bs ((p_b.getD k4 d_Str)))] := eC23
    refine drI 9 [.slice A1 p_a.length c1, .int .i64 ((k4 : Int)), .pointer (some ⟨eb22, eo22 + k4 * 1, none⟩), .string (bs ((p_a.getD k4 d_Str))), .slice A2 p_b.length c2, .int .i64 ((k4 : Int)), .pointer (some ⟨eb23, eo23 + k4 * 1, none⟩), .string (bs ((p_b.getD k4 d_Str))), .bool (!((p_a.getD k4 d_Str) == (p_b.getD k4 d_Str)))] Tryz.follows rfl ⟨?_, ?_, ?_, ?_, ?_, ?_, ?_, ?_, ?_, trivial⟩ ?_
    ·exact oI rfl fun h => yM rfl (h.old 0 _ rfl rfl) kI
    ·exact oI rfl fun h => yM rfl (h.old 5 _ rfl rfl) kI
    ·intro L34 w35 hi36
     have hE37 := hi36.ex
     have hE37z := Ex.size hE37
     exact os rfl ((yl_ixN un22 ty9 rfl (hi36.dt 0 17 rfl rfl rfl) (hi36.dt 1 18 rfl rfl rfl) eA22 kI))
    ·exact oI rfl fun h => yl_load1 ty9 rfl (h.dt 2 19 rfl rfl rfl) ((Cells.ex eC22 h.ex) 0 _ rfl) kI
    ·exact oI rfl fun h => yM rfl (h.old 1 _ rfl rfl) kI
    ·exact oI rfl fun h => yM rfl (h.old 5 _ rfl rfl) kI
    ·intro L56 w57 hi58
     have hE59 := hi58.ex
     have hE59z := Ex.size hE59
     exact os rfl ((yl_ixN un22 ty9 rfl (hi58.dt 4 21 rfl rfl rfl) (hi58.dt 5 22 rfl rfl rfl) eA23 kI))
    ·exact oI rfl fun h => yl_load1 ty9 rfl (h.dt 6 23 rfl rfl rfl) ((Cells.ex eC23 h.ex) 0 _ rfl) kI
    ·exact oI rfl fun h => yl_sneq (a := (p_a.getD k4 d_Str)) (b := (p_b.getD k4 d_Str)) rfl (h.dt 3 20 rfl rfl rfl) (h.dt 7 24 rfl rfl rfl) kI
    ·intro fl77 fh78 L74 w75 hp76
     have hE79 := hp76.ex
     have hE79z := Ex.size hE79
     refine dn (CW.sub (sC 0 (hp76.old 0 _ rfl rfl) (sC 1 (hp76.old 1 _ rfl rfl) (sC 5 (hp76.old 5 _ rfl rfl) (sC 25 (hp76.nt 8 25 rfl rfl rfl) (Sub.nil _))))) (bcase ((p_a.getD k4 d_Str) == (p_b.getD k4 d_Str)) (fun hb84 => ?_) (fun hb84 => ?_)))
     ·refine CW.cond_f rfl (not_t hb84) (CW.skip (bn (tn (CW.region (sM rfl (sd rfl (yl_inc rfl rfl rfl oM (sA rfl (SeqR.done ?_)))))))))
      refine tn ?_
      have hB85 : B_l_eqStringS_0 p_a p_b k4 () = .cont () := by simp only [B_l_eqStringS_0, hb3, hb84, cL]
      exact ⟨p_a.length - (k4 + 1), oM, k4 + 1, rfl, hlt21, oM, rfl, rfl, rfl, (RdS.ex gS hf17 hE79), (RdS.ex gS hf18 hE79), (Ex.trans hf19 hE79), (loopM.cont hlt21 hB85).symm.trans hI12⟩
     ·refine CW.cond_t rfl (not_f hb84) (cR (sA rfl (dn (CW.ret (br (tr ?_))))))
      refine tr ?_
      have hB90 : B_l_eqStringS_0 p_a p_b k4 () = .ret false := by simp only [B_l_eqStringS_0, hb3, hb84, cL]
      have hL89 : loopM (B_l_eqStringS_0 p_a p_b) (p_a.length - 0) 0 () = .ret false := hI12.symm.trans (loopM.ret hlt21 hB90)
      refine br (tr (rr rfl (.cons rfl .nil) ?_))
      have hM91 : (l_eqStringS p_a p_b) = (false) := by simp only [l_eqStringS, hb3, hb84, hL89, cL]
      rw [hM91]
      exact ⟨rfl, (Ex.trans hf19 hE79)⟩
   ·refine CW.seq (cR (sM rfl (sM rfl (sd rfl (yL un22 rfl rfl (sd rfl (yl_lss rfl rfl rfl (dn ?_))))))))
    refine CW.cond_f rfl (lt_f hlt21) (CW.exit (tx (tx ?_)))
    have hL93 : loopM (B_l_eqStringS_0 p_a p_b) (p_a.length - 0) 0 () = .done () := hI12.symm.trans (loopM.stop hlt21)
    refine bx (tn (cR (sA rfl (dn (CW.ret (rr rfl (.cons rfl .nil) ?_))))))
    have hM94 : (l_eqStringS p_a p_b) = (true) := by simp only [l_eqStringS, hb3, hL93, cL]
    rw [hM94]
    exact ⟨rfl, hf19⟩
 ·have hb3p := dec_f hb3
  refine CW.cond_t rfl (not_f hb3) (cR (sA rfl (dn (CW.ret (tr (rr rfl (.cons rfl .nil) ?_))))))
  have hM95 : (l_eqStringS p_a p_b) = (false) := by simp only [l_eqStringS, hb3, cL]
  rw [hM95]
  exact ⟨rfl, (Ex.refl w)⟩
theorem c_l_eqRow {A1 : Option Addr} {c1 : Nat} {A2 : Option Addr} {c2 : Nat} {w : World} (p_a : DRow) (p_b : DRow) (h1 : RdS w (Iv 0 w.heap.size) (RF e_Str) 1 A1 p_a.Vals.length c1 p_a.Vals) (h2 : RdS w (Iv 0 w.heap.size) (RF e_Str) 1 A2 p_b.Vals.length c2 p_b.Vals) : Cal Tryz.prog 35 #[.agg #[.slice A1 p_a.Vals.length c1], .agg #[.slice A2 p_b.Vals.length c2]] w fun v w' => v = .bool ((l_eqRow p_a p_b)) ∧ Ex w w' := by
 refine Cal.of func35 rfl ntmps35 rfl (cR (sd rfl (yl_box rfl rfl rfl ?_)))
 intro b3 w4 hs5 hz6 hB7 hE8
 refine sd rfl (yl_box rfl rfl rfl ?_)
 intro b9 w10 hs11 hz12 hB13 hE14
 refine sA rfl (dn (CW.seq (cR (sd rfl (yl_fieldAddr fd45_0 rfl rfl (sd rfl (yl_load1 ty22 rfl rfl (((Box.ex hB7 hE14).cell 0).trans rfl) (sd rfl (yl_fieldAddr fd45_0 rfl rfl ?_)))))))))
 refine sd rfl (yl_load1 ty22 rfl rfl ((hB13.cell 0).trans rfl) (sd rfl (yC en36 rfl (oc rfl (oc rfl oz)) (Cal.mono (c_l_eqStringS p_a.Vals p_b.Vals (RdS.up (RdS.ex gS (RdS.ex gS h1 hE8) hE14) gS) (RdS.up (RdS.ex gS (RdS.ex gS h2 hE8) hE14) gS)) ?_))))
 rintro v21 w20 ⟨rfl, hE22⟩
 refine sd rfl (yl_not rfl rfl (dn (bcase (l_eqStringS p_a.Vals p_b.Vals) (fun hb23 => ?_) (fun hb23 => ?_))))
 ·refine CW.cond_f rfl (not_t hb23) (CW.skip (tn (cR (sA rfl (dn (CW.ret ?_))))))
  refine rr rfl (.cons rfl .nil) ?_
  have hM24 : (l_eqRow p_a p_b) = (true) := by simp only [l_eqRow, hb23, cL]
  rw [hM24]
  exact ⟨rfl, (Ex.trans (Ex.trans (Ex.trans (Ex.refl w) hE8) hE14) hE22)⟩
 ·refine CW.cond_t rfl (not_f hb23) (cR (sA rfl (dn (CW.ret (tr (rr rfl (.cons rfl .nil) ?_))))))
  have hM28 : (l_eqRow p_a p_b) = (false) := by simp only [l_eqRow, hb23, cL]
  rw [hM28]
  exact ⟨rfl, (Ex.trans (Ex.trans (Ex.trans (Ex.refl w) hE8) hE14) hE22)⟩
theorem c_l_eqRowS {A1 : Option Addr} {c1 : Nat} {A2 : Option Addr} {c2 : Nat} {w : World} (p_a : List DRow) (p_b : List DRow) (h1 : RdS w (Iv 0 w.heap.size) R_Row 1 A1 p_a.length c1 p_a) (h2 : RdS w (Iv 0 w.heap.size) R_Row 1 A2 p_b.length c2 p_b) : Cal Tryz.prog 12 #[.slice A1 p_a.length c1, .slice A2 p_b.length c2] w fun v w' => v = .bool ((l_eqRowS p_a p_b)) ∧ Ex w w' := by
 refine Cal.of func12 rfl ntmps12 rfl (cR (sA rfl (dn (CW.seq (cR ?_)))))
 refine sM rfl (sd rfl (yL un36 rfl rfl (sM rfl (sd rfl (yL un36 rfl rfl (sd rfl (yl_neq rfl rfl rfl (dn (bcase (decide ((p_a.length : Int) = (p_b.length : Int))) (fun hb3 => ?_) (fun hb3 => ?_))))))))))
 ·have hb3p := dec_t hb3
  refine CW.cond_f rfl (not_t hb3) (CW.skip (tn (CW.seq (cR (sA rfl (dn ?_))))))
  refine CW.block (CW.loop (fun m5 L6 w7 => ∃ (k4 : Nat), m5 = p_a.length - k4 ∧ k4 ≤ p_a.length ∧ w.heap.size ≤ w7.heap.size ∧ lkp L6 0 = some (.slice A1 p_a.length c1) ∧ lkp L6 1 = some (.slice A2 p_b.length c2) ∧ lkp L6 5 = some (.int .i64 ((k4 : Int))) ∧ RdS w7 (Iv 0 w.heap.size) R_Row 1 A1 p_a.length c1 p_a ∧ RdS w7 (Iv 0 w.heap.size) R_Row 1 A2 p_b.length c2 p_b ∧ Ex w w7 ∧ loopM (B_l_eqRowS_0 p_a p_b) (p_a.length - k4) k4 () = loopM (B_l_eqRowS_0 p_a p_b) (p_a.length - 0) 0 ()) (p_a.length - 0) ?_ ?_)
  ·exact ⟨0, rfl, oM, Nat.le_refl _, rfl, rfl, rfl, h1, h2, (Ex.refl w), rfl⟩
  ·rintro m8 L9 w10 ⟨k4, rfl, hk11, hsz13, hl14, hl15, hl16, hf17, hf18, hf19, hI12⟩
   refine CW.sub (Sub.cons hl14 (Sub.cons hl15 (Sub.cons hl16 (Sub.nil _)))) ?_
   have hf19z := Ex.size hf19
   have hbg20 := RdS.big hf17
   rcases Nat.lt_or_ge k4 p_a.length with hlt21 | hlt21
   ·refine CW.seq (cR (sM rfl (sM rfl (sd rfl (yL un36 rfl rfl (sd rfl (yl_lss rfl rfl rfl (dn ?_))))))))
    refine CW.cond_t rfl (lt_t hlt21) (CW.skip (tn (CW.seq (CW.block (CW.seq ?_)))))
    obtain ⟨eb22, eo22, _, eA22, _, ebl22, _, eR22, eC22⟩ := RdS.aD hf17 d_Row (i := k4)
    obtain ⟨A23, c23, rfl, h23⟩ := eR22
    obtain ⟨eb24, eo24, _, eA24, _, ebl24, _, eR24, eC24⟩ := RdS.aD hf18 d_Row (i := k4)
    obtain ⟨A25, c25, rfl, h25⟩ := eR24
    refine drI 10 [.slice A1 p_a.length c1, .int .i64 ((k4 : Int)), .pointer (some ⟨eb22, eo22 + k4 * 1, none⟩), .agg #[.slice A23 (((p_a.getD k4 d_Row).Vals).length) c23], .slice A2 p_b.length c2, .int .i64 ((k4 : Int)), .pointer (some ⟨eb24, eo24 + k4 * 1, none⟩), .agg #[.slice A25 (((p_b.getD k4 d_Row).Vals).length) c25], .bool ((l_eqRow (p_a.getD k4 d_Row) (p_b.getD k4 d_Row))), .bool (!(l_eqRow (p_a.getD k4 d_Row) (p_b.getD k4 d_Row)))] Tryz.follows rfl ⟨?_, ?_, ?_, ?_, ?_, ?_, ?_, ?_, ?_, ?_, trivial⟩ ?_
    ·exact oI rfl fun h => yM rfl (h.old 0 _ rfl rfl) kI
    ·exact oI rfl fun h => yM rfl (h.old 5 _ rfl rfl) kI
    ·intro L37 w38 hi39
     have hE40 := hi39.ex
     have hE40z := Ex.size hE40
     exact os rfl ((yl_ixN un36 ty45 rfl (hi39.dt 0 17 rfl rfl rfl) (hi39.dt 1 18 rfl rfl rfl) eA22 kI))
    ·exact oI rfl fun h => yl_loadN ty45 rfl (h.dt 2 19 rfl rfl rfl) (Cells.ex eC22 h.ex) rfl kI
    ·exact oI rfl fun h => yM rfl (h.old 1 _ rfl rfl) kI
    ·exact oI rfl fun h => yM rfl (h.old 5 _ rfl rfl) kI
    ·intro L59 w60 hi61
     have hE62 := hi61.ex
     have hE62z := Ex.size hE62
     exact os rfl ((yl_ixN un36 ty45 rfl (hi61.dt 4 21 rfl rfl rfl) (hi61.dt 5 22 rfl rfl rfl) eA24 kI))
    ·exact oI rfl fun h => yl_loadN ty45 rfl (h.dt 6 23 rfl rfl rfl) (Cells.ex eC24 h.ex) rfl kI
    ·intro L71 w72 hi73
     have hE74 := hi73.ex
     exact OpR.op' rfl (yC en35 rfl (oc (hi73.dt 3 20 rfl rfl rfl) (oc (hi73.dt 7 24 rfl rfl rfl) oz)) (Cal.mono (c_l_eqRow (p_a.getD k4 d_Row) (p_b.getD k4 d_Row) (RdS.up (RdS.ex gS h23 hE74) gS) (RdS.up (RdS.ex gS h25 hE74) gS)) fun _ _ h => h))
    ·exact oI rfl fun h => yl_not rfl (h.dt 8 25 rfl rfl rfl) kI
    ·intro fl90 fh91 L87 w88 hp89
     have hE92 := hp89.ex
     have hE92z := Ex.size hE92
     refine dn (CW.sub (sC 0 (hp89.old 0 _ rfl rfl) (sC 1 (hp89.old 1 _ rfl rfl) (sC 5 (hp89.old 5 _ rfl rfl) (sC 26 (hp89.nt 9 26 rfl rfl rfl) (Sub.nil _))))) (bcase (l_eqRow (p_a.getD k4 d_Row) (p_b.getD k4 d_Row)) (fun hb97 => ?_) (fun hb97 => ?_)))
     ·refine CW.cond_f rfl (not_t hb97) (CW.skip (bn (tn (CW.region (sM rfl (sd rfl (yl_inc rfl rfl rfl oM (sA rfl (SeqR.done ?_)))))))))
      refine tn ?_
      have hB98 : B_l_eqRowS_0 p_a p_b k4 () = .cont () := by simp only [B_l_eqRowS_0, hb3, hb97, cL]
      exact ⟨p_a.length - (k4 + 1), oM, k4 + 1, rfl, hlt21, oM, rfl, rfl, rfl, (RdS.ex good_Row hf17 hE92), (RdS.ex good_Row hf18 hE92), (Ex.trans hf19 hE92), (loopM.cont hlt21 hB98).symm.trans hI12⟩
     ·refine CW.cond_t rfl (not_f hb97) (cR (sA rfl (dn (CW.ret (br (tr ?_))))))
      refine tr ?_
      have hB103 : B_l_eqRowS_0 p_a p_b k4 () = .ret false := by simp only [B_l_eqRowS_0, hb3, hb97, cL]
      have hL102 : loopM (B_l_eqRowS_0 p_a p_b) (p_a.length - 0) 0 () = .ret false := hI12.symm.trans (loopM.ret hlt21 hB103)
      refine br (tr (rr rfl (.cons rfl .nil) ?_))
      have hM104 : (l_eqRowS p_a p_b) = (false) := by simp only [l_eqRowS, hb3, hb97, hL102, cL]
      rw [hM104]
      exact ⟨rfl, (Ex.trans hf19 hE92)⟩
   ·refine CW.seq (cR (sM rfl (sM rfl (sd rfl (yL un36 rfl rfl (sd rfl (yl_lss rfl rfl rfl (dn ?_))))))))
    refine CW.cond_f rfl (lt_f hlt21) (CW.exit (tx (tx ?_)))
    have hL106 : loopM (B_l_eqRowS_0 p_a p_b) (p_a.length - 0) 0 () = .done () := hI12.symm.trans (loopM.stop hlt21)
    refine bx (tn (cR (sA rfl (dn (CW.ret (rr rfl (.cons rfl .nil) ?_))))))
    have hM107 : (l_eqRowS p_a p_b) = (true) := by simp only [l_eqRowS, hb3, hL106, cL]
    rw [hM107]
    exact ⟨rfl, hf19⟩
 ·have hb3p := dec_f hb3
  refine CW.cond_t rfl (not_f hb3) (cR (sA rfl (dn (CW.ret (tr (rr rfl (.cons rfl .nil) ?_))))))
  have hM108 : (l_eqRowS p_a p_b) = (false) := by simp only [l_eqRowS, hb3, cL]
  rw [hM108]
  exact ⟨rfl, (Ex.refl w)⟩
theorem c_l_eqIdx {w : World} (p_a : DIdx) (p_b : DIdx) : Cal Tryz.prog 68 #[.agg #[.string (bs (p_a.Name)), .int .i64 (p_a.Col), .int .i64 (p_a.Stage)], .agg #[.string (bs (p_b.Name)), .int .i64 (p_b.Col), .int .i64 (p_b.Stage)]] w fun v w' => v = .bool ((l_eqIdx p_a p_b)) ∧ Ex w w' := by
 refine Cal.of func68 rfl ntmps68 rfl (cR (sd rfl (yl_box rfl rfl rfl ?_)))
 intro b1 w2 hs3 hz4 hB5 hE6
 refine sd rfl (yl_box rfl rfl rfl ?_)
 intro b7 w8 hs9 hz10 hB11 hE12
 refine sA rfl (dn (CW.seq (cR (sd rfl (yl_fieldAddr fd88_0 rfl rfl ?_)))))
 have q13 := Box.ex hB5 hE12
 refine sd rfl (yl_load1 ty9 rfl rfl ((q13.cell 0).trans rfl) (sd rfl (yl_fieldAddr fd88_0 rfl rfl (sd rfl (yl_load1 ty9 rfl rfl ((hB11.cell 0).trans rfl) (sd rfl (yl_sneq (a := p_a.Name) (b := p_b.Name) rfl rfl rfl (dn (bcase (p_a.Name == p_b.Name) (fun hb14 => ?_) (fun hb14 => ?_))))))))))
 ·refine CW.cond_f rfl (not_t hb14) (CW.skip (tn (CW.seq (cR (sd rfl (yl_fieldAddr fd88_1 rfl rfl (sd rfl (yl_load1 ty3 rfl rfl ((q13.cell 1).trans rfl) (sd rfl (yl_fieldAddr fd88_1 rfl rfl ?_))))))))))
  refine sd rfl (yl_load1 ty3 rfl rfl ((hB11.cell 1).trans rfl) (sd rfl (yl_neq rfl rfl rfl (dn (bcase (decide (p_a.Col = p_b.Col)) (fun hb15 => ?_) (fun hb15 => ?_))))))
  ·have hb15p := dec_t hb15
   refine CW.cond_f rfl (not_t hb15) (CW.skip (tn (CW.seq (cR (sd rfl (yl_fieldAddr fd88_2 rfl rfl (sd rfl (yl_load1 ty3 rfl rfl ((q13.cell 2).trans rfl) (sd rfl (yl_fieldAddr fd88_2 rfl rfl ?_))))))))))
   refine sd rfl (yl_load1 ty3 rfl rfl ((hB11.cell 2).trans rfl) (sd rfl (yl_neq rfl rfl rfl (dn (bcase (decide (p_a.Stage = p_b.Stage)) (fun hb16 => ?_) (fun hb16 => ?_))))))
   ·have hb16p := dec_t hb16
    refine CW.cond_f rfl (not_t hb16) (CW.skip (tn (cR (sA rfl (dn (CW.ret ?_))))))
    refine rr rfl (.cons rfl .nil) ?_
    have hM17 : (l_eqIdx p_a p_b) = (true) := by simp only [l_eqIdx, hb14, hb15, hb16, cL]
    rw [hM17]
    exact ⟨rfl, (Ex.trans (Ex.trans (Ex.refl w) hE6) hE12)⟩
   ·have hb16p := dec_f hb16
    refine CW.cond_t rfl (not_f hb16) (cR (sA rfl (dn (CW.ret (tr (rr rfl (.cons rfl .nil) ?_))))))
    have hM20 : (l_eqIdx p_a p_b) = (false) := by simp only [l_eqIdx, hb14, hb15, hb16, cL]
    rw [hM20]
    exact ⟨rfl, (Ex.trans (Ex.trans (Ex.refl w) hE6) hE12)⟩
  ·have hb15p := dec_f hb15
   refine CW.cond_t rfl (not_f hb15) (cR (sA rfl (dn (CW.ret (tr (rr rfl (.cons rfl .nil) ?_))))))
   have hM23 : (l_eqIdx p_a p_b) = (false) := by simp only [l_eqIdx, hb14, hb15, cL]
   rw [hM23]
   exact ⟨rfl, (Ex.trans (Ex.trans (Ex.refl w) hE6) hE12)⟩
 ·refine CW.cond_t rfl (not_f hb14) (cR (sA rfl (dn (CW.ret (tr (rr rfl (.cons rfl .nil) ?_))))))
  have hM26 : (l_eqIdx p_a p_b) = (false) := by simp only [l_eqIdx, hb14, cL]
  rw [hM26]
  exact ⟨rfl, (Ex.trans (Ex.trans (Ex.refl w) hE6) hE12)⟩
theorem c_l_eqIdxS {A1 : Option Addr} {c1 : Nat} {A2 : Option Addr} {c2 : Nat} {w : World} (p_a : List DIdx) (p_b : List DIdx) (h1 : RdS w (Iv 0 w.heap.size) (RF e_Idx) 3 A1 p_a.length c1 p_a) (h2 : RdS w (Iv 0 w.heap.size) (RF e_Idx) 3 A2 p_b.length c2 p_b) : Cal Tryz.prog 37 #[.slice A1 p_a.length c1, .slice A2 p_b.length c2] w fun v w' => v = .bool ((l_eqIdxS p_a p_b)) ∧ Ex w w' := by
 refine Cal.of func37 rfl ntmps37 rfl (cR (sA rfl (dn (CW.seq (cR ?_)))))
 refine sM rfl (sd rfl (yL un39 rfl rfl (sM rfl (sd rfl (yL un39 rfl rfl (sd rfl (yl_neq rfl rfl rfl (dn (bcase (decide ((p_a.length : Int) = (p_b.length : Int))) (fun hb3 => ?_) (fun hb3 => ?_))))))))))
 ·have hb3p := dec_t hb3
  refine CW.cond_f rfl (not_t hb3) (CW.skip (tn (CW.seq (cR (sA rfl (dn ?_))))))
  refine CW.block (CW.loop (fun m5 L6 w7 => ∃ (k4 : Nat), m5 = p_a.length - k4 ∧ k4 ≤ p_a.length ∧ w.heap.size ≤ w7.heap.size ∧ lkp L6 0 = some (.slice A1 p_a.length c1) ∧ lkp L6 1 = some (.slice A2 p_b.length c2) ∧ lkp L6 5 = some (.int .i64 ((k4 : Int))) ∧ RdS w7 (Iv 0 w.heap.size) (RF e_Idx) 3 A1 p_a.length c1 p_a ∧ RdS w7 (Iv 0 w.heap.size) (RF e_Idx) 3 A2 p_b.length c2 p_b ∧ Ex w w7 ∧ loopM (B_l_eqIdxS_0 p_a p_b) (p_a.length - k4) k4 () = loopM (B_l_eqIdxS_0 p_a p_b) (p_a.length - 0) 0 ()) (p_a.length - 0) ?_ ?_)
  ·exact ⟨0, rfl, oM, Nat.le_refl _, rfl, rfl, rfl, h1, h2, (Ex.refl w), rfl⟩
  ·rintro m8 L9 w10 ⟨k4, rfl, hk11, hsz13, hl14, hl15, hl16, hf17, hf18, hf19, hI12⟩
   refine CW.sub (Sub.cons hl14 (Sub.cons hl15 (Sub.cons hl16 (Sub.nil _)))) ?_
   have hf19z := Ex.size hf19
   have hbg20 := RdS.big hf17
   rcases Nat.lt_or_ge k4 p_a.length with hlt21 | hlt21
   ·refine CW.seq (cR (sM rfl (sM rfl (sd rfl (yL un39 rfl rfl (sd rfl (yl_lss rfl rfl rfl (dn ?_))))))))
    refine CW.cond_t rfl (lt_t hlt21) (CW.skip (tn (CW.seq (CW.block (CW.seq ?_)))))
    obtain ⟨eb22, eo22, _, eA22, _, ebl22, _, eR22, eC22⟩ := RdS.aD hf17 d_Idx (i := k4)
    obtain rfl := eR22
    have eC22 : Cells w10 eb22 (eo22 + k4 * 3) [.string (bs ((p_a.getD k4 d_Idx).Name)), .int .i64 ((p_a.getD k4 d_Idx).Col), .int .i64 ((p_a.getD k4 d_Idx).Stage)] := eC22
    obtain ⟨eb23, eo23, _, eA23, _, ebl23, _, eR23, eC23⟩ := RdS.aD hf18 d_Idx (i := k4)
    obtain rfl := eR23
    have eC23 : Cells w10 eb23 (eo23 + k4 * 3) [.string (bs ((p_b.getD k4 d_Idx).Name)), .int .i64 ((p_b.getD k4 d_Idx).Col), .int .i64 ((p_b.getD k4 d_Idx).Stage)] := eC23
    refine drI 10 [.slice A1 p_a.length c1, .int .i64 ((k4 : Int)), .pointer (some ⟨eb22, eo22 + k4 * 3, none⟩), .agg #[.string (bs ((p_a.getD k4 d_Idx).Name)), .int .i64 ((p_a.getD k4 d_Idx).Col), .int .i64 ((p_a.getD k4 d_Idx).Stage)], .slice A2 p_b.length c2, .int .i64 ((k4 : Int)), .pointer (some ⟨eb23, eo23 + k4 * 3, none⟩), .agg #[.string (bs ((p_b.getD k4 d_Idx).Name)), .int .i64 ((p_b.getD k4 d_Idx).Col), .int .i64 ((p_b.getD k4 d_Idx).Stage)], .bool ((l_eqIdx (p_a.getD k4 d_Idx) (p_b.getD k4 d_Idx))), .bool (!(l_eqIdx (p_a.getD k4 d_Idx) (p_b.getD k4 d_Idx)))] Tryz.follows rfl ⟨?_, ?_, ?_, ?_, ?_, ?_, ?_, ?_, ?_, ?_, trivial⟩ ?_
    ·exact oI rfl fun h => yM rfl (h.old 0 _ rfl rfl) kI
    ·exact oI rfl fun h => yM rfl (h.old 5 _ rfl rfl) kI
    ·intro L35 w36 hi37
     have hE38 := hi37.ex
     have hE38z := Ex.size hE38
     exact os rfl ((yl_ixN un39 ty88 rfl (hi37.dt 0 17 rfl rfl rfl) (hi37.dt 1 18 rfl rfl rfl) eA22 kI))
    ·exact oI rfl fun h => yl_loadN ty88 rfl (h.dt 2 19 rfl rfl rfl) (Cells.ex eC22 h.ex) rfl kI
    ·exact oI rfl fun h => yM rfl (h.old 1 _ rfl rfl) kI
    ·exact oI rfl fun h => yM rfl (h.old 5 _ rfl rfl) kI
    ·intro L57 w58 hi59
     have hE60 := hi59.ex
     have hE60z := Ex.size hE60
     exact os rfl ((yl_ixN un39 ty88 rfl (hi59.dt 4 21 rfl rfl rfl) (hi59.dt 5 22 rfl rfl rfl) eA23 kI))
    ·exact oI rfl fun h => yl_loadN ty88 rfl (h.dt 6 23 rfl rfl rfl) (Cells.ex eC23 h.ex) rfl kI
    ·intro L69 w70 hi71
     exact OpR.op' rfl (yC en68 rfl (oc (hi71.dt 3 20 rfl rfl rfl) (oc (hi71.dt 7 24 rfl rfl rfl) oz)) (Cal.mono (c_l_eqIdx (p_a.getD k4 d_Idx) (p_b.getD k4 d_Idx)) fun _ _ h => h))
    ·exact oI rfl fun h => yl_not rfl (h.dt 8 25 rfl rfl rfl) kI
    ·intro fl86 fh87 L83 w84 hp85
     have hE88 := hp85.ex
     have hE88z := Ex.size hE88
     refine dn (CW.sub (sC 0 (hp85.old 0 _ rfl rfl) (sC 1 (hp85.old 1 _ rfl rfl) (sC 5 (hp85.old 5 _ rfl rfl) (sC 26 (hp85.nt 9 26 rfl rfl rfl) (Sub.nil _))))) (bcase (l_eqIdx (p_a.getD k4 d_Idx) (p_b.getD k4 d_Idx)) (fun hb93 => ?_) (fun hb93 => ?_)))
     ·refine CW.cond_f rfl (not_t hb93) (CW.skip (bn (tn (CW.region (sM rfl (sd rfl (yl_inc rfl rfl rfl oM (sA rfl (SeqR.done ?_)))))))))
      refine tn ?_
      have hB94 : B_l_eqIdxS_0 p_a p_b k4 () = .cont () := by simp only [B_l_eqIdxS_0, hb3, hb93, cL]
      exact ⟨p_a.length - (k4 + 1), oM, k4 + 1, rfl, hlt21, oM, rfl, rfl, rfl, (RdS.ex gI hf17 hE88), (RdS.ex gI hf18 hE88), (Ex.trans hf19 hE88), (loopM.cont hlt21 hB94).symm.trans hI12⟩
     ·refine CW.cond_t rfl (not_f hb93) (cR (sA rfl (dn (CW.ret (br (tr ?_))))))
      refine tr ?_
      have hB99 : B_l_eqIdxS_0 p_a p_b k4 () = .ret false := by simp only [B_l_eqIdxS_0, hb3, hb93, cL]
      have hL98 : loopM (B_l_eqIdxS_0 p_a p_b) (p_a.length - 0) 0 () = .ret false := hI12.symm.trans (loopM.ret hlt21 hB99)
      refine br (tr (rr rfl (.cons rfl .nil) ?_))
      have hM100 : (l_eqIdxS p_a p_b) = (false) := by simp only [l_eqIdxS, hb3, hb93, hL98, cL]
      rw [hM100]
      exact ⟨rfl, (Ex.trans hf19 hE88)⟩
   ·refine CW.seq (cR (sM rfl (sM rfl (sd rfl (yL un39 rfl rfl (sd rfl (yl_lss rfl rfl rfl (dn ?_))))))))
    refine CW.cond_f rfl (lt_f hlt21) (CW.exit (tx (tx ?_)))
    have hL102 : loopM (B_l_eqIdxS_0 p_a p_b) (p_a.length - 0) 0 () = .done () := hI12.symm.trans (loopM.stop hlt21)
    refine bx (tn (cR (sA rfl (dn (CW.ret (rr rfl (.cons rfl .nil) ?_))))))
    have hM103 : (l_eqIdxS p_a p_b) = (true) := by simp only [l_eqIdxS, hb3, hL102, cL]
    rw [hM103]
    exact ⟨rfl, hf19⟩
 ·have hb3p := dec_f hb3
  refine CW.cond_t rfl (not_f hb3) (cR (sA rfl (dn (CW.ret (tr (rr rfl (.cons rfl .nil) ?_))))))
  have hM104 : (l_eqIdxS p_a p_b) = (false) := by simp only [l_eqIdxS, hb3, cL]
  rw [hM104]
  exact ⟨rfl, (Ex.refl w)⟩
theorem c_l_eqTable {A1 : Option Addr} {c1 : Nat} {A2 : Option Addr} {c2 : Nat} {A3 : Option Addr} {c3 : Nat} {A4 : Option Addr} {c4 : Nat} {w : World} (p_a : DTable) (p_b : DTable) (h1 : RdS w (Iv 0 w.heap.size) (RF e_Str) 1 A1 p_a.Cols.length c1 p_a.Cols) (h2 : RdS w (Iv 0 w.heap.size) (RF e_Idx) 3 A2 p_a.Idxs.length c2 p_a.Idxs) (h3 : RdS w (Iv 0 w.heap.size) (RF e_Str) 1 A3 p_b.Cols.length c3 p_b.Cols) (h4 : RdS w (Iv 0 w.heap.size) (RF e_Idx) 3 A4 p_b.Idxs.length c4 p_b.Idxs) : Cal Tryz.prog 13 #[.agg #[.string (bs (p_a.Name)), .slice A1 p_a.Cols.length c1, .slice A2 p_a.Idxs.length c2], .agg #[.string (bs (p_b.Name)), .slice A3 p_b.Cols.length c3, .slice A4 p_b.Idxs.length c4]] w fun v w' => v = .bool ((l_eqTable p_a p_b)) ∧ Ex w w' := by
 refine Cal.of func13 rfl ntmps13 rfl (cR (sd rfl (yl_box rfl rfl rfl ?_)))
 intro b5 w6 hs7 hz8 hB9 hE10
 refine sd rfl (yl_box rfl rfl rfl ?_)
 intro b11 w12 hs13 hz14 hB15 hE16
 refine sA rfl (dn (CW.seq (cR (sd rfl (yl_fieldAddr fd41_0 rfl rfl ?_)))))
 have q17 := Box.ex hB9 hE16
 refine sd rfl (yl_load1 ty9 rfl rfl ((q17.cell 0).trans rfl) (sd rfl (yl_fieldAddr fd41_0 rfl rfl (sd rfl (yl_load1 ty9 rfl rfl ((hB15.cell 0).trans rfl) (sd rfl (yl_sneq (a := p_a.Name) (b := p_b.Name) rfl rfl rfl (dn (bcase (p_a.Name == p_b.Name) (fun hb18 => ?_) (fun hb18 => ?_))))))))))
 ·refine CW.cond_f rfl (not_t hb18) (CW.skip (tn (CW.seq (cR (sd rfl (yl_fieldAddr fd41_1 rfl rfl (sd rfl (yl_load1 ty22 rfl rfl ((q17.cell 1).trans rfl) (sd rfl (yl_fieldAddr fd41_1 rfl rfl ?_))))))))))
  refine sd rfl (yl_load1 ty22 rfl rfl ((hB15.cell 1).trans rfl) (sd rfl (yC en36 rfl (oc rfl (oc rfl oz)) (Cal.mono (c_l_eqStringS p_a.Cols p_b.Cols (RdS.up (RdS.ex gS (RdS.ex gS h1 hE10) hE16) gS) (RdS.up (RdS.ex gS (RdS.ex gS h3 hE10) hE16) gS)) ?_))))
  rintro v24 w23 ⟨rfl, hE25⟩
  refine sd rfl (yl_not rfl rfl (dn (bcase (l_eqStringS p_a.Cols p_b.Cols) (fun hb26 => ?_) (fun hb26 => ?_))))
  ·refine CW.cond_f rfl (not_t hb26) (CW.skip (tn (CW.seq (cR (sd rfl (yl_fieldAddr fd41_2 rfl rfl (sd rfl (yl_load1 ty39 rfl rfl (((Box.ex q17 hE25).cell 2).trans rfl) (sd rfl (yl_fieldAddr fd41_2 rfl rfl ?_))))))))))
   refine sd rfl (yl_load1 ty39 rfl rfl (((Box.ex hB15 hE25).cell 2).trans rfl) (sd rfl (yC en37 rfl (oc rfl (oc rfl oz)) (Cal.mono (c_l_eqIdxS p_a.Idxs p_b.Idxs (RdS.up (RdS.ex gI (RdS.ex gI (RdS.ex gI h2 hE10) hE16) hE25) gI) (RdS.up (RdS.ex gI (RdS.ex gI (RdS.ex gI h4 hE10) hE16) hE25) gI)) ?_))))
   rintro v36 w35 ⟨rfl, hE37⟩
   refine sd rfl (yl_not rfl rfl (dn (bcase (l_eqIdxS p_a.Idxs p_b.Idxs) (fun hb38 => ?_) (fun hb38 => ?_))))
   ·refine CW.cond_f rfl (not_t hb38) (CW.skip (tn (cR (sA rfl (dn (CW.ret ?_))))))
    refine rr rfl (.cons rfl .nil) ?_
    have hM39 : (l_eqTable p_a p_b) = (true) := by simp only [l_eqTable, hb18, hb26, hb38, cL]
    rw [hM39]
    exact ⟨rfl, (Ex.trans (Ex.trans (Ex.trans (Ex.trans (Ex.refl w) hE10) hE16) hE25) hE37)⟩
   ·refine CW.cond_t rfl (not_f hb38) (cR (sA rfl (dn (CW.ret (tr (rr rfl (.cons rfl .nil) ?_))))))
    have hM44 : (l_eqTable p_a p_b) = (false) := by simp only [l_eqTable, hb18, hb26, hb38, cL]
    rw [hM44]
    exact ⟨rfl, (Ex.trans (Ex.trans (Ex.trans (Ex.trans (Ex.refl w) hE10) hE16) hE25) hE37)⟩
  ·refine CW.cond_t rfl (not_f hb26) (cR (sA rfl (dn (CW.ret (tr (rr rfl (.cons rfl .nil) ?_))))))
   have hM49 : (l_eqTable p_a p_b) = (false) := by simp only [l_eqTable, hb18, hb26, cL]
   rw [hM49]
   exact ⟨rfl, (Ex.trans (Ex.trans (Ex.trans (Ex.refl w) hE10) hE16) hE25)⟩
 ·refine CW.cond_t rfl (not_f hb18) (cR (sA rfl (dn (CW.ret (tr (rr rfl (.cons rfl .nil) ?_))))))
  have hM53 : (l_eqTable p_a p_b) = (false) := by simp only [l_eqTable, hb18, cL]
  rw [hM53]
  exact ⟨rfl, (Ex.trans (Ex.trans (Ex.refl w) hE10) hE16)⟩
theorem c_l_eqWrite {w : World} (p_a : DWrite) (p_b : DWrite) : Cal Tryz.prog 38 #[.agg #[.string (bs (p_a.Key)), .string (bs (p_a.Val)), .bool (p_a.Gone)], .agg #[.string (bs (p_b.Key)), .string (bs (p_b.Val)), .bool (p_b.Gone)]] w fun v w' => v = .bool ((l_eqWrite p_a p_b)) ∧ Ex w w' := by
 refine Cal.of func38 rfl ntmps38 rfl (cR (sd rfl (yl_box rfl rfl rfl ?_)))
 intro b1 w2 hs3 hz4 hB5 hE6
 refine sd rfl (yl_box rfl rfl rfl ?_)
 intro b7 w8 hs9 hz10 hB11 hE12
 refine sA rfl (dn (CW.seq (cR (sd rfl (yl_fieldAddr fd70_0 rfl rfl ?_)))))
 have q13 := Box.ex hB5 hE12
 refine sd rfl (yl_load1 ty9 rfl rfl ((q13.cell 0).trans rfl) (sd rfl (yl_fieldAddr fd70_0 rfl rfl (sd rfl (yl_load1 ty9 rfl rfl ((hB11.cell 0).trans rfl) (sd rfl (yl_sneq (a := p_a.Key) (b := p_b.Key) rfl rfl rfl (dn (bcase (p_a.Key == p_b.Key) (fun hb14 => ?_) (fun hb14 => ?_))))))))))
 ·refine CW.cond_f rfl (not_t hb14) (CW.skip (tn (CW.seq (cR (sd rfl (yl_fieldAddr fd70_1 rfl rfl (sd rfl (yl_load1 ty9 rfl rfl ((q13.cell 1).trans rfl) (sd rfl (yl_fieldAddr fd70_1 rfl rfl ?_))))))))))
  refine sd rfl (yl_load1 ty9 rfl rfl ((hB11.cell 1).trans rfl) (sd rfl (yl_sneq (a := p_a.Val) (b := p_b.Val) rfl rfl rfl (dn (bcase (p_a.Val == p_b.Val) (fun hb15 => ?_) (fun hb15 => ?_))))))
  ·refine CW.cond_f rfl (not_t hb15) (CW.skip (tn (CW.seq (cR (sd rfl (yl_fieldAddr fd70_2 rfl rfl (sd rfl (yl_load1 ty4 rfl rfl ((q13.cell 2).trans rfl) (sd rfl (yl_fieldAddr fd70_2 rfl rfl ?_))))))))))
   refine sd rfl (yl_load1 ty4 rfl rfl ((hB11.cell 2).trans rfl) (sd rfl (yl_bneq un4 rfl rfl rfl (dn (bcase (p_a.Gone == p_b.Gone) (fun hb16 => ?_) (fun hb16 => ?_))))))
   ·refine CW.cond_f rfl (not_t hb16) (CW.skip (tn (cR (sA rfl (dn (CW.ret ?_))))))
    refine rr rfl (.cons rfl .nil) ?_
    have hM17 : (l_eqWrite p_a p_b) = (true) := by simp only [l_eqWrite, hb14, hb15, hb16, cL]
    rw [hM17]
    exact ⟨rfl, (Ex.trans (Ex.trans (Ex.refl w) hE6) hE12)⟩
   ·refine CW.cond_t rfl (not_f hb16) (cR (sA rfl (dn (CW.ret (tr (rr rfl (.cons rfl .nil) ?_))))))
    have hM20 : (l_eqWrite p_a p_b) = (false) := by simp only [l_eqWrite, hb14, hb15, hb16, cL]
    rw [hM20]
    exact ⟨rfl, (Ex.trans (Ex.trans (Ex.refl w) hE6) hE12)⟩
  ·refine CW.cond_t rfl (not_f hb15) (cR (sA rfl (dn (CW.ret (tr (rr rfl (.cons rfl .nil) ?_))))))
   have hM23 : (l_eqWrite p_a p_b) = (false) := by simp only [l_eqWrite, hb14, hb15, cL]
   rw [hM23]
   exact ⟨rfl, (Ex.trans (Ex.trans (Ex.refl w) hE6) hE12)⟩
 ·refine CW.cond_t rfl (not_f hb14) (cR (sA rfl (dn (CW.ret (tr (rr rfl (.cons rfl .nil) ?_))))))
  have hM26 : (l_eqWrite p_a p_b) = (false) := by simp only [l_eqWrite, hb14, cL]
  rw [hM26]
  exact ⟨rfl, (Ex.trans (Ex.trans (Ex.refl w) hE6) hE12)⟩
theorem c_l_eqWriteS {A1 : Option Addr} {c1 : Nat} {A2 : Option Addr} {c2 : Nat} {w : World} (p_a : List DWrite) (p_b : List DWrite) (h1 : RdS w (Iv 0 w.heap.size) (RF e_Write) 3 A1 p_a.length c1 p_a) (h2 : RdS w (Iv 0 w.heap.size) (RF e_Write) 3 A2 p_b.length c2 p_b) : Cal Tryz.prog 14 #[.slice A1 p_a.length c1, .slice A2 p_b.length c2] w fun v w' => v = .bool ((l_eqWriteS p_a p_b)) ∧ Ex w w' := by
 refine Cal.of func14 rfl ntmps14 rfl (cR (sA rfl (dn (CW.seq (cR ?_)))))
 refine sM rfl (sd rfl (yL un43 rfl rfl (sM rfl (sd rfl (yL un43 rfl rfl (sd rfl (yl_neq rfl rfl rfl (dn (bcase (decide ((p_a.length : Int) = (p_b.length : Int))) (fun hb3 => ?_) (fun hb3 => ?_))))))))))
 ·have hb3p := dec_t hb3
  refine CW.cond_f rfl (not_t hb3) (CW.skip (tn (CW.seq (cR (sA rfl (dn ?_))))))
  refine CW.block (CW.loop (fun m5 L6 w7 => ∃ (k4 : Nat), m5 = p_a.length - k4 ∧ k4 ≤ p_a.length ∧ w.heap.size ≤ w7.heap.size ∧ lkp L6 0 = some (.slice A1 p_a.length c1) ∧ lkp L6 1 = some (.slice A2 p_b.length c2) ∧ lkp L6 5 = some (.int .i64 ((k4 : Int))) ∧ RdS w7 (Iv 0 w.heap.size) (RF e_Write) 3 A1 p_a.length c1 p_a ∧ RdS w7 (Iv 0 w.heap.size) (RF e_Write) 3 A2 p_b.length c2 p_b ∧ Ex w w7 ∧ loopM (B_l_eqWriteS_0 p_a p_b) (p_a.length - k4) k4 () = loopM (B_l_eqWriteS_0 p_a p_b) (p_a.length - 0) 0 ()) (p_a.length - 0) ?_ ?_)
  ·exact ⟨0, rfl, oM, Nat.le_refl _, rfl, rfl, rfl, h1, h2, (Ex.refl w), rfl⟩
  ·rintro m8 L9 w10 ⟨k4, rfl, hk11, hsz13, hl14, hl15, hl16, hf17, hf18, hf19, hI12⟩
   refine CW.sub (Sub.cons hl14 (Sub.cons hl15 (Sub.cons hl16 (Sub.nil _)))) ?_
   have hf19z := Ex.size hf19
   have hbg20 := RdS.big hf17
   rcases Nat.lt_or_ge k4 p_a.length with hlt21 | hlt21
   ·refine CW.seq (cR (sM rfl (sM rfl (sd rfl (yL un43 rfl rfl (sd rfl (yl_lss rfl rfl rfl (dn ?_))))))))
    refine CW.cond_t rfl (lt_t hlt21) (CW.skip (tn (CW.seq (CW.block (CW.seq ?_)))))
    obtain ⟨eb22, eo22, _, eA22, _, ebl22, _, eR22, eC22⟩ := RdS.aD hf17 d_Write (i := k4)
    obtain rfl := eR22
    have eC22 : Cells w10 eb22 (eo22 + k4 * 3) [.string (bs ((p_a.getD k4 d_Write).Key)), .string (bs ((p_a.getD k4 d_Write).Val)), .bool ((p_a.getD k4 d_Write).Gone)] := eC22
    obtain ⟨eb23, eo23, _, eA23, _, ebl23, _, eR23, eC23⟩ := RdS.aD hf18 d_Write (i := k4)
    obtain rfl := eR23
    have eC23 : Cells w10 eb23 (eo23 + k4 * 3) [.string (bs ((p_b.getD k4 d_Write).Key)), .string (bs ((p_b.getD k4 d_Write).Val)), .bool ((p_b.getD k4 d_Write).Gone)] := eC23
    refine drI 10 [.slice A1 p_a.length c1, .int .i64 ((k4 : Int)), .pointer (some ⟨eb22, eo22 + k4 * 3, none⟩), .agg #[.string (bs ((p_a.getD k4 d_Write).Key)), .string (bs ((p_a.getD k4 d_Write).Val)), .bool ((p_a.getD k4 d_Write).Gone)], .slice A2 p_b.length c2, .int .i64 ((k4 : Int)), .pointer (some ⟨eb23, eo23 + k4 * 3, none⟩), .agg #[.string (bs ((p_b.getD k4 d_Write).Key)), .string (bs ((p_b.getD k4 d_Write).Val)), .bool ((p_b.getD k4 d_Write).Gone)], .bool ((l_eqWrite (p_a.getD k4 d_Write) (p_b.getD k4 d_Write))), .bool (!(l_eqWrite (p_a.getD k4 d_Write) (p_b.getD k4 d_Write)))] Tryz.follows rfl ⟨?_, ?_, ?_, ?_, ?_, ?_, ?_, ?_, ?_, ?_, trivial⟩ ?_
    ·exact oI rfl fun h => yM rfl (h.old 0 _ rfl rfl) kI
    ·exact oI rfl fun h => yM rfl (h.old 5 _ rfl rfl) kI
    ·intro L35 w36 hi37
     have hE38 := hi37.ex
     have hE38z := Ex.size hE38
     exact os rfl ((yl_ixN un43 ty70 rfl (hi37.dt 0 17 rfl rfl rfl) (hi37.dt 1 18 rfl rfl rfl) eA22 kI))
    ·exact oI rfl fun h => yl_loadN ty70 rfl (h.dt 2 19 rfl rfl rfl) (Cells.ex eC22 h.ex) rfl kI
    ·exact oI rfl fun h => yM rfl (h.old 1 _ rfl rfl) kI
    ·exact oI rfl fun h => yM rfl (h.old 5 _ rfl rfl) kI
    ·intro L57 w58 hi59
     have hE60 := hi59.ex
     have hE60z := Ex.size hE60
     exact os rfl ((yl_ixN un43 ty70 rfl (hi59.dt 4 21 rfl rfl rfl) (hi59.dt 5 22 rfl rfl rfl) eA23 kI))
    ·exact oI rfl fun h => yl_loadN ty70 rfl (h.dt 6 23 rfl rfl rfl) (Cells.ex eC23 h.ex) rfl kI
    ·intro L69 w70 hi71
     exact OpR.op' rfl (yC en38 rfl (oc (hi71.dt 3 20 rfl rfl rfl) (oc (hi71.dt 7 24 rfl rfl rfl) oz)) (Cal.mono (c_l_eqWrite (p_a.getD k4 d_Write) (p_b.getD k4 d_Write)) fun _ _ h => h))
    ·exact oI rfl fun h => yl_not rfl (h.dt 8 25 rfl rfl rfl) kI
    ·intro fl86 fh87 L83 w84 hp85
     have hE88 := hp85.ex
     have hE88z := Ex.size hE88
     refine dn (CW.sub (sC 0 (hp85.old 0 _ rfl rfl) (sC 1 (hp85.old 1 _ rfl rfl) (sC 5 (hp85.old 5 _ rfl rfl) (sC 26 (hp85.nt 9 26 rfl rfl rfl) (Sub.nil _))))) (bcase (l_eqWrite (p_a.getD k4 d_Write) (p_b.getD k4 d_Write)) (fun hb93 => ?_) (fun hb93 => ?_)))
     ·refine CW.cond_f rfl (not_t hb93) (CW.skip (bn (tn (CW.region (sM rfl (sd rfl (yl_inc rfl rfl rfl oM (sA rfl (SeqR.done ?_)))))))))
      refine tn ?_
      have hB94 : B_l_eqWriteS_0 p_a p_b k4 () = .cont () := by simp only [B_l_eqWriteS_0, hb3, hb93, cL]
      exact ⟨p_a.length - (k4 + 1), oM, k4 + 1, rfl, hlt21, oM, rfl, rfl, rfl, (RdS.ex gW hf17 hE88), (RdS.ex gW hf18 hE88), (Ex.trans hf19 hE88), (loopM.cont hlt21 hB94).symm.trans hI12⟩
     ·refine CW.cond_t rfl (not_f hb93) (cR (sA rfl (dn (CW.ret (br (tr ?_))))))
      refine tr ?_
      have hB99 : B_l_eqWriteS_0 p_a p_b k4 () = .ret false := by simp only [B_l_eqWriteS_0, hb3, hb93, cL]
      have hL98 : loopM (B_l_eqWriteS_0 p_a p_b) (p_a.length - 0) 0 () = .ret false := hI12.symm.trans (loopM.ret hlt21 hB99)
      refine br (tr (rr rfl (.cons rfl .nil) ?_))
      have hM100 : (l_eqWriteS p_a p_b) = (false) := by simp only [l_eqWriteS, hb3, hb93, hL98, cL]
      rw [hM100]
      exact ⟨rfl, (Ex.trans hf19 hE88)⟩
   ·refine CW.seq (cR (sM rfl (sM rfl (sd rfl (yL un43 rfl rfl (sd rfl (yl_lss rfl rfl rfl (dn ?_))))))))
    refine CW.cond_f rfl (lt_f hlt21) (CW.exit (tx (tx ?_)))
    have hL102 : loopM (B_l_eqWriteS_0 p_a p_b) (p_a.length - 0) 0 () = .done () := hI12.symm.trans (loopM.stop hlt21)
    refine bx (tn (cR (sA rfl (dn (CW.ret (rr rfl (.cons rfl .nil) ?_))))))
    have hM103 : (l_eqWriteS p_a p_b) = (true) := by simp only [l_eqWriteS, hb3, hL102, cL]
    rw [hM103]
    exact ⟨rfl, hf19⟩
 ·have hb3p := dec_f hb3
  refine CW.cond_t rfl (not_f hb3) (cR (sA rfl (dn (CW.ret (tr (rr rfl (.cons rfl .nil) ?_))))))
  have hM104 : (l_eqWriteS p_a p_b) = (false) := by simp only [l_eqWriteS, hb3, cL]
  rw [hM104]
  exact ⟨rfl, (Ex.refl w)⟩
theorem c_l_eqRowAct {A1 : Option Addr} {c1 : Nat} {A2 : Option Addr} {c2 : Nat} {A3 : Option Addr} {c3 : Nat} {A4 : Option Addr} {c4 : Nat} {w : World} (p_a : DRowAct) (p_b : DRowAct) (h1 : RdS w (Iv 0 w.heap.size) (RF e_Str) 1 A1 p_a.Old.Vals.length c1 p_a.Old.Vals) (h2 : RdS w (Iv 0 w.heap.size) (RF e_Str) 1 A2 p_a.New.Vals.length c2 p_a.New.Vals) (h3 : RdS w (Iv 0 w.heap.size) (RF e_Str) 1 A3 p_b.Old.Vals.length c3 p_b.Old.Vals) (h4 : RdS w (Iv 0 w.heap.size) (RF e_Str) 1 A4 p_b.New.Vals.length c4 p_b.New.Vals) : Cal Tryz.prog 39 #[.agg #[.int .i64 (p_a.Kind), .slice A1 p_a.Old.Vals.length c1, .slice A2 p_a.New.Vals.length c2], .agg #[.int .i64 (p_b.Kind), .slice A3 p_b.Old.Vals.length c3, .slice A4 p_b.New.Vals.length c4]] w fun v w' => v = .bool ((l_eqRowAct p_a p_b)) ∧ Ex w w' := by
 refine Cal.of func39 rfl ntmps39 rfl (cR (sd rfl (yl_box rfl rfl rfl ?_)))
 intro b5 w6 hs7 hz8 hB9 hE10
 refine sd rfl (yl_box rfl rfl rfl ?_)
 intro b11 w12 hs13 hz14 hB15 hE16
 refine sA rfl (dn (CW.seq (cR (sd rfl (yl_fieldAddr fd47_0 rfl rfl ?_)))))
 have q17 := Box.ex hB9 hE16
 refine sd rfl (yl_load1 ty3 rfl rfl ((q17.cell 0).trans rfl) (sd rfl (yl_fieldAddr fd47_0 rfl rfl (sd rfl (yl_load1 ty3 rfl rfl ((hB15.cell 0).trans rfl) (sd rfl (yl_neq rfl rfl rfl (dn (bcase (decide (p_a.Kind = p_b.Kind)) (fun hb18 => ?_) (fun hb18 => ?_))))))))))
 ·have hb18p := dec_t hb18
  refine CW.cond_f rfl (not_t hb18) (CW.skip (tn (CW.seq (cR (sd rfl (yl_fieldAddr fd47_1 rfl rfl (sd rfl (yl_loadN ty45 rfl rfl (q17.cells (n := 1) rfl) rfl (sd rfl (yl_fieldAddr fd47_1 rfl rfl ?_))))))))))
  refine sd rfl (yl_loadN ty45 rfl rfl (hB15.cells (n := 1) rfl) rfl (sd rfl (yC en35 rfl (oc rfl (oc rfl oz)) (Cal.mono (c_l_eqRow p_a.Old p_b.Old (RdS.up (RdS.ex gS (RdS.ex gS h1 hE10) hE16) gS) (RdS.up (RdS.ex gS (RdS.ex gS h3 hE10) hE16) gS)) ?_))))
  rintro v24 w23 ⟨rfl, hE25⟩
  refine sd rfl (yl_not rfl rfl (dn (bcase (l_eqRow p_a.Old p_b.Old) (fun hb26 => ?_) (fun hb26 => ?_))))
  ·refine CW.cond_f rfl (not_t hb26) (CW.skip (tn (CW.seq (cR (sd rfl (yl_fieldAddr fd47_2 rfl rfl (sd rfl (yl_loadN ty45 rfl rfl ((Box.ex q17 hE25).cells (n := 1) rfl) rfl (sd rfl (yl_fieldAddr fd47_2 rfl rfl ?_))))))))))
   refine sd rfl (yl_loadN ty45 rfl rfl ((Box.ex hB15 hE25).cells (n := 1) rfl) rfl (sd rfl (yC en35 rfl (oc rfl (oc rfl oz)) (Cal.mono (c_l_eqRow p_a.New p_b.New (RdS.up (RdS.ex gS (RdS.ex gS (RdS.ex gS h2 hE10) hE16) hE25) gS) (RdS.up (RdS.ex gS (RdS.ex gS (RdS.ex gS h4 hE10) hE16) hE25) gS)) ?_))))
   rintro v36 w35 ⟨rfl, hE37⟩
   refine sd rfl (yl_not rfl rfl (dn (bcase (l_eqRow p_a.New p_b.New) (fun hb38 => ?_) (fun hb38 => ?_))))
   ·refine CW.cond_f rfl (not_t hb38) (CW.skip (tn (cR (sA rfl (dn (CW.ret ?_))))))
    refine rr rfl (.cons rfl .nil) ?_
    have hM39 : (l_eqRowAct p_a p_b) = (true) := by simp only [l_eqRowAct, hb18, hb26, hb38, cL]
    rw [hM39]
    exact ⟨rfl, (Ex.trans (Ex.trans (Ex.trans (Ex.trans (Ex.refl w) hE10) hE16) hE25) hE37)⟩
   ·refine CW.cond_t rfl (not_f hb38) (cR (sA rfl (dn (CW.ret (tr (rr rfl (.cons rfl .nil) ?_))))))
    have hM44 : (l_eqRowAct p_a p_b) = (false) := by simp only [l_eqRowAct, hb18, hb26, hb38, cL]
    rw [hM44]
    exact ⟨rfl, (Ex.trans (Ex.trans (Ex.trans (Ex.trans (Ex.refl w) hE10) hE16) hE25) hE37)⟩
  ·refine CW.cond_t rfl (not_f hb26) (cR (sA rfl (dn (CW.ret (tr (rr rfl (.cons rfl .nil) ?_))))))
   have hM49 : (l_eqRowAct p_a p_b) = (false) := by simp only [l_eqRowAct, hb18, hb26, cL]
   rw [hM49]
   exact ⟨rfl, (Ex.trans (Ex.trans (Ex.trans (Ex.refl w) hE10) hE16) hE25)⟩
 ·have hb18p := dec_f hb18
  refine CW.cond_t rfl (not_f hb18) (cR (sA rfl (dn (CW.ret (tr (rr rfl (.cons rfl .nil) ?_))))))
  have hM53 : (l_eqRowAct p_a p_b) = (false) := by simp only [l_eqRowAct, hb18, cL]
  rw [hM53]
  exact ⟨rfl, (Ex.trans (Ex.trans (Ex.refl w) hE10) hE16)⟩
theorem c_l_eqStmt {A1 : Option Addr} {c1 : Nat} {A2 : Option Addr} {c2 : Nat} {A3 : Option Addr} {c3 : Nat} {A4 : Option Addr} {c4 : Nat} {w : World} (p_a : DStmt) (p_b : DStmt) (h1 : RdS w (Iv 0 w.heap.size) (RF e_Str) 1 A1 p_a.Act.Old.Vals.length c1 p_a.Act.Old.Vals) (h2 : RdS w (Iv 0 w.heap.size) (RF e_Str) 1 A2 p_a.Act.New.Vals.length c2 p_a.Act.New.Vals) (h3 : RdS w (Iv 0 w.heap.size) (RF e_Str) 1 A3 p_b.Act.Old.Vals.length c3 p_b.Act.Old.Vals) (h4 : RdS w (Iv 0 w.heap.size) (RF e_Str) 1 A4 p_b.Act.New.Vals.length c4 p_b.Act.New.Vals) : Cal Tryz.prog 15 #[.agg #[.int .i64 (p_a.Kind), .int .i64 (p_a.Act.Kind), .slice A1 p_a.Act.Old.Vals.length c1, .slice A2 p_a.Act.New.Vals.length c2, .string (bs (p_a.Idx)), .string (bs (p_a.Low)), .string (bs (p_a.High))], .agg #[.int .i64 (p_b.Kind), .int .i64 (p_b.Act.Kind), .slice A3 p_b.Act.Old.Vals.length c3, .slice A4 p_b.Act.New.Vals.length c4, .string (bs (p_b.Idx)), .string (bs (p_b.Low)), .string (bs (p_b.High))]] w fun v w' => v = .bool ((l_eqStmt p_a p_b)) ∧ Ex w w' := by
 refine Cal.of func15 rfl ntmps15 rfl (cR (sd rfl (yl_box rfl rfl rfl ?_)))
 intro b5 w6 hs7 hz8 hB9 hE10
 refine sd rfl (yl_box rfl rfl rfl ?_)
 intro b11 w12 hs13 hz14 hB15 hE16
 refine sA rfl (dn (CW.seq (cR (sd rfl (yl_fieldAddr fd49_0 rfl rfl ?_)))))
 have q17 := Box.ex hB9 hE16
 refine sd rfl (yl_load1 ty3 rfl rfl ((q17.cell 0).trans rfl) (sd rfl (yl_fieldAddr fd49_0 rfl rfl (sd rfl (yl_load1 ty3 rfl rfl ((hB15.cell 0).trans rfl) (sd rfl (yl_neq rfl rfl rfl (dn (bcase (decide (p_a.Kind = p_b.Kind)) (fun hb18 => ?_) (fun hb18 => ?_))))))))))
 ·have hb18p := dec_t hb18
  refine CW.cond_f rfl (not_t hb18) (CW.skip (tn (CW.seq (cR (sd rfl (yl_fieldAddr fd49_1 rfl rfl (sd rfl (yl_loadN ty47 rfl rfl (q17.cells (n := 3) rfl) rfl (sd rfl (yl_fieldAddr fd49_1 rfl rfl ?_))))))))))
  refine sd rfl (yl_loadN ty47 rfl rfl (hB15.cells (n := 3) rfl) rfl (sd rfl (yC en39 rfl (oc rfl (oc rfl oz)) (Cal.mono (c_l_eqRowAct p_a.Act p_b.Act (RdS.up (RdS.ex gS (RdS.ex gS h1 hE10) hE16) gS) (RdS.up (RdS.ex gS (RdS.ex gS h2 hE10) hE16) gS) (RdS.up (RdS.ex gS (RdS.ex gS h3 hE10) hE16) gS) (RdS.up (RdS.ex gS (RdS.ex gS h4 hE10) hE16) gS)) ?_))))
  rintro v28 w27 ⟨rfl, hE29⟩
  refine sd rfl (yl_not rfl rfl (dn (bcase (l_eqRowAct p_a.Act p_b.Act) (fun hb30 => ?_) (fun hb30 => ?_))))
  ·refine CW.cond_f rfl (not_t hb30) (CW.skip (tn (CW.seq (cR (sd rfl (yl_fieldAddr fd49_2 rfl rfl ?_))))))
   have q31 := Box.ex q17 hE29
   refine sd rfl (yl_load1 ty9 rfl rfl ((q31.cell 4).trans rfl) (sd rfl (yl_fieldAddr fd49_2 rfl rfl ?_)))
   have q32 := Box.ex hB15 hE29
   refine sd rfl (yl_load1 ty9 rfl rfl ((q32.cell 4).trans rfl) (sd rfl (yl_sneq (a := p_a.Idx) (b := p_b.Idx) rfl rfl rfl (dn (bcase (p_a.Idx == p_b.Idx) (fun hb33 => ?_) (fun hb33 => ?_))))))
   ·refine CW.cond_f rfl (not_t hb33) (CW.skip (tn (CW.seq (cR (sd rfl (yl_fieldAddr fd49_3 rfl rfl (sd rfl (yl_load1 ty9 rfl rfl ((q31.cell 5).trans rfl) (sd rfl (yl_fieldAddr fd49_3 rfl rfl ?_))))))))))
    refine sd rfl (yl_load1 ty9 rfl rfl ((q32.cell 5).trans rfl) (sd rfl (yl_sneq (a := p_a.Low) (b := p_b.Low) rfl rfl rfl (dn (bcase (p_a.Low == p_b.Low) (fun hb34 => ?_) (fun hb34 => ?_))))))
    ·refine CW.cond_f rfl (not_t hb34) (CW.skip (tn (CW.seq (cR (sd rfl (yl_fieldAddr fd49_4 rfl rfl (sd rfl (yl_load1 ty9 rfl rfl ((q31.cell 6).trans rfl) (sd rfl (yl_fieldAddr fd49_4 rfl rfl ?_))))))))))
     refine sd rfl (yl_load1 ty9 rfl rfl ((q32.cell 6).trans rfl) (sd rfl (yl_sneq (a := p_a.High) (b := p_b.High) rfl rfl rfl (dn (bcase (p_a.High == p_b.High) (fun hb35 => ?_) (fun hb35 => ?_))))))
     ·refine CW.cond_f rfl (not_t hb35) (CW.skip (tn (cR (sA rfl (dn (CW.ret ?_))))))
      refine rr rfl (.cons rfl .nil) ?_
      have hM36 : (l_eqStmt p_a p_b) = (true) := by simp only [l_eqStmt, hb18, hb30, hb33, hb34, hb35, cL]
      rw [hM36]
      exact ⟨rfl, (Ex.trans (Ex.trans (Ex.trans (Ex.refl w) hE10) hE16) hE29)⟩
     ·refine CW.cond_t rfl (not_f hb35) (cR (sA rfl (dn (CW.ret (tr (rr rfl (.cons rfl .nil) ?_))))))
      have hM40 : (l_eqStmt p_a p_b) = (false) := by simp only [l_eqStmt, hb18, hb30, hb33, hb34, hb35, cL]
      rw [hM40]
      exact ⟨rfl, (Ex.trans (Ex.trans (Ex.trans (Ex.refl w) hE10) hE16) hE29)⟩
    ·refine CW.cond_t rfl (not_f hb34) (cR (sA rfl (dn (CW.ret (tr (rr rfl (.cons rfl .nil) ?_))))))
     have hM44 : (l_eqStmt p_a p_b) = (false) := by simp only [l_eqStmt, hb18, hb30, hb33, hb34, cL]
     rw [hM44]
     exact ⟨rfl, (Ex.trans (Ex.trans (Ex.trans (Ex.refl w) hE10) hE16) hE29)⟩
   ·refine CW.cond_t rfl (not_f hb33) (cR (sA rfl (dn (CW.ret (tr (rr rfl (.cons rfl .nil) ?_))))))
    have hM48 : (l_eqStmt p_a p_b) = (false) := by simp only [l_eqStmt, hb18, hb30, hb33, cL]
    rw [hM48]
    exact ⟨rfl, (Ex.trans (Ex.trans (Ex.trans (Ex.refl w) hE10) hE16) hE29)⟩
  ·refine CW.cond_t rfl (not_f hb30) (cR (sA rfl (dn (CW.ret (tr (rr rfl (.cons rfl .nil) ?_))))))
   have hM52 : (l_eqStmt p_a p_b) = (false) := by simp only [l_eqStmt, hb18, hb30, cL]
   rw [hM52]
   exact ⟨rfl, (Ex.trans (Ex.trans (Ex.trans (Ex.refl w) hE10) hE16) hE29)⟩
 ·have hb18p := dec_f hb18
  refine CW.cond_t rfl (not_f hb18) (cR (sA rfl (dn (CW.ret (tr (rr rfl (.cons rfl .nil) ?_))))))
  have hM56 : (l_eqStmt p_a p_b) = (false) := by simp only [l_eqStmt, hb18, cL]
  rw [hM56]
  exact ⟨rfl, (Ex.trans (Ex.trans (Ex.refl w) hE10) hE16)⟩
theorem c_l_markText {w : World} (p_k : Int) (pre0 : p_k ≤ 9223372036854775807) : Cal Tryz.prog 42 #[.int .i64 (p_k)] w fun v w' => v = .string (bs ((l_markText p_k))) ∧ Ex w w' := by
 refine Cal.of func42 rfl ntmps42 rfl (cR (sA rfl (dn (CW.seq (cR ?_)))))
 refine sM rfl (sd rfl (yl_leq rfl rfl rfl (dn (bcase (decide (p_k ≤ 0)) (fun hb1 => ?_) (fun hb1 => ?_)))))
 ·have hb1p := dec_t hb1
  refine CW.cond_t rfl hb1 (cR (sA rfl (dn (CW.ret (tr (rr rfl (.cons rfl .nil) ?_))))))
  have hM2 : (l_markText p_k) = (([109, 48] : Str)) := by simp only [l_markText, hb1, cL]
  rw [hM2]
  exact ⟨rfl, (Ex.refl w)⟩
 ·have hb1p := dec_f hb1
  refine CW.cond_f rfl hb1 (CW.skip (tn (cR (sA rfl (dn (CW.seq ?_))))))
  refine CW.block (CW.loop (fun m18 L19 w20 => ∃ (x16 : Int) (x17 : Str), (((x16).toNat + 1) / 2) < m18 ∧ w.heap.size ≤ w20.heap.size ∧ lkp L19 0 = some (.int .i64 (x16)) ∧ lkp L19 3 = some (.string (bs (x17))) ∧ Ex w w20 ∧ x17.length + 1 * (((x16).toNat + 1) / 2) ≤ 0 + 1 * (((p_k).toNat + 1) / 2) ∧ x16 ≤ 9223372036854775807 ∧ loopW (B_l_markText_0 p_k) m18 (x16, x17) = loopW (B_l_markText_0 p_k) ((((p_k).toNat + 1) / 2) + 1) (p_k, ([] : Str))) ((((p_k).toNat + 1) / 2) + 1) ?_ ?_)
  ·exact ⟨p_k, ([] : Str), Nat.lt_succ_self _, Nat.le_refl _, rfl, rfl, (Ex.refl w), (by first | (simp; done) | (first | omega | (simp only [lN, toS_length]; omega))), Bo, rfl⟩
  ·rintro m21 L22 w23 ⟨x16, x17, hk24, hsz26, hl27, hl28, hf29, hln30, hv31, hI25⟩
   refine CW.sub (Sub.cons hl27 (Sub.cons hl28 (Sub.nil _))) ?_
   have hf29z := Ex.size hf29
   refine CW.seq (cR (sM rfl (sd rfl (yl_gtr rfl rfl rfl (dn (bcase (decide (0 < x16)) (fun hb32 => ?_) (fun hb32 => ?_)))))))
   ·have hb32p := dec_t hb32
    refine CW.cond_t rfl hb32 (CW.skip (tn (CW.block (cR (sM rfl (sd rfl (yl_rem rfl rfl rfl (by decide) (sd rfl (yl_add rfl rfl rfl ?_)))))))))
    refine sd rfl (yl_conv un3 un5 rfl rfl (sd rfl (yl_buildSlice (cs := [.int .u8 (IntKind.wrap .u8 (IntKind.wrap .i64 (48 + (Int.tmod x16 10))))]) un110 ty5 (by decide) rfl (oc rfl oz) (by kernel_rfl) ?_)))
    intro b33 w34 hs35 hz36 hB37 hE38
    have hO39 : OwnL w34 b33 (b33 + 1) 5 1 (RF e_U8) (some ⟨b33, 0, none⟩) 1 1 ([IntKind.wrap .u8 (IntKind.wrap .i64 (48 + (Int.tmod x16 10)))] : List Int) := OwnL.of_box (S := fun _ => False) hB37 (Nat.le_refl _) (Nat.lt_succ_self _) (EncL.cons (c := [.int .u8 (IntKind.wrap .u8 (IntKind.wrap .i64 (48 + (Int.tmod x16 10))))]) rfl rfl EncL.nil) (nb rfl) (fun h => h) (fun _ h => False.elim h)
    refine sd rfl (yl_toS un110 un5 un9 rfl rfl (OwnL.rd gU hO39) (sM rfl ?_))
    have hol41 : (toS ([IntKind.wrap .u8 (IntKind.wrap .i64 (48 + (Int.tmod x16 10)))] : List Int)).length ≤ 1073741824 := (okS_toS (nb rfl))
    refine sd rfl (yl_sadd (a := (toS ([IntKind.wrap .u8 (IntKind.wrap .i64 (48 + (Int.tmod x16 10)))] : List Int))) (b := x17) rfl rfl rfl Bl (sA rfl (dn (CW.region (sM rfl (sd rfl (yl_quo rfl rfl rfl (by decide) (sA rfl (SeqR.done ?_)))))))))
    refine bn (tn ?_)
    have hB42 : B_l_markText_0 p_k (x16, x17) = .cont (IntKind.wrap .i64 (Int.tdiv x16 10), (toS ([IntKind.wrap .u8 (IntKind.wrap .i64 (48 + (Int.tmod x16 10)))] : List Int)) ++ x17) := by simp only [B_l_markText_0, hb1, hb32, cL]
    have hmu44 : (((IntKind.wrap .i64 (Int.tdiv x16 10)).toNat + 1) / 2) < (((x16).toNat + 1) / 2) := by (have hq := wtd (n := x16) (c := 10) (by decide) oM oM; omega)
    exact ⟨m21 - 1, oM, IntKind.wrap .i64 (Int.tdiv x16 10), (toS ([IntKind.wrap .u8 (IntKind.wrap .i64 (48 + (Int.tmod x16 10)))] : List Int)) ++ x17, oM, oM, rfl, rfl, (Ex.trans hf29 hE38), Bl, (by (have hq := wtd (n := x16) (c := 10) (by decide) oM oM; omega)), (loopW.cont hk24 hB42).symm.trans hI25⟩
   ·have hb32p := dec_f hb32
    refine CW.cond_f rfl hb32 (CW.exit (tx (tx ?_)))
    have hB46 : B_l_markText_0 p_k (x16, x17) = .brk (x16, x17) := by simp only [B_l_markText_0, hb1, hb32, cL]
    have hL45 : loopW (B_l_markText_0 p_k) ((((p_k).toNat + 1) / 2) + 1) (p_k, ([] : Str)) = .done (x16, x17) := hI25.symm.trans (loopW.brk hk24 hB46)
    refine bx (tn (cR (sM rfl (sd rfl (yl_sadd (a := ([109] : Str)) (b := x17) rfl rfl rfl Bl (sA rfl (dn ?_)))))))
    refine CW.ret (rr rfl (.cons rfl .nil) ?_)
    have hM47 : (l_markText p_k) = (([109] : Str) ++ x17) := by simp only [l_markText, hb1, hb32, hL45, cL]
    rw [hM47]
    exact ⟨rfl, hf29⟩
theorem c_l_markStringS {A1 : Option Addr} {c1 : Nat} {lo1 hi1 : Nat} {w : World} (p_a : List Str) (p_k : Int) (h1 : OwnL w lo1 hi1 9 1 (RF e_Str) A1 p_a.length c1 p_a) (hrn2 : (0 ≤ lo1 ∧ lo1 ≤ hi1 ∧ hi1 ≤ w.heap.size)) (pre0 : p_k ≤ 9223372036854775807) : Cal Tryz.prog 40 #[.slice A1 p_a.length c1, .int .i64 (p_k)] w fun v w' => v = .int .i64 ((l_markStringS p_a p_k).1) ∧ OwnL w' lo1 hi1 9 1 (RF e_Str) A1 p_a.length c1 ((l_markStringS p_a p_k).2) ∧ Mut [(lo1, hi1)] w w' := by
 refine Cal.of func40 rfl ntmps40 rfl (cR (sA rfl (dn (CW.seq (cR ?_)))))
 refine sA rfl (dn (CW.block (CW.loop (fun m16 L17 w18 => ∃ (k3 : Nat) (x14 : Int) (x15 : List Str), m16 = p_a.length - k3 ∧ k3 ≤ p_a.length ∧ w.heap.size ≤ w18.heap.size ∧ lkp L17 0 = some (.slice A1 p_a.length c1) ∧ lkp L17 1 = some (.int .i64 (x14)) ∧ lkp L17 5 = some (.int .i64 ((k3 : Int))) ∧ OwnL w18 lo1 hi1 9 1 (RF e_Str) A1 p_a.length c1 x15 ∧ Mut [(lo1, hi1)] w w18 ∧ x14 ≤ 9223372036854775807 ∧ loopM (B_l_markStringS_0 p_a p_k) (p_a.length - k3) k3 (x14, x15) = loopM (B_l_markStringS_0 p_a p_k) (p_a.length - 0) 0 (p_k, p_a)) (p_a.length - 0) ?_ ?_)))
 ·exact ⟨0, p_k, p_a, rfl, oM, Nat.le_refl _, rfl, rfl, rfl, h1, (Mut.refl (l := [(lo1, hi1)]) w), Bo, rfl⟩
 ·rintro m19 L20 w21 ⟨k3, x14, x15, rfl, hk22, hsz24, hl25, hl26, hl27, hf28, hf29, hv30, hI23⟩
  refine CW.sub (Sub.cons hl25 (Sub.cons hl26 (Sub.cons hl27 (Sub.nil _)))) ?_
  have hf29z := Mut.size hf29
  have hbg31 := RdS.big (OwnL.rd gS hf28)
  rcases Nat.lt_or_ge k3 p_a.length with hlt33 | hlt33
  ·refine CW.seq (cR (sM rfl (sM rfl (sd rfl (yL un22 rfl rfl (sd rfl (yl_lss rfl rfl rfl (dn ?_))))))))
   refine CW.cond_t rfl (lt_t hlt33) (CW.skip (tn (CW.seq (CW.block (cR (sM rfl (sM rfl ?_)))))))
   refine sM rfl (sd rfl (yC en42 rfl (oc rfl oz) (Cal.mono (c_l_markText x14 Bo) ?_)))
   rintro v35 w34 ⟨rfl, hE36⟩
   have hE36z := Ex.size hE36
   have q38 := OwnL.ex gS hf28 hE36
   obtain ⟨eb39, eo39, _, eA39, _, ebl39, _, eR39, eC39⟩ := RdS.aD (OwnL.rd gS q38) d_Str (i := k3)
   obtain rfl := eR39
   have eC39 : Cells w34 eb39 (eo39 + k3 * 1) [.string (bs ((x15.getD k3 d_Str)))] := eC39
   refine sd rfl (yl_ixN un22 ty9 rfl rfl rfl eA39 ?_)
   have hrg40 := OwnL.rng q38 (i := k3) Bo eb39 (by rw [eA39]; rfl)
   refine SeqR.u rfl rfl (yl_storeF (off := eo39) (i := k3) (d := 0) (dx := d_Str) (x' := (l_markText x14)) (vs := [.string (bs ((l_markText x14)))]) ty9 rfl q38 eA39 rfl rfl rfl rfl rfl Bo (nb rfl) rfl rfl ?_)
   intro w41 hB42 hO43
   have hO43z := hO43.size
   refine dn (CW.region (sM rfl (sd rfl (yl_add rfl rfl rfl (sA rfl (SeqR.done (bn (tn ?_))))))))
   refine CW.region (sM rfl (sd rfl (yl_inc rfl rfl rfl oM (sA rfl (dn ?_)))))
   have hB44 : B_l_markStringS_0 p_a p_k k3 (x14, x15) = .cont (IntKind.wrap .i64 (x14 + 1), (x15.set k3 (l_markText x14))) := by simp only [B_l_markStringS_0, cL]
   exact ⟨p_a.length - (k3 + 1), oM, k3 + 1, IntKind.wrap .i64 (x14 + 1), (x15.set k3 (l_markText x14)), rfl, hlt33, oM, rfl, rfl, rfl, hB42, (Mut.only (Mut.ex hf29 hE36) hO43 (by simp only [InR, or_false]; omega)), Bo, (loopM.cont hlt33 hB44).symm.trans hI23⟩
  ·refine CW.seq (cR (sM rfl (sM rfl (sd rfl (yL un22 rfl rfl (sd rfl (yl_lss rfl rfl rfl (dn ?_))))))))
   refine CW.cond_f rfl (lt_f hlt33) (CW.exit (tx (tx ?_)))
   have hL47 : loopM (B_l_markStringS_0 p_a p_k) (p_a.length - 0) 0 (p_k, p_a) = .done (x14, x15) := hI23.symm.trans (loopM.stop hlt33)
   refine bx (tn (cR (sM rfl (sA rfl (dn (CW.ret ?_))))))
   refine rr rfl (.cons rfl .nil) ?_
   have hM48 : (l_markStringS p_a p_k) = ((x14, x15)) := by simp only [l_markStringS, hL47, cL]
   rw [hM48]
   exact ⟨rfl, hf28, hf29⟩
theorem c_l_markIdxS {A1 : Option Addr} {c1 : Nat} {lo1 hi1 : Nat} {w : World} (p_a : List DIdx) (p_k : Int) (h1 : OwnL w lo1 hi1 88 3 (RF e_Idx) A1 p_a.length c1 p_a) (hrn2 : (0 ≤ lo1 ∧ lo1 ≤ hi1 ∧ hi1 ≤ w.heap.size)) (pre0 : p_k ≤ 9223372036854775807) : Cal Tryz.prog 41 #[.slice A1 p_a.length c1, .int .i64 (p_k)] w fun v w' => v = .int .i64 ((l_markIdxS p_a p_k).1) ∧ OwnL w' lo1 hi1 88 3 (RF e_Idx) A1 p_a.length c1 ((l_markIdxS p_a p_k).2) ∧ Mut [(lo1, hi1)] w w' := by
 refine Cal.of func41 rfl ntmps41 rfl (cR (sA rfl (dn (CW.seq (cR ?_)))))
 refine sA rfl (dn (CW.block (CW.loop (fun m28 L29 w30 => ∃ (k3 : Nat) (x26 : Int) (x27 : List DIdx), m28 = p_a.length - k3 ∧ k3 ≤ p_a.length ∧ w.heap.size ≤ w30.heap.size ∧ lkp L29 0 = some (.slice A1 p_a.length c1) ∧ lkp L29 1 = some (.int .i64 (x26)) ∧ lkp L29 5 = some (.int .i64 ((k3 : Int))) ∧ OwnL w30 lo1 hi1 88 3 (RF e_Idx) A1 p_a.length c1 x27 ∧ Mut [(lo1, hi1)] w w30 ∧ x26 ≤ 9223372036854775807 ∧ loopM (B_l_markIdxS_0 p_a p_k) (p_a.length - k3) k3 (x26, x27) = loopM (B_l_markIdxS_0 p_a p_k) (p_a.length - 0) 0 (p_k, p_a)) (p_a.length - 0) ?_ ?_)))
 ·exact ⟨0, p_k, p_a, rfl, oM, Nat.le_refl _, rfl, rfl, rfl, h1, (Mut.refl (l := [(lo1, hi1)]) w), Bo, rfl⟩
 ·rintro m31 L32 w33 ⟨k3, x26, x27, rfl, hk34, hsz36, hl37, hl38, hl39, hf40, hf41, hv42, hI35⟩
  refine CW.sub (Sub.cons hl37 (Sub.cons hl38 (Sub.cons hl39 (Sub.nil _)))) ?_
  have hf41z := Mut.size hf41
  have hbg43 := RdS.big (OwnL.rd gI hf40)
  rcases Nat.lt_or_ge k3 p_a.length with hlt45 | hlt45
  ·refine CW.seq (cR (sM rfl (sM rfl (sd rfl (yL un39 rfl rfl (sd rfl (yl_lss rfl rfl rfl (dn ?_))))))))
   refine CW.cond_t rfl (lt_t hlt45) (CW.skip (tn (CW.seq (CW.block (cR (sM rfl (sM rfl ?_)))))))
   refine sM rfl (sd rfl (yC en42 rfl (oc rfl oz) (Cal.mono (c_l_markText x26 Bo) ?_)))
   rintro v47 w46 ⟨rfl, hE48⟩
   have hE48z := Ex.size hE48
   have q50 := OwnL.ex gI hf40 hE48
   obtain ⟨eb51, eo51, _, eA51, _, ebl51, _, eR51, eC51⟩ := RdS.aD (OwnL.rd gI q50) d_Idx (i := k3)
   obtain rfl := eR51
   have eC51 : Cells w46 eb51 (eo51 + k3 * 3) [.string (bs ((x27.getD k3 d_Idx).Name)), .int .i64 ((x27.getD k3 d_Idx).Col), .int .i64 ((x27.getD k3 d_Idx).Stage)] := eC51
   refine sd rfl (yl_ixN un39 ty88 rfl rfl rfl eA51 (sd rfl (yl_fieldAddr fd88_0 rfl rfl ?_)))
   have hrg52 := OwnL.rng q50 (i := k3) Bo eb51 (by rw [eA51]; rfl)
   refine SeqR.u rfl rfl (yl_storeF (off := eo51) (i := k3) (d := 0) (dx := d_Idx) (x' := (⟨(l_markText x26), (x27.getD k3 d_Idx).Col, (x27.getD k3 d_Idx).Stage⟩ : DIdx)) (vs := [.string (bs ((l_markText x26)))]) ty9 rfl q50 eA51 rfl rfl rfl rfl rfl Bo (nb rfl) rfl rfl ?_)
   intro w53 hB54 hO55
   have hO55z := hO55.size
   refine dn (cR (sM rfl (sd rfl (yl_add rfl rfl rfl (sA rfl (dn ?_))))))
   refine cR (sM rfl (sM rfl (sM rfl ?_)))
   obtain ⟨eb57, eo57, _, eA57, _, ebl57, _, eR57, eC57⟩ := RdS.aD (OwnL.rd gI hB54) d_Idx (i := k3)
   obtain rfl := eR57
   rw [getD_set_self (by have hq := OwnL.len hB54; simp only [List.length_set] at hq; omega)] at eC57
   have eC57 : Cells w53 eb57 (eo57 + k3 * 3) [.string (bs ((l_markText x26))), .int .i64 ((x27.getD k3 d_Idx).Col), .int .i64 ((x27.getD k3 d_Idx).Stage)] := eC57
   refine sd rfl (yl_ixN un39 ty88 rfl rfl rfl eA57 (sd rfl (yl_fieldAddr fd88_1 rfl rfl ?_)))
   have hrg58 := OwnL.rng hB54 (i := k3) Bo eb57 (by rw [eA57]; rfl)
   refine SeqR.u rfl rfl (yl_storeF (off := eo57) (i := k3) (d := 1) (dx := d_Idx) (x' := (⟨(l_markText x26), IntKind.wrap .i64 (x26 + 1), (x27.getD k3 d_Idx).Stage⟩ : DIdx)) (vs := [.int .i64 (IntKind.wrap .i64 (x26 + 1))]) ty3 rfl hB54 eA57 rfl rfl rfl rfl rfl Bo (nb rfl) (by rw [getD_set_self (by have hq := OwnL.len hB54; simp only [List.length_set] at hq; omega)]; rfl) rfl ?_)
   intro w59 hB60 hO61
   have hO61z := hO61.size
   rw [List.set_set] at hB60
   refine dn (cR (sM rfl (sd rfl (yl_add rfl rfl rfl (sA rfl (dn ?_))))))
   refine cR (sM rfl (sM rfl (sM rfl ?_)))
   obtain ⟨eb63, eo63, _, eA63, _, ebl63, _, eR63, eC63⟩ := RdS.aD (OwnL.rd gI hB60) d_Idx (i := k3)
   obtain rfl := eR63
   rw [getD_set_self (by have hq := OwnL.len hB60; simp only [List.length_set] at hq; omega)] at eC63
   have eC63 : Cells w59 eb63 (eo63 + k3 * 3) [.string (bs ((l_markText x26))), .int .i64 (IntKind.wrap .i64 (x26 + 1)), .int .i64 ((x27.getD k3 d_Idx).Stage)] := eC63
   refine sd rfl (yl_ixN un39 ty88 rfl rfl rfl eA63 (sd rfl (yl_fieldAddr fd88_2 rfl rfl ?_)))
   have hrg64 := OwnL.rng hB60 (i := k3) Bo eb63 (by rw [eA63]; rfl)
   refine SeqR.u rfl rfl (yl_storeF (off := eo63) (i := k3) (d := 2) (dx := d_Idx) (x' := (⟨(l_markText x26), IntKind.wrap .i64 (x26 + 1), IntKind.wrap .i64 ((IntKind.wrap .i64 (x26 + 1)) + 1)⟩ : DIdx)) (vs := [.int .i64 (IntKind.wrap .i64 ((IntKind.wrap .i64 (x26 + 1)) + 1))]) ty3 rfl hB60 eA63 rfl rfl rfl rfl rfl Bo (nb rfl) (by rw [getD_set_self (by have hq := OwnL.len hB60; simp only [List.length_set] at hq; omega)]; rfl) rfl ?_)
   intro w65 hB66 hO67
   have hO67z := hO67.size
   rw [List.set_set] at hB66
   refine dn (CW.region (sM rfl (sd rfl (yl_add rfl rfl rfl (sA rfl (SeqR.done (bn (tn ?_))))))))
   refine CW.region (sM rfl (sd rfl (yl_inc rfl rfl rfl oM (sA rfl (dn ?_)))))
   have hB68 : B_l_markIdxS_0 p_a p_k k3 (x26, x27) = .cont (IntKind.wrap .i64 ((IntKind.wrap .i64 ((IntKind.wrap .i64 (x26 + 1)) + 1)) + 1), (x27.set k3 (⟨(l_markText x26), IntKind.wrap .i64 (x26 + 1), IntKind.wrap .i64 ((IntKind.wrap .i64 (x26 + 1)) + 1)⟩ : DIdx))) := by simp only [B_l_markIdxS_0, cL]
   exact ⟨p_a.length - (k3 + 1), oM, k3 + 1, IntKind.wrap .i64 ((IntKind.wrap .i64 ((IntKind.wrap .i64 (x26 + 1)) + 1)) + 1), (x27.set k3 (⟨(l_markText x26), IntKind.wrap .i64 (x26 + 1), IntKind.wrap .i64 ((IntKind.wrap .i64 (x26 + 1)) + 1)⟩ : DIdx)), rfl, hlt45, oM, rfl, rfl, rfl, hB66, (Mut.only (Mut.only (Mut.only (Mut.ex hf41 hE48) hO55 (by simp only [InR, or_false]; omega)) hO61 (by simp only [InR, or_false]; omega)) hO67 (by simp only [InR, or_false]; omega)), Bo, (loopM.cont hlt45 hB68).symm.trans hI35⟩
  ·refine CW.seq (cR (sM rfl (sM rfl (sd rfl (yL un39 rfl rfl (sd rfl (yl_lss rfl rfl rfl (dn ?_))))))))
   refine CW.cond_f rfl (lt_f hlt45) (CW.exit (tx (tx ?_)))
   have hL73 : loopM (B_l_markIdxS_0 p_a p_k) (p_a.length - 0) 0 (p_k, p_a) = .done (x26, x27) := hI35.symm.trans (loopM.stop hlt45)
   refine bx (tn (cR (sM rfl (sA rfl (dn (CW.ret ?_))))))
   refine rr rfl (.cons rfl .nil) ?_
   have hM74 : (l_markIdxS p_a p_k) = ((x26, x27)) := by simp only [l_markIdxS, hL73, cL]
   rw [hM74]
   exact ⟨rfl, hf40, hf41⟩
theorem c_l_markTable {A1 : Option Addr} {c1 : Nat} {lo1 hi1 : Nat} {A2 : Option Addr} {c2 : Nat} {lo2 hi2 : Nat} {w : World} (p_a : DTable) (p_k : Int) (h1 : OwnL w lo1 hi1 9 1 (RF e_Str) A1 p_a.Cols.length c1 p_a.Cols) (h2 : OwnL w lo2 hi2 88 3 (RF e_Idx) A2 p_a.Idxs.length c2 p_a.Idxs) (hrn3 : (0 ≤ lo1 ∧ lo1 ≤ hi1 ∧ hi1 ≤ w.heap.size)) (hrn4 : (0 ≤ lo2 ∧ lo2 ≤ hi2 ∧ hi2 ≤ w.heap.size)) (hrn5 : (hi1 ≤ lo2 ∨ hi2 ≤ lo1)) (pre0 : p_k ≤ 9223372036854775807) : Cal Tryz.prog 16 #[.agg #[.string (bs (p_a.Name)), .slice A1 p_a.Cols.length c1, .slice A2 p_a.Idxs.length c2], .int .i64 (p_k)] w fun v w' => v = .int .i64 ((l_markTable p_a p_k).1) ∧ OwnL w' lo1 hi1 9 1 (RF e_Str) A1 p_a.Cols.length c1 ((l_markTable p_a p_k).2.Cols) ∧ OwnL w' lo2 hi2 88 3 (RF e_Idx) A2 p_a.Idxs.length c2 ((l_markTable p_a p_k).2.Idxs) ∧ Mut [(lo1, hi1), (lo2, hi2)] w w' := by
 refine Cal.of func16 rfl ntmps16 rfl (cR (sd rfl (yl_box rfl rfl rfl ?_)))
 intro b6 w7 hs8 hz9 hB10 hE11
 refine sA rfl (dn (cR (sd rfl (yl_fieldAddr fd41_1 rfl rfl (sd rfl (yl_load1 ty22 rfl rfl ((hB10.cell 1).trans rfl) (sM rfl (sd rfl (yC en40 rfl (oc rfl (oc rfl oz)) (Cal.mono (c_l_markStringS p_a.Cols p_k (OwnL.ex gS h1 hE11) oM Bo) ?_))))))))))
 rintro v14 w13 ⟨rfl, h16, hm15⟩
 have hm15z := Mut.size hm15
 have hrf17 := rf_markStringS p_a.Cols p_k Bo
 refine sA rfl (dn (cR (sd rfl (yl_fieldAddr fd41_2 rfl rfl (sd rfl (yl_load1 ty39 rfl rfl (((Box.mut hB10 hm15 (fun k hk => by simp only [InR, or_false] at hk; omega)).cell 2).trans rfl) (sM rfl (sd rfl (yC en41 rfl (oc rfl (oc rfl oz)) (Cal.mono (c_l_markIdxS p_a.Idxs ((l_markStringS p_a.Cols p_k).1) (OwnL.mut gI (OwnL.ex gI h2 hE11) hm15 (fun k hk => by simp only [InR, or_false] at hk; omega)) oM Bo) ?_))))))))))
 rintro v22 w21 ⟨rfl, h24, hm23⟩
 have hm23z := Mut.size hm23
 have hrf25 := rf_markIdxS p_a.Idxs ((l_markStringS p_a.Cols p_k).1) Bo
 refine sA rfl (dn (cR (sM rfl (sA rfl (dn ?_)))))
 refine CW.ret (rr rfl (.cons rfl .nil) ?_)
 have hM26 : (l_markTable p_a p_k) = (((l_markIdxS p_a.Idxs ((l_markStringS p_a.Cols p_k).1)).1, (⟨p_a.Name, (l_markStringS p_a.Cols p_k).2, (l_markIdxS p_a.Idxs ((l_markStringS p_a.Cols p_k).1)).2⟩ : DTable))) := by simp only [l_markTable, cL]
 rw [hM26]
 exact ⟨rfl, (OwnL.mut gS h16 hm23 (fun k hk => by simp only [InR, or_false] at hk; omega)), h24, (Mut.mut (Mut.mut (Mut.ex (Mut.refl (l := [(lo1, hi1), (lo2, hi2)]) w) hE11) hm15 (fun k hk => by simp only [InR, or_false] at hk ⊢; omega)) hm23 (fun k hk => by simp only [InR, or_false] at hk ⊢; omega))⟩
theorem c_l_markWriteS {A1 : Option Addr} {c1 : Nat} {lo1 hi1 : Nat} {w : World} (p_a : List DWrite) (p_k : Int) (h1 : OwnL w lo1 hi1 70 3 (RF e_Write) A1 p_a.length c1 p_a) (hrn2 : (0 ≤ lo1 ∧ lo1 ≤ hi1 ∧ hi1 ≤ w.heap.size)) (pre0 : p_k ≤ 9223372036854775807) : Cal Tryz.prog 17 #[.slice A1 p_a.length c1, .int .i64 (p_k)] w fun v w' => v = .int .i64 ((l_markWriteS p_a p_k).1) ∧ OwnL w' lo1 hi1 70 3 (RF e_Write) A1 p_a.length c1 ((l_markWriteS p_a p_k).2) ∧ Mut [(lo1, hi1)] w w' := by
 refine Cal.of func17 rfl ntmps17 rfl (cR (sA rfl (dn (CW.seq (cR ?_)))))
 refine sA rfl (dn (CW.block (CW.loop (fun m31 L32 w33 => ∃ (k3 : Nat) (x29 : Int) (x30 : List DWrite), m31 = p_a.length - k3 ∧ k3 ≤ p_a.length ∧ w.heap.size ≤ w33.heap.size ∧ lkp L32 0 = some (.slice A1 p_a.length c1) ∧ lkp L32 1 = some (.int .i64 (x29)) ∧ lkp L32 5 = some (.int .i64 ((k3 : Int))) ∧ OwnL w33 lo1 hi1 70 3 (RF e_Write) A1 p_a.length c1 x30 ∧ Mut [(lo1, hi1)] w w33 ∧ x29 ≤ 9223372036854775807 ∧ loopM (B_l_markWriteS_0 p_a p_k) (p_a.length - k3) k3 (x29, x30) = loopM (B_l_markWriteS_0 p_a p_k) (p_a.length - 0) 0 (p_k, p_a)) (p_a.length - 0) ?_ ?_)))
 ·exact ⟨0, p_k, p_a, rfl, oM, Nat.le_refl _, rfl, rfl, rfl, h1, (Mut.refl (l := [(lo1, hi1)]) w), Bo, rfl⟩
 ·rintro m34 L35 w36 ⟨k3, x29, x30, rfl, hk37, hsz39, hl40, hl41, hl42, hf43, hf44, hv45, hI38⟩
  refine CW.sub (Sub.cons hl40 (Sub.cons hl41 (Sub.cons hl42 (Sub.nil _)))) ?_
  have hf44z := Mut.size hf44
  have hbg46 := RdS.big (OwnL.rd gW hf43)
  rcases Nat.lt_or_ge k3 p_a.length with hlt48 | hlt48
  ·refine CW.seq (cR (sM rfl (sM rfl (sd rfl (yL un43 rfl rfl (sd rfl (yl_lss rfl rfl rfl (dn ?_))))))))
   refine CW.cond_t rfl (lt_t hlt48) (CW.skip (tn (CW.seq (CW.block (cR (sM rfl (sM rfl ?_)))))))
   refine sM rfl (sd rfl (yC en42 rfl (oc rfl oz) (Cal.mono (c_l_markText x29 Bo) ?_)))
   rintro v50 w49 ⟨rfl, hE51⟩
   have hE51z := Ex.size hE51
   have q53 := OwnL.ex gW hf43 hE51
   obtain ⟨eb54, eo54, _, eA54, _, ebl54, _, eR54, eC54⟩ := RdS.aD (OwnL.rd gW q53) d_Write (i := k3)
   obtain rfl := eR54
   have eC54 : Cells w49 eb54 (eo54 + k3 * 3) [.string (bs ((x30.getD k3 d_Write).Key)), .string (bs ((x30.getD k3 d_Write).Val)), .bool ((x30.getD k3 d_Write).Gone)] := eC54
   refine sd rfl (yl_ixN un43 ty70 rfl rfl rfl eA54 (sd rfl (yl_fieldAddr fd70_0 rfl rfl ?_)))
   have hrg55 := OwnL.rng q53 (i := k3) Bo eb54 (by rw [eA54]; rfl)
   refine SeqR.u rfl rfl (yl_storeF (off := eo54) (i := k3) (d := 0) (dx := d_Write) (x' := (⟨(l_markText x29), (x30.getD k3 d_Write).Val, (x30.getD k3 d_Write).Gone⟩ : DWrite)) (vs := [.string (bs ((l_markText x29)))]) ty9 rfl q53 eA54 rfl rfl rfl rfl rfl Bo (nb rfl) rfl rfl ?_)
   intro w56 hB57 hO58
   have hO58z := hO58.size
   refine dn (cR (sM rfl (sd rfl (yl_add rfl rfl rfl (sA rfl (dn ?_))))))
   refine cR (sM rfl (sM rfl (sM rfl (sd rfl (yC en42 rfl (oc rfl oz) (Cal.mono (c_l_markText (IntKind.wrap .i64 (x29 + 1)) Bo) ?_))))))
   rintro v60 w59 ⟨rfl, hE61⟩
   have hE61z := Ex.size hE61
   have q63 := OwnL.ex gW hB57 hE61
   obtain ⟨eb64, eo64, _, eA64, _, ebl64, _, eR64, eC64⟩ := RdS.aD (OwnL.rd gW q63) d_Write (i := k3)
   obtain rfl := eR64
   rw [getD_set_self (by have hq := OwnL.len q63; simp only [List.length_set] at hq; omega)] at eC64
   have eC64 : Cells w59 eb64 (eo64 + k3 * 3) [.string (bs ((l_markText x29))), .string (bs ((x30.getD k3 d_Write).Val)), .bool ((x30.getD k3 d_Write).Gone)] := eC64
   refine sd rfl (yl_ixN un43 ty70 rfl rfl rfl eA64 (sd rfl (yl_fieldAddr fd70_1 rfl rfl ?_)))
   have hrg65 := OwnL.rng q63 (i := k3) Bo eb64 (by rw [eA64]; rfl)
   refine SeqR.u rfl rfl (yl_storeF (off := eo64) (i := k3) (d := 1) (dx := d_Write) (x' := (⟨(l_markText x29), (l_markText (IntKind.wrap .i64 (x29 + 1))), (x30.getD k3 d_Write).Gone⟩ : DWrite)) (vs := [.string (bs ((l_markText (IntKind.wrap .i64 (x29 + 1)))))]) ty9 rfl q63 eA64 rfl rfl rfl rfl rfl Bo (nb rfl) (by rw [getD_set_self (by have hq := OwnL.len q63; simp only [List.length_set] at hq; omega)]; rfl) rfl ?_)
   intro w66 hB67 hO68
   have hO68z := hO68.size
   rw [List.set_set] at hB67
   refine dn (cR (sM rfl (sd rfl (yl_add rfl rfl rfl (sA rfl (dn ?_))))))
   refine cR (sM rfl (sM rfl (sM rfl (sd rfl (yl_rem rfl rfl rfl (by decide) (sd rfl (yl_eql rfl rfl rfl ?_)))))))
   obtain ⟨eb70, eo70, _, eA70, _, ebl70, _, eR70, eC70⟩ := RdS.aD (OwnL.rd gW hB67) d_Write (i := k3)
   obtain rfl := eR70
   rw [getD_set_self (by have hq := OwnL.len hB67; simp only [List.length_set] at hq; omega)] at eC70
   have eC70 : Cells w66 eb70 (eo70 + k3 * 3) [.string (bs ((l_markText x29))), .string (bs ((l_markText (IntKind.wrap .i64 (x29 + 1))))), .bool ((x30.getD k3 d_Write).Gone)] := eC70
   refine sd rfl (yl_ixN un43 ty70 rfl rfl rfl eA70 (sd rfl (yl_fieldAddr fd70_2 rfl rfl ?_)))
   have hrg71 := OwnL.rng hB67 (i := k3) Bo eb70 (by rw [eA70]; rfl)
   refine SeqR.u rfl rfl (yl_storeF (off := eo70) (i := k3) (d := 2) (dx := d_Write) (x' := (⟨(l_markText x29), (l_markText (IntKind.wrap .i64 (x29 + 1))), decide ((Int.tmod (IntKind.wrap .i64 ((IntKind.wrap .i64 (x29 + 1)) + 1)) 3) = 0)⟩ : DWrite)) (vs := [.bool (decide ((Int.tmod (IntKind.wrap .i64 ((IntKind.wrap .i64 (x29 + 1)) + 1)) 3) = 0))]) ty4 rfl hB67 eA70 rfl rfl rfl rfl rfl Bo (nb rfl) (by rw [getD_set_self (by have hq := OwnL.len hB67; simp only [List.length_set] at hq; omega)]; rfl) rfl ?_)
   intro w72 hB73 hO74
   have hO74z := hO74.size
   rw [List.set_set] at hB73
   refine dn (CW.region (sM rfl (sd rfl (yl_add rfl rfl rfl (sA rfl (SeqR.done (bn (tn ?_))))))))
   refine CW.region (sM rfl (sd rfl (yl_inc rfl rfl rfl oM (sA rfl (dn ?_)))))
   have hB75 : B_l_markWriteS_0 p_a p_k k3 (x29, x30) = .cont (IntKind.wrap .i64 ((IntKind.wrap .i64 ((IntKind.wrap .i64 (x29 + 1)) + 1)) + 1), (x30.set k3 (⟨(l_markText x29), (l_markText (IntKind.wrap .i64 (x29 + 1))), decide ((Int.tmod (IntKind.wrap .i64 ((IntKind.wrap .i64 (x29 + 1)) + 1)) 3) = 0)⟩ : DWrite))) := by simp only [B_l_markWriteS_0, cL]
   exact ⟨p_a.length - (k3 + 1), oM, k3 + 1, IntKind.wrap .i64 ((IntKind.wrap .i64 ((IntKind.wrap .i64 (x29 + 1)) + 1)) + 1), (x30.set k3 (⟨(l_markText x29), (l_markText (IntKind.wrap .i64 (x29 + 1))), decide ((Int.tmod (IntKind.wrap .i64 ((IntKind.wrap .i64 (x29 + 1)) + 1)) 3) = 0)⟩ : DWrite)), rfl, hlt48, oM, rfl, rfl, rfl, hB73, (Mut.only (Mut.only (Mut.ex (Mut.only (Mut.ex hf44 hE51) hO58 (by simp only [InR, or_false]; omega)) hE61) hO68 (by simp only [InR, or_false]; omega)) hO74 (by simp only [InR, or_false]; omega)), Bo, (loopM.cont hlt48 hB75).symm.trans hI38⟩
  ·refine CW.seq (cR (sM rfl (sM rfl (sd rfl (yL un43 rfl rfl (sd rfl (yl_lss rfl rfl rfl (dn ?_))))))))
   refine CW.cond_f rfl (lt_f hlt48) (CW.exit (tx (tx ?_)))
   have hL81 : loopM (B_l_markWriteS_0 p_a p_k) (p_a.length - 0) 0 (p_k, p_a) = .done (x29, x30) := hI38.symm.trans (loopM.stop hlt48)
   refine bx (tn (cR (sM rfl (sA rfl (dn (CW.ret ?_))))))
   refine rr rfl (.cons rfl .nil) ?_
   have hM82 : (l_markWriteS p_a p_k) = ((x29, x30)) := by simp only [l_markWriteS, hL81, cL]
   rw [hM82]
   exact ⟨rfl, hf43, hf44⟩
theorem c_l_markRow {A1 : Option Addr} {c1 : Nat} {lo1 hi1 : Nat} {w : World} (p_a : DRow) (p_k : Int) (h1 : OwnL w lo1 hi1 9 1 (RF e_Str) A1 p_a.Vals.length c1 p_a.Vals) (hrn2 : (0 ≤ lo1 ∧ lo1 ≤ hi1 ∧ hi1 ≤ w.heap.size)) (pre0 : p_k ≤ 9223372036854775807) : Cal Tryz.prog 69 #[.agg #[.slice A1 p_a.Vals.length c1], .int .i64 (p_k)] w fun v w' => v = .int .i64 ((l_markRow p_a p_k).1) ∧ OwnL w' lo1 hi1 9 1 (RF e_Str) A1 p_a.Vals.length c1 ((l_markRow p_a p_k).2.Vals) ∧ Mut [(lo1, hi1)] w w' := by
 refine Cal.of func69 rfl ntmps69 rfl (cR (sd rfl (yl_box rfl rfl rfl ?_)))
 intro b3 w4 hs5 hz6 hB7 hE8
 refine sA rfl (dn (cR (sd rfl (yl_fieldAddr fd45_0 rfl rfl (sd rfl (yl_load1 ty22 rfl rfl ((hB7.cell 0).trans rfl) (sM rfl (sd rfl (yC en40 rfl (oc rfl (oc rfl oz)) (Cal.mono (c_l_markStringS p_a.Vals p_k (OwnL.ex gS h1 hE8) oM Bo) ?_))))))))))
 rintro v11 w10 ⟨rfl, h13, hm12⟩
 have hm12z := Mut.size hm12
 have hrf14 := rf_markStringS p_a.Vals p_k Bo
 refine sA rfl (dn (cR (sM rfl (sA rfl (dn ?_)))))
 refine CW.ret (rr rfl (.cons rfl .nil) ?_)
 have hM15 : (l_markRow p_a p_k) = (((l_markStringS p_a.Vals p_k).1, (⟨(l_markStringS p_a.Vals p_k).2⟩ : DRow))) := by simp only [l_markRow, cL]
 rw [hM15]
 exact ⟨rfl, h13, (Mut.mut (Mut.ex (Mut.refl (l := [(lo1, hi1)]) w) hE8) hm12 (fun k hk => by simp only [InR, or_false] at hk ⊢; omega))⟩
theorem c_l_markRowAct {A1 : Option Addr} {c1 : Nat} {lo1 hi1 : Nat} {A2 : Option Addr} {c2 : Nat} {lo2 hi2 : Nat} {w : World} (p_a : DRowAct) (p_k : Int) (h1 : OwnL w lo1 hi1 9 1 (RF e_Str) A1 p_a.Old.Vals.length c1 p_a.Old.Vals) (h2 : OwnL w lo2 hi2 9 1 (RF e_Str) A2 p_a.New.Vals.length c2 p_a.New.Vals) (hrn3 : (0 ≤ lo1 ∧ lo1 ≤ hi1 ∧ hi1 ≤ w.heap.size)) (hrn4 : (0 ≤ lo2 ∧ lo2 ≤ hi2 ∧ hi2 ≤ w.heap.size)) (hrn5 : (hi1 ≤ lo2 ∨ hi2 ≤ lo1)) (pre0 : p_k ≤ 9223372036854775807) : Cal Tryz.prog 43 #[.agg #[.int .i64 (p_a.Kind), .slice A1 p_a.Old.Vals.length c1, .slice A2 p_a.New.Vals.length c2], .int .i64 (p_k)] w fun v w' => v = .int .i64 ((l_markRowAct p_a p_k).1) ∧ OwnL w' lo1 hi1 9 1 (RF e_Str) A1 p_a.Old.Vals.length c1 ((l_markRowAct p_a p_k).2.Old.Vals) ∧ OwnL w' lo2 hi2 9 1 (RF e_Str) A2 p_a.New.Vals.length c2 ((l_markRowAct p_a p_k).2.New.Vals) ∧ Mut [(lo1, hi1), (lo2, hi2)] w w' := by
 refine Cal.of func43 rfl ntmps43 rfl (cR (sd rfl (yl_box rfl rfl rfl ?_)))
 intro b6 w7 hs8 hz9 hB10 hE11
 refine sA rfl (dn (cR (sd rfl (yl_fieldAddr fd47_1 rfl rfl (sd rfl (yl_loadN ty45 rfl rfl (hB10.cells (n := 1) rfl) rfl (sM rfl (sd rfl (yC en69 rfl (oc rfl (oc rfl oz)) (Cal.mono (c_l_markRow p_a.Old p_k (OwnL.ex gS h1 hE11) oM Bo) ?_))))))))))
 rintro v14 w13 ⟨rfl, h16, hm15⟩
 have hm15z := Mut.size hm15
 have hrf17 := rf_markRow p_a.Old p_k Bo
 refine sA rfl (dn (cR (sd rfl (yl_fieldAddr fd47_2 rfl rfl (sd rfl (yl_loadN ty45 rfl rfl ((Box.mut hB10 hm15 (fun k hk => by simp only [InR, or_false] at hk; omega)).cells (n := 1) rfl) rfl (sM rfl (sd rfl (yC en69 rfl (oc rfl (oc rfl oz)) (Cal.mono (c_l_markRow p_a.New ((l_markRow p_a.Old p_k).1) (OwnL.mut gS (OwnL.ex gS h2 hE11) hm15 (fun k hk => by simp only [InR, or_false] at hk; omega)) oM Bo) ?_))))))))))
 rintro v22 w21 ⟨rfl, h24, hm23⟩
 have hm23z := Mut.size hm23
 have hrf25 := rf_markRow p_a.New ((l_markRow p_a.Old p_k).1) Bo
 refine sA rfl (dn (cR (sM rfl (sA rfl (dn ?_)))))
 refine CW.ret (rr rfl (.cons rfl .nil) ?_)
 have hM26 : (l_markRowAct p_a p_k) = (((l_markRow p_a.New ((l_markRow p_a.Old p_k).1)).1, (⟨p_a.Kind, (l_markRow p_a.Old p_k).2, (l_markRow p_a.New ((l_markRow p_a.Old p_k).1)).2⟩ : DRowAct))) := by simp only [l_markRowAct, cL]
 rw [hM26]
 exact ⟨rfl, (OwnL.mut gS h16 hm23 (fun k hk => by simp only [InR, or_false] at hk; omega)), h24, (Mut.mut (Mut.mut (Mut.ex (Mut.refl (l := [(lo1, hi1), (lo2, hi2)]) w) hE11) hm15 (fun k hk => by simp only [InR, or_false] at hk ⊢; omega)) hm23 (fun k hk => by simp only [InR, or_false] at hk ⊢; omega))⟩
theorem c_l_markStmt {A1 : Option Addr} {c1 : Nat} {lo1 hi1 : Nat} {A2 : Option Addr} {c2 : Nat} {lo2 hi2 : Nat} {w : World} (p_a : DStmt) (p_k : Int) (h1 : OwnL w lo1 hi1 9 1 (RF e_Str) A1 p_a.Act.Old.Vals.length c1 p_a.Act.Old.Vals) (h2 : OwnL w lo2 hi2 9 1 (RF e_Str) A2 p_a.Act.New.Vals.length c2 p_a.Act.New.Vals) (hrn3 : (0 ≤ lo1 ∧ lo1 ≤ hi1 ∧ hi1 ≤ w.heap.size)) (hrn4 : (0 ≤ lo2 ∧ lo2 ≤ hi2 ∧ hi2 ≤ w.heap.size)) (hrn5 : (hi1 ≤ lo2 ∨ hi2 ≤ lo1)) (pre0 : p_k ≤ 9223372036854775807) : Cal Tryz.prog 18 #[.agg #[.int .i64 (p_a.Kind), .int .i64 (p_a.Act.Kind), .slice A1 p_a.Act.Old.Vals.length c1, .slice A2 p_a.Act.New.Vals.length c2, .string (bs (p_a.Idx)), .string (bs (p_a.Low)), .string (bs (p_a.High))], .int .i64 (p_k)] w fun v w' => v = .int .i64 ((l_markStmt p_a p_k).1) ∧ OwnL w' lo1 hi1 9 1 (RF e_Str) A1 p_a.Act.Old.Vals.length c1 ((l_markStmt p_a p_k).2.Act.Old.Vals) ∧ OwnL w' lo2 hi2 9 1 (RF e_Str) A2 p_a.Act.New.Vals.length c2 ((l_markStmt p_a p_k).2.Act.New.Vals) ∧ Mut [(lo1, hi1), (lo2, hi2)] w w' := by
 refine Cal.of func18 rfl ntmps18 rfl (cR (sd rfl (yl_box rfl rfl rfl ?_)))
 intro b6 w7 hs8 hz9 hB10 hE11
 refine sA rfl (dn (cR (sd rfl (yl_fieldAddr fd49_1 rfl rfl (sd rfl (yl_loadN ty47 rfl rfl (hB10.cells (n := 3) rfl) rfl (sM rfl (sd rfl (yC en43 rfl (oc rfl (oc rfl oz)) (Cal.mono (c_l_markRowAct p_a.Act p_k (OwnL.ex gS h1 hE11) (OwnL.ex gS h2 hE11) oM oM oM Bo) ?_))))))))))
 rintro v15 w14 ⟨rfl, h17, h18, hm16⟩
 have hm16z := Mut.size hm16
 have hrf19 := rf_markRowAct p_a.Act p_k Bo
 refine sA rfl (dn (cR (sM rfl (sA rfl (dn ?_)))))
 refine CW.ret (rr rfl (.cons rfl .nil) ?_)
 have hM20 : (l_markStmt p_a p_k) = (((l_markRowAct p_a.Act p_k).1, (⟨p_a.Kind, (⟨p_a.Act.Kind, (l_markRowAct p_a.Act p_k).2.Old, (l_markRowAct p_a.Act p_k).2.New⟩ : DRowAct), p_a.Idx, p_a.Low, p_a.High⟩ : DStmt))) := by simp only [l_markStmt, cL]
 rw [hM20]
 exact ⟨rfl, h17, h18, (Mut.mut (Mut.ex (Mut.refl (l := [(lo1, hi1), (lo2, hi2)]) w) hE11) hm16 (fun k hk => by simp only [InR, or_false] at hk ⊢; omega))⟩
theorem c_l_markRowS {A1 : Option Addr} {c1 : Nat} {lo1 hi1 : Nat} {w : World} (p_a : List DRow) (p_k : Int) (h1 : OwnD w lo1 hi1 45 1 RO_Row A1 p_a.length c1 p_a) (hrn2 : (0 ≤ lo1 ∧ lo1 ≤ hi1 ∧ hi1 ≤ w.heap.size)) (pre0 : p_k ≤ 9223372036854775807) : Cal Tryz.prog 19 #[.slice A1 p_a.length c1, .int .i64 (p_k)] w fun v w' => v = .int .i64 ((l_markRowS p_a p_k).1) ∧ OwnD w' lo1 hi1 45 1 RO_Row A1 p_a.length c1 ((l_markRowS p_a p_k).2) ∧ Mut [(lo1, hi1)] w w' := by
 refine Cal.of func19 rfl ntmps19 rfl (cR (sA rfl (dn (CW.seq (cR ?_)))))
 refine sA rfl (dn (CW.block (CW.loop (fun m15 L16 w17 => ∃ (k3 : Nat) (x13 : Int) (x14 : List DRow), m15 = p_a.length - k3 ∧ k3 ≤ p_a.length ∧ w.heap.size ≤ w17.heap.size ∧ lkp L16 0 = some (.slice A1 p_a.length c1) ∧ lkp L16 1 = some (.int .i64 (x13)) ∧ lkp L16 5 = some (.int .i64 ((k3 : Int))) ∧ OwnD w17 lo1 hi1 45 1 RO_Row A1 p_a.length c1 x14 ∧ Mut [(lo1, hi1)] w w17 ∧ x13 ≤ 9223372036854775807 ∧ loopM (B_l_markRowS_0 p_a p_k) (p_a.length - k3) k3 (x13, x14) = loopM (B_l_markRowS_0 p_a p_k) (p_a.length - 0) 0 (p_k, p_a)) (p_a.length - 0) ?_ ?_)))
 ·exact ⟨0, p_k, p_a, rfl, oM, Nat.le_refl _, rfl, rfl, rfl, h1, (Mut.refl (l := [(lo1, hi1)]) w), Bo, rfl⟩
 ·rintro m18 L19 w20 ⟨k3, x13, x14, rfl, hk21, hsz23, hl24, hl25, hl26, hf27, hf28, hv29, hI22⟩
  refine CW.sub (Sub.cons hl24 (Sub.cons hl25 (Sub.cons hl26 (Sub.nil _)))) ?_
  have hf28z := Mut.size hf28
  have hbg30 := RdS.big (OwnL.rd good_Row (OwnD.own goodO_Row good_Row hf27))
  rcases Nat.lt_or_ge k3 p_a.length with hlt32 | hlt32
  ·refine CW.seq (cR (sM rfl (sM rfl (sd rfl (yL un36 rfl rfl (sd rfl (yl_lss rfl rfl rfl (dn ?_))))))))
   refine CW.cond_t rfl (lt_t hlt32) (CW.skip (tn (CW.seq (CW.block (CW.region (sM rfl (sM rfl ?_)))))))
   obtain ⟨dg33, dl33, dh33, _, dA33, dr33, ds33, dx33, dlh33, ⟨A34, c34, lo34, hi34, rfl, h34, hrn35⟩, dR33⟩ := OwnD.open d_Row (i := k3) hf27 Bo
   refine sd rfl (yl_ixN un36 ty45 rfl rfl rfl dA33 (sd rfl (yl_fieldAddr fd45_0 rfl rfl (sd rfl (yl_load1 ty22 rfl rfl ((OwnR.cells' dA33 dR33) 0 _ rfl) (sM rfl (sd rfl (yC en40 rfl (oc rfl (oc rfl oz)) (Cal.mono (c_l_markStringS ((x14.getD k3 d_Row).Vals) x13 h34 oM Bo) ?_)))))))))
   rintro v37 w36 ⟨rfl, h39, hm38⟩
   have hm38z := Mut.size hm38
   have hrf40 := rf_markStringS ((x14.getD k3 d_Row).Vals) x13 Bo
   refine sA rfl (SeqR.done (bn (tn (CW.region (sM rfl (sd rfl (yl_inc rfl rfl rfl oM (sA rfl (SeqR.done ?_)))))))))
   refine tn ?_
   have hB41 : B_l_markRowS_0 p_a p_k k3 (x13, x14) = .cont ((l_markStringS ((x14.getD k3 d_Row).Vals) x13).1, (x14.set k3 (⟨(l_markStringS ((x14.getD k3 d_Row).Vals) x13).2⟩ : DRow))) := by simp only [B_l_markRowS_0, cL]
   exact ⟨p_a.length - (k3 + 1), oM, k3 + 1, (l_markStringS ((x14.getD k3 d_Row).Vals) x13).1, (x14.set k3 (⟨(l_markStringS ((x14.getD k3 d_Row).Vals) x13).2⟩ : DRow)), rfl, hlt32, oM, rfl, rfl, rfl, (OwnR.close (OwnR.mut goodO_Row dR33 hm38 (fun k hk => by simp only [InR, or_false] at hk; omega)) (mkO_Row (l := dl33) (h := dh33) h39 oM)), (Mut.mut hf28 hm38 (fun k hk => by simp only [InR, or_false] at hk ⊢; omega)), Bo, (loopM.cont hlt32 hB41).symm.trans hI22⟩
  ·refine CW.seq (cR (sM rfl (sM rfl (sd rfl (yL un36 rfl rfl (sd rfl (yl_lss rfl rfl rfl (dn ?_))))))))
   refine CW.cond_f rfl (lt_f hlt32) (CW.exit (tx (tx ?_)))
   have hL44 : loopM (B_l_markRowS_0 p_a p_k) (p_a.length - 0) 0 (p_k, p_a) = .done (x13, x14) := hI22.symm.trans (loopM.stop hlt32)
   refine bx (tn (cR (sM rfl (sA rfl (dn (CW.ret ?_))))))
   refine rr rfl (.cons rfl .nil) ?_
   have hM45 : (l_markRowS p_a p_k) = ((x13, x14)) := by simp only [l_markRowS, hL44, cL]
   rw [hM45]
   exact ⟨rfl, hf27, hf28⟩
theorem c_l_heldStringS {A1 : Option Addr} {c1 : Nat} {w : World} (p_a : List Str) (p_k : Int) (h1 : RdS w (Iv 0 w.heap.size) (RF e_Str) 1 A1 p_a.length c1 p_a) (pre0 : p_k ≤ 9223372036854775807) : Cal Tryz.prog 44 #[.slice A1 p_a.length c1, .int .i64 (p_k)] w fun v w' => v = .int .i64 ((l_heldStringS p_a p_k)) ∧ Ex w w' := by
 refine Cal.of func44 rfl ntmps44 rfl (cR (sA rfl (dn (CW.seq (cR ?_)))))
 refine sA rfl (dn (CW.block (CW.loop (fun m4 L5 w6 => ∃ (k2 : Nat) (x3 : Int), m4 = p_a.length - k2 ∧ k2 ≤ p_a.length ∧ w.heap.size ≤ w6.heap.size ∧ lkp L5 0 = some (.slice A1 p_a.length c1) ∧ lkp L5 1 = some (.int .i64 (x3)) ∧ lkp L5 5 = some (.int .i64 ((k2 : Int))) ∧ RdS w6 (Iv 0 w.heap.size) (RF e_Str) 1 A1 p_a.length c1 p_a ∧ Ex w w6 ∧ x3 ≤ 9223372036854775807 ∧ loopM (B_l_heldStringS_0 p_a p_k) (p_a.length - k2) k2 (x3) = loopM (B_l_heldStringS_0 p_a p_k) (p_a.length - 0) 0 (p_k)) (p_a.length - 0) ?_ ?_)))
 ·exact ⟨0, p_k, rfl, oM, Nat.le_refl _, rfl, rfl, rfl, h1, (Ex.refl w), Bo, rfl⟩
 ·rintro m7 L8 w9 ⟨k2, x3, rfl, hk10, hsz12, hl13, hl14, hl15, hf16, hf17, hv18, hI11⟩
  refine CW.sub (Sub.cons hl13 (Sub.cons hl14 (Sub.cons hl15 (Sub.nil _)))) ?_
  have hf17z := Ex.size hf17
  have hbg19 := RdS.big hf16
  rcases Nat.lt_or_ge k2 p_a.length with hlt20 | hlt20
  ·refine CW.seq (cR (sM rfl (sM rfl (sd rfl (yL un22 rfl rfl (sd rfl (yl_lss rfl rfl rfl (dn ?_))))))))
   refine CW.cond_t rfl (lt_t hlt20) (CW.skip (tn (CW.seq (CW.block (CW.seq (CW.seq ?_))))))
   obtain ⟨eb21, eo21, _, eA21, _, ebl21, _, eR21, eC21⟩ := RdS.aD hf16 d_Str (i := k2)
   obtain rfl := eR21
   have eC21 : Cells w9 eb21 (eo21 + k2 * 1) [.string (bs ((p_a.getD k2 d_Str)))] := eC21
   refine drI 7 [.slice A1 p_a.length c1, .int .i64 ((k2 : Int)), .pointer (some ⟨eb21, eo21 + k2 * 1, none⟩), .string (bs ((p_a.getD k2 d_Str))), .int .i64 (x3), .string (bs ((l_markText x3))), .bool (!((p_a.getD k2 d_Str) == (l_markText x3)))] Tryz.follows rfl ⟨?_, ?_, ?_, ?_, ?_, ?_, ?_, trivial⟩ ?_
   ·exact oI rfl fun h => yM rfl (h.old 0 _ rfl rfl) kI
   ·exact oI rfl fun h => yM rfl (h.old 5 _ rfl rfl) kI
   ·intro L33 w34 hi35
    have hE36 := hi35.ex
    have hE36z := Ex.size hE36
    exact os rfl ((yl_ixN un22 ty9 rfl (hi35.dt 0 12 rfl rfl rfl) (hi35.dt 1 13 rfl rfl rfl) eA21 kI))
   ·exact oI rfl fun h => yl_load1 ty9 rfl (h.dt 2 14 rfl rfl rfl) ((Cells.ex eC21 h.ex) 0 _ rfl) kI
   ·exact oI rfl fun h => yM rfl (h.old 1 _ rfl rfl) kI
   ·intro L50 w51 hi52
    have hE53 := hi52.ex
    have hE53z := Ex.size hE53
    exact OpR.op' rfl (yC en42 rfl (oc (hi52.dt 4 16 rfl rfl rfl) oz) (Cal.mono (c_l_markText x3 Bo) fun _ _ h => h))
   ·exact oI rfl fun h => yl_sneq (a := (p_a.getD k2 d_Str)) (b := (l_markText x3)) rfl (h.dt 3 15 rfl rfl rfl) (h.dt 5 17 rfl rfl rfl) kI
   ·intro fl67 fh68 L64 w65 hp66
    have hE69 := hp66.ex
    have hE69z := Ex.size hE69
    refine dn (CW.sub (sC 0 (hp66.old 0 _ rfl rfl) (sC 1 (hp66.old 1 _ rfl rfl) (sC 5 (hp66.old 5 _ rfl rfl) (sC 18 (hp66.nt 6 18 rfl rfl rfl) (Sub.nil _))))) (bcase ((p_a.getD k2 d_Str) == (l_markText x3)) (fun hb74 => ?_) (fun hb74 => ?_)))
    ·refine CW.cond_f rfl (not_t hb74) (CW.skip (tn (CW.region (sM rfl (sd rfl (yl_add rfl rfl rfl (sA rfl (SeqR.done (bn ?_)))))))))
     refine tn (CW.region (sM rfl (sd rfl (yl_inc rfl rfl rfl oM (sA rfl (dn ?_))))))
     have hB75 : B_l_heldStringS_0 p_a p_k k2 (x3) = .cont (IntKind.wrap .i64 (x3 + 1)) := by simp only [B_l_heldStringS_0, hb74, cL]
     exact ⟨p_a.length - (k2 + 1), oM, k2 + 1, IntKind.wrap .i64 (x3 + 1), rfl, hlt20, oM, rfl, rfl, rfl, (RdS.ex gS hf16 hE69), (Ex.trans hf17 hE69), Bo, (loopM.cont hlt20 hB75).symm.trans hI11⟩
    ·refine CW.cond_t rfl (not_f hb74) (cR (sA rfl (dn (CW.ret (tr (br ?_))))))
     refine tr (tr ?_)
     have hB79 : B_l_heldStringS_0 p_a p_k k2 (x3) = .ret (-1) := by simp only [B_l_heldStringS_0, hb74, cL]
     have hL78 : loopM (B_l_heldStringS_0 p_a p_k) (p_a.length - 0) 0 (p_k) = .ret (-1) := hI11.symm.trans (loopM.ret hlt20 hB79)
     refine br (tr (rr rfl (.cons rfl .nil) ?_))
     have hM80 : (l_heldStringS p_a p_k) = (-1) := by simp only [l_heldStringS, hb74, hL78, cL]
     rw [hM80]
     exact ⟨rfl, (Ex.trans hf17 hE69)⟩
  ·refine CW.seq (cR (sM rfl (sM rfl (sd rfl (yL un22 rfl rfl (sd rfl (yl_lss rfl rfl rfl (dn ?_))))))))
   refine CW.cond_f rfl (lt_f hlt20) (CW.exit (tx (tx ?_)))
   have hL82 : loopM (B_l_heldStringS_0 p_a p_k) (p_a.length - 0) 0 (p_k) = .done (x3) := hI11.symm.trans (loopM.stop hlt20)
   refine bx (tn (cR (sM rfl (sA rfl (dn (CW.ret ?_))))))
   refine rr rfl (.cons rfl .nil) ?_
   have hM83 : (l_heldStringS p_a p_k) = (x3) := by simp only [l_heldStringS, hL82, cL]
   rw [hM83]
   exact ⟨rfl, hf17⟩
theorem c_l_heldRowS {A1 : Option Addr} {c1 : Nat} {w : World} (p_a : List DRow) (p_k : Int) (h1 : RdS w (Iv 0 w.heap.size) R_Row 1 A1 p_a.length c1 p_a) (pre0 : p_k ≤ 9223372036854775807) : Cal Tryz.prog 20 #[.slice A1 p_a.length c1, .int .i64 (p_k)] w fun v w' => v = .int .i64 ((l_heldRowS p_a p_k)) ∧ Ex w w' := by
 refine Cal.of func20 rfl ntmps20 rfl (cR (sA rfl (dn (CW.seq (cR ?_)))))
 refine sA rfl (dn (CW.block (CW.loop (fun m4 L5 w6 => ∃ (k2 : Nat) (x3 : Int), m4 = p_a.length - k2 ∧ k2 ≤ p_a.length ∧ w.heap.size ≤ w6.heap.size ∧ lkp L5 0 = some (.slice A1 p_a.length c1) ∧ lkp L5 1 = some (.int .i64 (x3)) ∧ lkp L5 5 = some (.int .i64 ((k2 : Int))) ∧ RdS w6 (Iv 0 w.heap.size) R_Row 1 A1 p_a.length c1 p_a ∧ Ex w w6 ∧ x3 ≤ 9223372036854775807 ∧ loopM (B_l_heldRowS_0 p_a p_k) (p_a.length - k2) k2 (x3) = loopM (B_l_heldRowS_0 p_a p_k) (p_a.length - 0) 0 (p_k)) (p_a.length - 0) ?_ ?_)))
 ·exact ⟨0, p_k, rfl, oM, Nat.le_refl _, rfl, rfl, rfl, h1, (Ex.refl w), Bo, rfl⟩
 ·rintro m7 L8 w9 ⟨k2, x3, rfl, hk10, hsz12, hl13, hl14, hl15, hf16, hf17, hv18, hI11⟩
  refine CW.sub (Sub.cons hl13 (Sub.cons hl14 (Sub.cons hl15 (Sub.nil _)))) ?_
  have hf17z := Ex.size hf17
  have hbg19 := RdS.big hf16
  rcases Nat.lt_or_ge k2 p_a.length with hlt20 | hlt20
  ·refine CW.seq (cR (sM rfl (sM rfl (sd rfl (yL un36 rfl rfl (sd rfl (yl_lss rfl rfl rfl (dn ?_))))))))
   refine CW.cond_t rfl (lt_t hlt20) (CW.skip (tn (CW.seq (CW.block (cR (sM rfl (sM rfl ?_)))))))
   obtain ⟨_, _, _, eA21, _, ebl21, _, eR21, eC21⟩ := RdS.aD hf16 d_Row (i := k2)
   obtain ⟨A22, c22, rfl, h22⟩ := eR21
   refine sd rfl (yl_ixN un36 ty45 rfl rfl rfl eA21 (sd rfl (yl_fieldAddr fd45_0 rfl rfl (sd rfl (yl_load1 ty22 rfl rfl (eC21 0 _ rfl) (sM rfl (sd rfl (yC en44 rfl (oc rfl (oc rfl oz)) (Cal.mono (c_l_heldStringS ((p_a.getD k2 d_Row).Vals) x3 (RdS.up h22 gS) Bo) ?_)))))))))
   rintro v24 w23 ⟨rfl, hE25⟩
   have hE25z := Ex.size hE25
   have hrf26 := rf_heldStringS ((p_a.getD k2 d_Row).Vals) x3 Bo
   refine sA rfl (dn (cR (sM rfl (sd rfl (yl_lss rfl rfl rfl (dn ?_))))))
   refine bcase (decide ((l_heldStringS ((p_a.getD k2 d_Row).Vals) x3) < 0)) (fun hb27 => ?_) (fun hb27 => ?_)
   ·have hb27p := dec_t hb27
    refine CW.cond_t rfl hb27 (cR (sA rfl (dn (CW.ret (br (tr ?_))))))
    refine tr ?_
    have hB29 : B_l_heldRowS_0 p_a p_k k2 (x3) = .ret (-1) := by simp only [B_l_heldRowS_0, hb27, cL]
    have hL28 : loopM (B_l_heldRowS_0 p_a p_k) (p_a.length - 0) 0 (p_k) = .ret (-1) := hI11.symm.trans (loopM.ret hlt20 hB29)
    refine br (tr (rr rfl (.cons rfl .nil) ?_))
    have hM30 : (l_heldRowS p_a p_k) = (-1) := by simp only [l_heldRowS, hb27, hL28, cL]
    rw [hM30]
    exact ⟨rfl, (Ex.trans hf17 hE25)⟩
   ·have hb27p := dec_f hb27
    refine CW.cond_f rfl hb27 (CW.skip (bn (tn (CW.region (sM rfl (sd rfl (yl_inc rfl rfl rfl oM (sA rfl (SeqR.done ?_)))))))))
    refine tn ?_
    have hB32 : B_l_heldRowS_0 p_a p_k k2 (x3) = .cont ((l_heldStringS ((p_a.getD k2 d_Row).Vals) x3)) := by simp only [B_l_heldRowS_0, hb27, cL]
    exact ⟨p_a.length - (k2 + 1), oM, k2 + 1, (l_heldStringS ((p_a.getD k2 d_Row).Vals) x3), rfl, hlt20, oM, rfl, rfl, rfl, (RdS.ex good_Row hf16 hE25), (Ex.trans hf17 hE25), Bo, (loopM.cont hlt20 hB32).symm.trans hI11⟩
  ·refine CW.seq (cR (sM rfl (sM rfl (sd rfl (yL un36 rfl rfl (sd rfl (yl_lss rfl rfl rfl (dn ?_))))))))
   refine CW.cond_f rfl (lt_f hlt20) (CW.exit (tx (tx ?_)))
   have hL35 : loopM (B_l_heldRowS_0 p_a p_k) (p_a.length - 0) 0 (p_k) = .done (x3) := hI11.symm.trans (loopM.stop hlt20)
   refine bx (tn (cR (sM rfl (sA rfl (dn (CW.ret ?_))))))
   refine rr rfl (.cons rfl .nil) ?_
   have hM36 : (l_heldRowS p_a p_k) = (x3) := by simp only [l_heldRowS, hL35, cL]
   rw [hM36]
   exact ⟨rfl, hf17⟩
theorem c_l_FnExactAskStore {A1 : Option Addr} {c1 : Nat} {A2 : Option Addr} {c2 : Nat} {A3 : Option Addr} {c3 : Nat} {A4 : Option Addr} {c4 : Nat} {A5 : Option Addr} {c5 : Nat} {w : World} (p_0 : DTable) (p_1 : List DWrite) (p_2 : DStmt) (h1 : RdS w (Iv 0 w.heap.size) (RF e_Str) 1 A1 p_0.Cols.length c1 p_0.Cols) (h2 : RdS w (Iv 0 w.heap.size) (RF e_Idx) 3 A2 p_0.Idxs.length c2 p_0.Idxs) (h3 : RdS w (Iv 0 w.heap.size) (RF e_Write) 3 A3 p_1.length c3 p_1) (h4 : RdS w (Iv 0 w.heap.size) (RF e_Str) 1 A4 p_2.Act.Old.Vals.length c4 p_2.Act.Old.Vals) (h5 : RdS w (Iv 0 w.heap.size) (RF e_Str) 1 A5 p_2.Act.New.Vals.length c5 p_2.Act.New.Vals) (pre0 : wf_Table p_0) (pre1 : (wfL wf_Write) p_1) (pre2 : wf_Stmt p_2) : Cal Tryz.prog 3 #[.agg #[.string (bs (p_0.Name)), .slice A1 p_0.Cols.length c1, .slice A2 p_0.Idxs.length c2], .slice A3 p_1.length c3, .agg #[.int .i64 (p_2.Kind), .int .i64 (p_2.Act.Kind), .slice A4 p_2.Act.Old.Vals.length c4, .slice A5 p_2.Act.New.Vals.length c5, .string (bs (p_2.Idx)), .string (bs (p_2.Low)), .string (bs (p_2.High))]] w fun v w' => v = .bool ((l_FnExactAskStore p_0 p_1 p_2)) ∧ Ex w w' := by
 refine Cal.of func3 rfl ntmps3 rfl (cR (sd rfl (yl_box rfl rfl rfl ?_)))
 intro b6 w7 hs8 hz9 hB10 hE11
 refine sd rfl (yl_box rfl rfl rfl ?_)
 intro b12 w13 hs14 hz15 hB16 hE17
 refine sA rfl (dn (cR (sA rfl (dn (CW.seq ?_)))))
 refine CW.region ?_
 have q18 := Box.ex hB10 hE17
 refine sd rfl (yl_loadN ty25 rfl rfl (q18.cells (n := 3) rfl) rfl (sM rfl ?_))
 have q20 := RdS.ex gS (RdS.ex gS h1 hE11) hE17
 have q22 := RdS.ex gI (RdS.ex gI h2 hE11) hE17
 refine sd rfl (yC en4 rfl (oc rfl (oc rfl oz)) (Cal.mono (c_l_szTable p_0 1048576 (RdS.up q20 gS) (RdS.up q22 gI)) ?_))
 rintro v24 w23 ⟨rfl, hE25⟩
 have hE25z := Ex.size hE25
 refine sA rfl (dn (CW.seq (cR (sM rfl (sd rfl (yl_lss rfl rfl rfl (SeqR.done ?_)))))))
 refine tn (bcase (decide ((l_szTable p_0 1048576) < 0)) (fun hb26 => ?_) (fun hb26 => ?_))
 ·have hb26p := dec_t hb26
  refine CW.cond_t rfl hb26 (cR (sA rfl (dn (CW.ret (tr (rr rfl (.cons rfl .nil) ?_))))))
  have hM27 : (l_FnExactAskStore p_0 p_1 p_2) = (true) := by simp only [l_FnExactAskStore, hb26, cL]
  rw [hM27]
  exact ⟨rfl, (Ex.trans (Ex.trans (Ex.trans (Ex.refl w) hE11) hE17) hE25)⟩
 ·have hb26p := dec_f hb26
  refine CW.cond_f rfl hb26 (CW.skip (tn (cR (sM rfl (sM rfl ?_)))))
  have q33 := RdS.ex gW (RdS.ex gW (RdS.ex gW h3 hE11) hE17) hE25
  refine sd rfl (yC en5 rfl (oc rfl (oc rfl oz)) (Cal.mono (c_l_szWriteS p_1 (l_szTable p_0 1048576) (RdS.up q33 gW)) ?_))
  rintro v35 w34 ⟨rfl, hE36⟩
  have hE36z := Ex.size hE36
  refine sA rfl (dn (CW.seq (cR (sM rfl (sd rfl (yl_lss rfl rfl rfl (SeqR.done ?_)))))))
  refine tn (bcase (decide ((l_szWriteS p_1 (l_szTable p_0 1048576)) < 0)) (fun hb37 => ?_) (fun hb37 => ?_))
  ·have hb37p := dec_t hb37
   refine CW.cond_t rfl hb37 (cR (sA rfl (dn (CW.ret (tr (rr rfl (.cons rfl .nil) ?_))))))
   have hM38 : (l_FnExactAskStore p_0 p_1 p_2) = (true) := by simp only [l_FnExactAskStore, hb26, hb37, cL]
   rw [hM38]
   exact ⟨rfl, (Ex.trans (Ex.trans (Ex.trans (Ex.trans (Ex.refl w) hE11) hE17) hE25) hE36)⟩
  ·have hb37p := dec_f hb37
   refine CW.cond_f rfl hb37 (CW.skip (tn (cR ?_)))
   have q44 := Box.ex (Box.ex hB16 hE25) hE36
   refine sd rfl (yl_loadN ty32 rfl rfl (q44.cells (n := 7) rfl) rfl (sM rfl ?_))
   have q48 := RdS.ex gS (RdS.ex gS (RdS.ex gS (RdS.ex gS h4 hE11) hE17) hE25) hE36
   have q52 := RdS.ex gS (RdS.ex gS (RdS.ex gS (RdS.ex gS h5 hE11) hE17) hE25) hE36
   refine sd rfl (yC en6 rfl (oc rfl (oc rfl oz)) (Cal.mono (c_l_szStmt p_2 (l_szWriteS p_1 (l_szTable p_0 1048576)) (RdS.up q48 gS) (RdS.up q52 gS)) ?_))
   rintro v54 w53 ⟨rfl, hE55⟩
   have hE55z := Ex.size hE55
   refine sA rfl (dn (CW.seq (cR (sM rfl (sd rfl (yl_lss rfl rfl rfl (SeqR.done ?_)))))))
   refine tn (bcase (decide ((l_szStmt p_2 (l_szWriteS p_1 (l_szTable p_0 1048576))) < 0)) (fun hb56 => ?_) (fun hb56 => ?_))
   ·have hb56p := dec_t hb56
    refine CW.cond_t rfl hb56 (cR (sA rfl (dn (CW.ret (tr (rr rfl (.cons rfl .nil) ?_))))))
    have hM57 : (l_FnExactAskStore p_0 p_1 p_2) = (true) := by simp only [l_FnExactAskStore, hb26, hb37, hb56, cL]
    rw [hM57]
    exact ⟨rfl, (Ex.trans (Ex.trans (Ex.trans (Ex.trans (Ex.trans (Ex.refl w) hE11) hE17) hE25) hE36) hE55)⟩
   ·have hb56p := dec_f hb56
    refine CW.cond_f rfl hb56 (CW.skip (tn (CW.seq ?_)))
    have q65 := Box.ex (Box.ex (Box.ex q18 hE25) hE36) hE55
    have q68 := RdS.ex gS (RdS.ex gS (RdS.ex gS q20 hE25) hE36) hE55
    have q71 := RdS.ex gI (RdS.ex gI (RdS.ex gI q22 hE25) hE36) hE55
    have q76 := RdS.ex gW (RdS.ex gW q33 hE36) hE55
    have q79 := Box.ex q44 hE55
    have q80 := RdS.ex gS q48 hE55
    have q81 := RdS.ex gS q52 hE55
    refine CW.drawsI 12 (vgetI [DetI (.agg #[.string (bs (p_0.Name)), .slice A1 p_0.Cols.length c1, .slice A2 p_0.Idxs.length c2]), fun lo hi v wq => ∃ A73 c73 lo73 hi73 A74 c74 lo74 hi74, v = .agg #[.string (bs (p_0.Name)), .slice A73 p_0.Cols.length c73, .slice A74 p_0.Idxs.length c74] ∧ OwnL wq lo73 hi73 9 1 (RF e_Str) A73 p_0.Cols.length c73 p_0.Cols ∧ OwnL wq lo74 hi74 88 3 (RF e_Idx) A74 p_0.Idxs.length c74 p_0.Idxs ∧ (lo ≤ lo73 ∧ lo73 ≤ hi73 ∧ hi73 ≤ hi) ∧ (lo ≤ lo74 ∧ lo74 ≤ hi74 ∧ hi74 ≤ hi) ∧ (hi73 ≤ lo74 ∨ hi74 ≤ lo73), DetI (.slice A3 p_1.length c3), fun lo hi v wq => ∃ A78 c78 lo78 hi78, v = .slice A78 p_1.length c78 ∧ OwnL wq lo78 hi78 70 3 (RF e_Write) A78 p_1.length c78 p_1 ∧ (lo ≤ lo78 ∧ lo78 ≤ hi78 ∧ hi78 ≤ hi), DetI (.agg #[.int .i64 (p_2.Kind), .int .i64 (p_2.Act.Kind), .slice A4 p_2.Act.Old.Vals.length c4, .slice A5 p_2.Act.New.Vals.length c5, .string (bs (p_2.Idx)), .string (bs (p_2.Low)), .string (bs (p_2.High))]), fun lo hi v wq => ∃ A83 c83 lo83 hi83 A84 c84 lo84 hi84, v = .agg #[.int .i64 (p_2.Kind), .int .i64 (p_2.Act.Kind), .slice A83 p_2.Act.Old.Vals.length c83, .slice A84 p_2.Act.New.Vals.length c84, .string (bs (p_2.Idx)), .string (bs (p_2.Low)), .string (bs (p_2.High))] ∧ OwnL wq lo83 hi83 9 1 (RF e_Str) A83 p_2.Act.Old.Vals.length c83 p_2.Act.Old.Vals ∧ OwnL wq lo84 hi84 9 1 (RF e_Str) A84 p_2.Act.New.Vals.length c84 p_2.Act.New.Vals ∧ (lo ≤ lo83 ∧ lo83 ≤ hi83 ∧ hi83 ≤ hi) ∧ (lo ≤ lo84 ∧ lo84 ≤ hi84 ∧ hi84 ≤ hi) ∧ (hi83 ≤ lo84 ∨ hi84 ≤ lo83), fun lo hi v wq => ∃ A86 c86 lo86 hi86, v = .tuple #[.slice A86 (((s_AskStore p_0 p_1 p_2).1).length) c86, .bool ((s_AskStore p_0 p_1 p_2).2)] ∧ OwnL wq lo86 hi86 45 1 R_Row A86 (((s_AskStore p_0 p_1 p_2).1).length) c86 ((s_AskStore p_0 p_1 p_2).1) ∧ (okL ok_Row) ((s_AskStore p_0 p_1 p_2).1) ∧ (lo ≤ lo86 ∧ lo86 ≤ hi86 ∧ hi86 ≤ hi), fun lo hi v wq => ∃ A86 c86, v = .tuple #[.slice A86 (((s_AskStore p_0 p_1 p_2).1).length) c86, .bool ((s_AskStore p_0 p_1 p_2).2)] ∧ RdS wq (Ge w53.heap.size) R_Row 1 A86 ((s_AskStore p_0 p_1 p_2).1).length c86 ((s_AskStore p_0 p_1 p_2).1), fun lo hi v wq => ∃ A86 c86, v = .slice A86 (((s_AskStore p_0 p_1 p_2).1).length) c86 ∧ RdS wq (Ge w53.heap.size) R_Row 1 A86 ((s_AskStore p_0 p_1 p_2).1).length c86 ((s_AskStore p_0 p_1 p_2).1), DetI (.bool ((s_AskStore p_0 p_1 p_2).2)), fun lo hi v wq => ∃ A86 c86, v = .slice A86 (((s_AskStore p_0 p_1 p_2).1).length) c86 ∧ RdS wq (Ge w53.heap.size) R_Row 1 A86 ((s_AskStore p_0 p_1 p_2).1).length c86 ((s_AskStore p_0 p_1 p_2).1), DetI (.bool ((s_AskStore p_0 p_1 p_2).2))]) Tryz.follows rfl rfl rfl rfl rfl rfl (vgetI_stable ⟨StableI.det _, (fun _ _ _ _ _ ⟨A73, c73, lo73, hi73, A74, c74, lo74, hi74, hv, h73, h74, hr0, hr1, hr2⟩ e => ⟨A73, c73, lo73, hi73, A74, c74, lo74, hi74, hv, OwnL.ex gS h73 e, OwnL.ex gI h74 e, hr0, hr1, hr2⟩), StableI.det _, (fun _ _ _ _ _ ⟨A78, c78, lo78, hi78, hv, h78, hr0⟩ e => ⟨A78, c78, lo78, hi78, hv, OwnL.ex gW h78 e, hr0⟩), StableI.det _, (fun _ _ _ _ _ ⟨A83, c83, lo83, hi83, A84, c84, lo84, hi84, hv, h83, h84, hr0, hr1, hr2⟩ e => ⟨A83, c83, lo83, hi83, A84, c84, lo84, hi84, hv, OwnL.ex gS h83 e, OwnL.ex gS h84 e, hr0, hr1, hr2⟩), (fun _ _ _ _ _ ⟨A86, c86, lo86, hi86, hv, h86, ho87, hr0⟩ e => ⟨A86, c86, lo86, hi86, hv, OwnL.ex good_Row h86 e, ho87, hr0⟩), (fun _ _ _ _ _ ⟨A86, c86, hv, h88⟩ e => ⟨A86, c86, hv, RdS.ex good_Row h88 e⟩), (fun _ _ _ _ _ ⟨A86, c86, hv, h89⟩ e => ⟨A86, c86, hv, RdS.ex good_Row h89 e⟩), StableI.det _, (fun _ _ _ _ _ ⟨A86, c86, hv, h90⟩ e => ⟨A86, c86, hv, RdS.ex good_Row h90 e⟩), StableI.det _, trivial⟩) ⟨?_, ?_, ?_, ?_, ?_, ?_, ?_, ?_, ?_, ?_, ?_, ?_, trivial⟩ ?_
    ·exact oI rfl fun h => yl_loadN ty25 rfl (h.old 3 _ rfl rfl) ((Box.ex q65 h.ex).cells (n := 3) rfl) rfl kI
    ·intro L97 w98 hi99
     have hE100 := hi99.ex
     refine OpR.op' rfl (yC en8 rfl (oc (hi99.dt 0 36 rfl rfl rfl) oz) (Cal.mono (c_l_toTable p_0 (RdS.up (RdS.ex gS q68 hE100) gS) (RdS.up (RdS.ex gI q71 hE100) gI) ((szok_Table pre0 (by decide) (dec_f hb26)).1)) ?_))
     rintro v107 w104 ⟨A105, c105, lo105, hi105, A106, c106, lo106, hi106, rfl, h105, h106, hrn109, hrn110, hrn111, hE108⟩
     exact ⟨⟨A105, c105, lo105, hi105, A106, c106, lo106, hi106, rfl, h105, h106, hrn109, hrn110, hrn111⟩, hE108⟩
    ·exact oI rfl fun h => yM rfl (h.old 1 _ rfl rfl) kI
    ·intro L117 w118 hi119
     have hE120 := hi119.ex
     refine OpR.op' rfl (yC en9 rfl (oc (hi119.dt 2 38 rfl rfl rfl) oz) (Cal.mono (c_l_toWriteS p_1 (RdS.up (RdS.ex gW q76 hE120) gW) ((szok_WriteS pre1 (szok_Table pre0 (by decide) (dec_f hb26)).2 (dec_f hb37)).1)) ?_))
     rintro v125 w123 ⟨A124, c124, lo124, hi124, rfl, h124, hrn127, hE126⟩
     exact ⟨⟨A124, c124, lo124, hi124, rfl, h124, hrn127⟩, hE126⟩
    ·exact oI rfl fun h => yl_loadN ty32 rfl (h.old 5 _ rfl rfl) ((Box.ex q79 h.ex).cells (n := 7) rfl) rfl kI
    ·intro L134 w135 hi136
     have hE137 := hi136.ex
     refine OpR.op' rfl (yC en10 rfl (oc (hi136.dt 4 40 rfl rfl rfl) oz) (Cal.mono (c_l_toStmt p_2 (RdS.up (RdS.ex gS q80 hE137) gS) (RdS.up (RdS.ex gS q81 hE137) gS) ((szok_Stmt pre2 (szok_WriteS pre1 (szok_Table pre0 (by decide) (dec_f hb26)).2 (dec_f hb37)).2 (dec_f hb56)).1)) ?_))
     rintro v144 w141 ⟨A142, c142, lo142, hi142, A143, c143, lo143, hi143, rfl, h142, h143, hrn146, hrn147, hrn148, hE145⟩
     exact ⟨⟨A142, c142, lo142, hi142, A143, c143, lo143, hi143, rfl, h142, h143, hrn146, hrn147, hrn148⟩, hE145⟩
    ·intro L149 w150 hi151
     obtain ⟨lo154, hh155, _, hx153, hr156, hr157, hr158, A73_159, c73_160, lo73_161, hi73_162, A74_163, c74_164, lo74_165, hi74_166, rfl, h167, h168, hrn169, hrn170, hrn171⟩ := hi151.dep 1 37 rfl rfl
     obtain ⟨lo173, hh174, _, hx172, hr175, hr176, hr177, A78_178, c78_179, lo78_180, hi78_181, rfl, h182, hrn183⟩ := hi151.dep 3 39 rfl rfl
     obtain ⟨lo185, hh186, _, hx184, hr187, hr188, hr189, A83_190, c83_191, lo83_192, hi83_193, A84_194, c84_195, lo84_196, hi84_197, rfl, h198, h199, hrn200, hrn201, hrn202⟩ := hi151.dep 5 41 rfl rfl
     refine OpR.op' rfl (yC en7 rfl (oc hx153 (oc hx172 (oc hx184 oz))) (Cal.mono (c_s_AskStore p_0 p_1 p_2 (RdS.up (OwnL.rd gS h167) gS) (RdS.up (OwnL.rd gI h168) gI) (RdS.up (OwnL.rd gW h182) gW) (RdS.up (OwnL.rd gS h198) gS) (RdS.up (OwnL.rd gS h199) gS) ((szok_Table pre0 (by decide) (dec_f hb26)).1) ((szok_WriteS pre1 (szok_Table pre0 (by decide) (dec_f hb26)).2 (dec_f hb37)).1) ((szok_Stmt pre2 (szok_WriteS pre1 (szok_Table pre0 (by decide) (dec_f hb26)).2 (dec_f hb37)).2 (dec_f hb56)).1)) ?_))
     rintro v211 w208 ⟨A209, c209, lo209, hi209, rfl, h209, ho210, hrn213, hE212⟩
     exact ⟨⟨A209, c209, lo209, hi209, rfl, h209, ho210, hrn213⟩, hE212⟩
    ·intro L214 w215 hi216
     have hE217 := hi216.ex
     have hE217z := Ex.size hE217
     obtain ⟨lo219, hh220, _, hx218, hr221, hr222, hr223, A86_224, c86_225, lo86_226, hi86_227, rfl, h228, h229, hrn230⟩ := hi216.dep 6 42 rfl rfl
     exact os rfl ((yM rfl hx218 ⟨fun _ _ => ⟨A86_224, c86_225, rfl, (RdS.ivG good_Row (OwnL.rd good_Row h228) oM)⟩, rfl⟩))
    ·intro L231 w232 hi233
     obtain ⟨lo236, hh237, _, hx235, hr238, hr239, hr240, A86_241, c86_242, rfl, h243⟩ := hi233.dep 7 35 rfl rfl
     exact os rfl ((yl_extract rfl hx235 rfl ⟨fun _ _ => ⟨A86_241, c86_242, rfl, h243⟩, rfl⟩))
    ·intro L244 w245 hi246
     obtain ⟨lo249, hh250, _, hx248, hr251, hr252, hr253, A86_254, c86_255, rfl, h256⟩ := hi246.dep 7 35 rfl rfl
     exact os rfl ((yl_extract rfl hx248 rfl kI))
    ·intro L257 w258 hi259
     obtain ⟨lo262, hh263, _, hx261, hr264, hr265, hr266, A86_267, c86_268, rfl, h269⟩ := hi259.dep 8 43 rfl rfl
     exact os rfl ((yA rfl hx261 ⟨fun _ _ => ⟨A86_267, c86_268, rfl, h269⟩, rfl⟩))
    ·exact oI rfl fun h => yA rfl (h.dt 9 44 rfl rfl rfl) kI
    ·intro fl278 fh279 L275 w276 hp277
     have hE280 := hp277.ex
     have hE280z := Ex.size hE280
     have hr285 := hp277.rng 1 rfl
     obtain ⟨_, hx284, A73_286, c73_287, lo73_288, hi73_289, A74_290, c74_291, lo74_292, hi74_293, rfl, h294, h295, hrn296, hrn297, hrn298⟩ := hp277.new 1 37 rfl rfl
     have hr300 := hp277.rng 3 rfl
     have hsp301 := hp277.sep 1 3 rfl rfl rfl
     obtain ⟨_, hx299, A78_302, c78_303, lo78_304, hi78_305, rfl, h306, hrn307⟩ := hp277.new 3 39 rfl rfl
     have hr309 := hp277.rng 5 rfl
     have hsp310 := hp277.sep 1 5 rfl rfl rfl
     have hsp311 := hp277.sep 3 5 rfl rfl rfl
     obtain ⟨_, hx308, A83_312, c83_313, lo83_314, hi83_315, A84_316, c84_317, lo84_318, hi84_319, rfl, h320, h321, hrn322, hrn323, hrn324⟩ := hp277.new 5 41 rfl rfl
     have hr326 := hp277.rng 6 rfl
     have hsp327 := hp277.sep 1 6 rfl rfl rfl
     have hsp328 := hp277.sep 3 6 rfl rfl rfl
     have hsp329 := hp277.sep 5 6 rfl rfl rfl
     obtain ⟨_, hx325, A86_330, c86_331, lo86_332, hi86_333, rfl, h334, h335, hrn336⟩ := hp277.new 6 42 rfl rfl
     obtain ⟨_, hx337, A86_338, c86_339, rfl, h340⟩ := hp277.new 10 8 rfl rfl
     have hq341 := RdS.wideG good_Row h340 (Nat.le_refl _)
     refine dn (CW.sub (sC 1 (hp277.old 1 _ rfl rfl) (sC 3 (hp277.old 3 _ rfl rfl) (sC 5 (hp277.old 5 _ rfl rfl) (sC 8 hx337 (sC 9 (hp277.nt 11 9 rfl rfl rfl) (Sub.nil _)))))) (cR ?_))
     have q343 := Box.ex q65 hE280
     refine sd rfl (yl_loadN ty25 rfl rfl (q343.cells (n := 3) rfl) rfl ?_)
     have q344 := RdS.ex gS q68 hE280
     have q345 := RdS.ex gI q71 hE280
     refine sd rfl (yC en8 rfl (oc rfl oz) (Cal.mono (c_l_toTable p_0 (RdS.up q344 gS) (RdS.up q345 gI) ((szok_Table pre0 (by decide) (dec_f hb26)).1)) ?_))
     rintro v349 w346 ⟨A347, c347, lo347, hi347, A348, c348, lo348, hi348, rfl, h347, h348, hrn351, hrn352, hrn353, hE350⟩
     have hE350z := Ex.size hE350
     refine sd rfl (yB ty41 (cs := [.string (bs (([] : Str))), .slice none 0 0, .slice none 0 0]) rfl rfl ?_)
     intro b354 w355 hs356 hz357 hB358 hE359
     refine SeqR.u rfl rfl (yl_store (vs := [.string (bs (p_0.Name)), .slice A347 p_0.Cols.length c347, .slice A348 p_0.Idxs.length c348]) ty41 rfl rfl rfl rfl rfl rfl hB358 (nb rfl) ?_)
     intro w360 hB361 hO362
     have hB361 : Box w360 b354 41 [.string (bs (p_0.Name)), .slice A347 p_0.Cols.length c347, .slice A348 p_0.Idxs.length c348] := hB361
     have hO362z := hO362.size
     refine dn (cR (sM rfl ?_))
     have q366 := RdS.only gW (RdS.ex gW (RdS.ex gW (RdS.ex gW q76 hE280) hE350) hE359) hO362 (by simp only [Iv]; omega)
     refine sd rfl (yC en9 rfl (oc rfl oz) (Cal.mono (c_l_toWriteS p_1 (RdS.up q366 gW) ((szok_WriteS pre1 (szok_Table pre0 (by decide) (dec_f hb26)).2 (dec_f hb37)).1)) ?_))
     rintro v369 w367 ⟨A368, c368, lo368, hi368, rfl, h368, hrn371, hE370⟩
     have hE370z := Ex.size hE370
     refine sA rfl (dn (cR ?_))
     have q376 := Box.ex (Box.only (Box.ex (Box.ex (Box.ex q79 hE280) hE350) hE359) hO362 oM) hE370
     refine sd rfl (yl_loadN ty32 rfl rfl (q376.cells (n := 7) rfl) rfl ?_)
     have q381 := RdS.ex gS (RdS.only gS (RdS.ex gS (RdS.ex gS (RdS.ex gS q80 hE280) hE350) hE359) hO362 (by simp only [Iv]; omega)) hE370
     have q386 := RdS.ex gS (RdS.only gS (RdS.ex gS (RdS.ex gS (RdS.ex gS q81 hE280) hE350) hE359) hO362 (by simp only [Iv]; omega)) hE370
     refine sd rfl (yC en10 rfl (oc rfl oz) (Cal.mono (c_l_toStmt p_2 (RdS.up q381 gS) (RdS.up q386 gS) ((szok_Stmt pre2 (szok_WriteS pre1 (szok_Table pre0 (by decide) (dec_f hb26)).2 (dec_f hb37)).2 (dec_f hb56)).1)) ?_))
     rintro v390 w387 ⟨A388, c388, lo388, hi388, A389, c389, lo389, hi389, rfl, h388, h389, hrn392, hrn393, hrn394, hE391⟩
     have hE391z := Ex.size hE391
     refine sd rfl (yB ty49 (cs := [.int .i64 (0), .int .i64 (0), .slice none 0 0, .slice none 0 0, .string (bs (([] : Str))), .string (bs (([] : Str))), .string (bs (([] : Str)))]) rfl rfl ?_)
     intro b395 w396 hs397 hz398 hB399 hE400
     refine SeqR.u rfl rfl (yl_store (vs := [.int .i64 (p_2.Kind), .int .i64 (p_2.Act.Kind), .slice A388 p_2.Act.Old.Vals.length c388, .slice A389 p_2.Act.New.Vals.length c389, .string (bs (p_2.Idx)), .string (bs (p_2.Low)), .string (bs (p_2.High))]) ty49 rfl rfl rfl rfl rfl rfl hB399 (nb rfl) ?_)
     intro w401 hB402 hO403
     have hB402 : Box w401 b395 49 [.int .i64 (p_2.Kind), .int .i64 (p_2.Act.Kind), .slice A388 p_2.Act.Old.Vals.length c388, .slice A389 p_2.Act.New.Vals.length c389, .string (bs (p_2.Idx)), .string (bs (p_2.Low)), .string (bs (p_2.High))] := hB402
     have hO403z := hO403.size
     refine dn (cR ?_)
     have q407 := Box.only (Box.ex (Box.ex (Box.ex hB361 hE370) hE391) hE400) hO403 oM
     refine sd rfl (yl_loadN ty41 rfl rfl (q407.cells (n := 3) rfl) rfl (sM rfl (sd rfl (yl_loadN ty49 rfl rfl (hB402.cells (n := 7) rfl) rfl ?_))))
     have q414 := OwnL.only gS (OwnL.ex gS (OwnL.ex gS (OwnL.ex gS (OwnL.only gS (OwnL.ex gS h347 hE359) hO362 oM) hE370) hE391) hE400) hO403 oM
     have q421 := OwnL.only gI (OwnL.ex gI (OwnL.ex gI (OwnL.ex gI (OwnL.only gI (OwnL.ex gI h348 hE359) hO362 oM) hE370) hE391) hE400) hO403 oM
     have q425 := OwnL.only gW (OwnL.ex gW (OwnL.ex gW h368 hE391) hE400) hO403 oM
     have q428 := OwnL.only gS (OwnL.ex gS h388 hE400) hO403 oM
     have q431 := OwnL.only gS (OwnL.ex gS h389 hE400) hO403 oM
     refine sd rfl (yC en11 rfl (oc rfl (oc rfl (oc rfl oz))) (Cal.mono (c_i_AskStore p_0 p_1 p_2 (RdS.up (OwnL.rd gS q414) gS) (RdS.up (OwnL.rd gI q421) gI) (RdS.up (OwnL.rd gW q425) gW) (RdS.up (OwnL.rd gS q428) gS) (RdS.up (OwnL.rd gS q431) gS) ((szok_Table pre0 (by decide) (dec_f hb26)).1) ((szok_WriteS pre1 (szok_Table pre0 (by decide) (dec_f hb26)).2 (dec_f hb37)).1) ((szok_Stmt pre2 (szok_WriteS pre1 (szok_Table pre0 (by decide) (dec_f hb26)).2 (dec_f hb37)).2 (dec_f hb56)).1)) ?_))
     rintro v435 w432 ⟨A433, c433, lo433, hi433, rfl, h433, ho434, hrn437, hE436⟩
     have hE436z := Ex.size hE436
     refine sM rfl (sd rfl (yl_extract rfl rfl rfl (sd rfl (yl_extract rfl rfl rfl (sA rfl (sA rfl (dn (CW.seq (CW.seq ?_)))))))))
     refine CW.region (sM rfl (sM rfl ?_))
     have q446 := RdS.ex good_Row (RdS.only good_Row (RdS.ex good_Row (RdS.ex good_Row (RdS.ex good_Row (RdS.only good_Row (RdS.ex good_Row (RdS.ex good_Row hq341 hE350) hE359) hO362 (by simp only [Iv]; omega)) hE370) hE391) hE400) hO403 (by simp only [Iv]; omega)) hE436
     refine sd rfl (yC en12 rfl (oc rfl (oc rfl oz)) (Cal.mono (c_l_eqRowS ((i_AskStore p_0 p_1 p_2).1) ((s_AskStore p_0 p_1 p_2).1) (RdS.up (OwnL.rd good_Row (OwnD.own goodO_Row good_Row h433)) good_Row) (RdS.up q446 good_Row)) ?_))
     rintro v448 w447 ⟨rfl, hE449⟩
     have hE449z := Ex.size hE449
     refine sd rfl (yl_not rfl rfl (sM rfl (bcase (l_eqRowS ((i_AskStore p_0 p_1 p_2).1) ((s_AskStore p_0 p_1 p_2).1)) (fun hb450 => ?_) (fun hb450 => ?_))))
     ·refine sy rfl rfl (not_t hb450) (yM rfl rfl (sy rfl rfl (not_t hb450) (yM rfl rfl (sy rfl rfl (not_t hb450) (yl_bneq un4 rfl rfl rfl (sd rfl (yl_pick_f rfl rfl (not_t hb450) rfl (dn (bcase (((i_AskStore p_0 p_1 p_2).2) == ((s_AskStore p_0 p_1 p_2).2)) (fun hb451 => ?_) (fun hb451 => ?_))))))))))
      ·refine CW.cond_f rfl (not_t hb451) (CW.skip (tn (CW.seq (CW.seq ?_))))
       have q453 := Box.ex (Box.ex q407 hE436) hE449
       have q462 := Box.ex (Box.ex (Box.only (Box.ex (Box.ex (Box.ex (Box.only (Box.ex (Box.ex q343 hE350) hE359) hO362 oM) hE370) hE391) hE400) hO403 oM) hE436) hE449
       have q471 := RdS.ex gS (RdS.ex gS (RdS.only gS (RdS.ex gS (RdS.ex gS (RdS.ex gS (RdS.only gS (RdS.ex gS (RdS.ex gS q344 hE350) hE359) hO362 (by simp only [Iv]; omega)) hE370) hE391) hE400) hO403 (by simp only [Iv]; omega)) hE436) hE449
       have q480 := RdS.ex gI (RdS.ex gI (RdS.only gI (RdS.ex gI (RdS.ex gI (RdS.ex gI (RdS.only gI (RdS.ex gI (RdS.ex gI q345 hE350) hE359) hO362 (by simp only [Iv]; omega)) hE370) hE391) hE400) hO403 (by simp only [Iv]; omega)) hE436) hE449
       have q486 := OwnL.ex gS (OwnL.ex gS q414 hE436) hE449
       have q489 := OwnL.ex gI (OwnL.ex gI q421 hE436) hE449
       refine CW.drawsI 5 (vgetI [DetI (.agg #[.string (bs (p_0.Name)), .slice A347 p_0.Cols.length c347, .slice A348 p_0.Idxs.length c348]), DetI (.agg #[.string (bs (p_0.Name)), .slice A1 p_0.Cols.length c1, .slice A2 p_0.Idxs.length c2]), fun lo hi v wq => ∃ A482 c482 lo482 hi482 A483 c483 lo483 hi483, v = .agg #[.string (bs (p_0.Name)), .slice A482 p_0.Cols.length c482, .slice A483 p_0.Idxs.length c483] ∧ OwnL wq lo482 hi482 9 1 (RF e_Str) A482 p_0.Cols.length c482 p_0.Cols ∧ OwnL wq lo483 hi483 88 3 (RF e_Idx) A483 p_0.Idxs.length c483 p_0.Idxs ∧ (lo ≤ lo482 ∧ lo482 ≤ hi482 ∧ hi482 ≤ hi) ∧ (lo ≤ lo483 ∧ lo483 ≤ hi483 ∧ hi483 ≤ hi) ∧ (hi482 ≤ lo483 ∨ hi483 ≤ lo482), DetI (.bool ((l_eqTable p_0 p_0))), DetI (.bool (!(l_eqTable p_0 p_0)))]) Tryz.follows rfl rfl rfl rfl rfl rfl (vgetI_stable ⟨StableI.det _, StableI.det _, (fun _ _ _ _ _ ⟨A482, c482, lo482, hi482, A483, c483, lo483, hi483, hv, h482, h483, hr0, hr1, hr2⟩ e => ⟨A482, c482, lo482, hi482, A483, c483, lo483, hi483, hv, OwnL.ex gS h482 e, OwnL.ex gI h483 e, hr0, hr1, hr2⟩), StableI.det _, StableI.det _, trivial⟩) ⟨?_, ?_, ?_, ?_, ?_, trivial⟩ ?_
       ·exact oI rfl fun h => yl_loadN ty41 rfl (h.old 10 _ rfl rfl) ((Box.ex q453 h.ex).cells (n := 3) rfl) rfl kI
       ·exact oI rfl fun h => yl_loadN ty25 rfl (h.old 3 _ rfl rfl) ((Box.ex q462 h.ex).cells (n := 3) rfl) rfl kI
       ·intro L503 w504 hi505
        have hE506 := hi505.ex
        refine OpR.op' rfl (yC en8 rfl (oc (hi505.dt 1 68 rfl rfl rfl) oz) (Cal.mono (c_l_toTable p_0 (RdS.up (RdS.ex gS q471 hE506) gS) (RdS.up (RdS.ex gI q480 hE506) gI) ((szok_Table pre0 (by decide) (dec_f hb26)).1)) ?_))
        rintro v513 w510 ⟨A511, c511, lo511, hi511, A512, c512, lo512, hi512, rfl, h511, h512, hrn515, hrn516, hrn517, hE514⟩
        exact ⟨⟨A511, c511, lo511, hi511, A512, c512, lo512, hi512, rfl, h511, h512, hrn515, hrn516, hrn517⟩, hE514⟩
       ·intro L518 w519 hi520
        have hE521 := hi520.ex
        obtain ⟨lo524, hh525, _, hx523, hr526, hr527, hr528, A482_529, c482_530, lo482_531, hi482_532, A483_533, c483_534, lo483_535, hi483_536, rfl, h537, h538, hrn539, hrn540, hrn541⟩ := hi520.dep 2 69 rfl rfl
        exact OpR.op' rfl (yC en13 rfl (oc (hi520.dt 0 67 rfl rfl rfl) (oc hx523 oz)) (Cal.mono (c_l_eqTable p_0 p_0 (RdS.up (OwnL.rd gS (OwnL.ex gS q486 hE521)) gS) (RdS.up (OwnL.rd gI (OwnL.ex gI q489 hE521)) gI) (RdS.up (OwnL.rd gS h537) gS) (RdS.up (OwnL.rd gI h538) gI)) fun _ _ h => h))
       ·exact oI rfl fun h => yl_not rfl (h.dt 3 70 rfl rfl rfl) kI
       ·intro fl559 fh560 L556 w557 hp558
        have hE561 := hp558.ex
        have hE561z := Ex.size hE561
        have hr573 := hp558.rng 2 rfl
        obtain ⟨_, hx572, A482_574, c482_575, lo482_576, hi482_577, A483_578, c483_579, lo483_580, hi483_581, rfl, h582, h583, hrn584, hrn585, hrn586⟩ := hp558.new 2 69 rfl rfl
        refine dn (CW.sub (sC 1 (hp558.old 1 _ rfl rfl) (sC 3 (hp558.old 3 _ rfl rfl) (sC 5 (hp558.old 5 _ rfl rfl) (sC 8 (hp558.old 8 _ rfl rfl) (sC 9 (hp558.old 9 _ rfl rfl) (sC 10 (hp558.old 10 _ rfl rfl) (sC 11 (hp558.old 11 _ rfl rfl) (sC 12 (hp558.old 12 _ rfl rfl) (sC 13 (hp558.old 13 _ rfl rfl) (sC 14 (hp558.old 14 _ rfl rfl) (sC 71 (hp558.nt 4 71 rfl rfl rfl) (Sub.nil _)))))))))))) (bcase (l_eqTable p_0 p_0) (fun hb588 => ?_) (fun hb588 => ?_)))
        ·refine CW.cond_f rfl (not_t hb588) (CW.skip (tn (CW.seq (cR (sM rfl (sM rfl ?_))))))
         have q595 := RdS.ex gW (RdS.ex gW (RdS.ex gW (RdS.only gW (RdS.ex gW (RdS.ex gW (RdS.ex gW q366 hE370) hE391) hE400) hO403 (by simp only [Iv]; omega)) hE436) hE449) hE561
         refine sd rfl (yC en9 rfl (oc rfl oz) (Cal.mono (c_l_toWriteS p_1 (RdS.up q595 gW) ((szok_WriteS pre1 (szok_Table pre0 (by decide) (dec_f hb26)).2 (dec_f hb37)).1)) ?_))
         rintro v598 w596 ⟨A597, c597, lo597, hi597, rfl, h597, hrn600, hE599⟩
         have hE599z := Ex.size hE599
         have q605 := OwnL.ex gW (OwnL.ex gW (OwnL.ex gW (OwnL.ex gW q425 hE436) hE449) hE561) hE599
         refine sd rfl (yC en14 rfl (oc rfl (oc rfl oz)) (Cal.mono (c_l_eqWriteS p_1 p_1 (RdS.up (OwnL.rd gW q605) gW) (RdS.up (OwnL.rd gW h597) gW)) ?_))
         rintro v608 w607 ⟨rfl, hE609⟩
         have hE609z := Ex.size hE609
         refine sd rfl (yl_not rfl rfl (dn (bcase (l_eqWriteS p_1 p_1) (fun hb610 => ?_) (fun hb610 => ?_))))
         ·refine CW.cond_f rfl (not_t hb610) (CW.skip (tn (CW.seq (CW.seq ?_))))
          have q615 := Box.ex (Box.ex (Box.ex (Box.ex (Box.ex hB402 hE436) hE449) hE561) hE599) hE609
          have q623 := Box.ex (Box.ex (Box.ex (Box.ex (Box.ex (Box.only (Box.ex (Box.ex q376 hE391) hE400) hO403 oM) hE436) hE449) hE561) hE599) hE609
          have q631 := RdS.ex gS (RdS.ex gS (RdS.ex gS (RdS.ex gS (RdS.ex gS (RdS.only gS (RdS.ex gS (RdS.ex gS q381 hE391) hE400) hO403 (by simp only [Iv]; omega)) hE436) hE449) hE561) hE599) hE609
          have q639 := RdS.ex gS (RdS.ex gS (RdS.ex gS (RdS.ex gS (RdS.ex gS (RdS.only gS (RdS.ex gS (RdS.ex gS q386 hE391) hE400) hO403 (by simp only [Iv]; omega)) hE436) hE449) hE561) hE599) hE609
          have q648 := OwnL.ex gS (OwnL.ex gS (OwnL.ex gS (OwnL.ex gS (OwnL.ex gS q428 hE436) hE449) hE561) hE599) hE609
          have q654 := OwnL.ex gS (OwnL.ex gS (OwnL.ex gS (OwnL.ex gS (OwnL.ex gS q431 hE436) hE449) hE561) hE599) hE609
          refine CW.drawsI 5 (vgetI [DetI (.agg #[.int .i64 (p_2.Kind), .int .i64 (p_2.Act.Kind), .slice A388 p_2.Act.Old.Vals.length c388, .slice A389 p_2.Act.New.Vals.length c389, .string (bs (p_2.Idx)), .string (bs (p_2.Low)), .string (bs (p_2.High))]), DetI (.agg #[.int .i64 (p_2.Kind), .int .i64 (p_2.Act.Kind), .slice A4 p_2.Act.Old.Vals.length c4, .slice A5 p_2.Act.New.Vals.length c5, .string (bs (p_2.Idx)), .string (bs (p_2.Low)), .string (bs (p_2.High))]), fun lo hi v wq => ∃ A641 c641 lo641 hi641 A642 c642 lo642 hi642, v = .agg #[.int .i64 (p_2.Kind), .int .i64 (p_2.Act.Kind), .slice A641 p_2.Act.Old.Vals.length c641, .slice A642 p_2.Act.New.Vals.length c642, .string (bs (p_2.Idx)), .string (bs (p_2.Low)), .string (bs (p_2.High))] ∧ OwnL wq lo641 hi641 9 1 (RF e_Str) A641 p_2.Act.Old.Vals.length c641 p_2.Act.Old.Vals ∧ OwnL wq lo642 hi642 9 1 (RF e_Str) A642 p_2.Act.New.Vals.length c642 p_2.Act.New.Vals ∧ (lo ≤ lo641 ∧ lo641 ≤ hi641 ∧ hi641 ≤ hi) ∧ (lo ≤ lo642 ∧ lo642 ≤ hi642 ∧ hi642 ≤ hi) ∧ (hi641 ≤ lo642 ∨ hi642 ≤ lo641), DetI (.bool ((l_eqStmt p_2 p_2))), DetI (.bool (!(l_eqStmt p_2 p_2)))]) Tryz.follows rfl rfl rfl rfl rfl rfl (vgetI_stable ⟨StableI.det _, StableI.det _, (fun _ _ _ _ _ ⟨A641, c641, lo641, hi641, A642, c642, lo642, hi642, hv, h641, h642, hr0, hr1, hr2⟩ e => ⟨A641, c641, lo641, hi641, A642, c642, lo642, hi642, hv, OwnL.ex gS h641 e, OwnL.ex gS h642 e, hr0, hr1, hr2⟩), StableI.det _, StableI.det _, trivial⟩) ⟨?_, ?_, ?_, ?_, ?_, trivial⟩ ?_
          ·exact oI rfl fun h => yl_loadN ty49 rfl (h.old 12 _ rfl rfl) ((Box.ex q615 h.ex).cells (n := 7) rfl) rfl kI
          ·exact oI rfl fun h => yl_loadN ty32 rfl (h.old 5 _ rfl rfl) ((Box.ex q623 h.ex).cells (n := 7) rfl) rfl kI
          ·intro L668 w669 hi670
           have hE671 := hi670.ex
           refine OpR.op' rfl (yC en10 rfl (oc (hi670.dt 1 78 rfl rfl rfl) oz) (Cal.mono (c_l_toStmt p_2 (RdS.up (RdS.ex gS q631 hE671) gS) (RdS.up (RdS.ex gS q639 hE671) gS) ((szok_Stmt pre2 (szok_WriteS pre1 (szok_Table pre0 (by decide) (dec_f hb26)).2 (dec_f hb37)).2 (dec_f hb56)).1)) ?_))
           rintro v678 w675 ⟨A676, c676, lo676, hi676, A677, c677, lo677, hi677, rfl, h676, h677, hrn680, hrn681, hrn682, hE679⟩
           exact ⟨⟨A676, c676, lo676, hi676, A677, c677, lo677, hi677, rfl, h676, h677, hrn680, hrn681, hrn682⟩, hE679⟩
          ·intro L683 w684 hi685
           have hE686 := hi685.ex
           obtain ⟨lo689, hh690, _, hx688, hr691, hr692, hr693, A641_694, c641_695, lo641_696, hi641_697, A642_698, c642_699, lo642_700, hi642_701, rfl, h702, h703, hrn704, hrn705, hrn706⟩ := hi685.dep 2 79 rfl rfl
           exact OpR.op' rfl (yC en15 rfl (oc (hi685.dt 0 77 rfl rfl rfl) (oc hx688 oz)) (Cal.mono (c_l_eqStmt p_2 p_2 (RdS.up (OwnL.rd gS (OwnL.ex gS q648 hE686)) gS) (RdS.up (OwnL.rd gS (OwnL.ex gS q654 hE686)) gS) (RdS.up (OwnL.rd gS h702) gS) (RdS.up (OwnL.rd gS h703) gS)) fun _ _ h => h))
          ·exact oI rfl fun h => yl_not rfl (h.dt 3 80 rfl rfl rfl) kI
          ·intro fl724 fh725 L721 w722 hp723
           have hE726 := hp723.ex
           have hE726z := Ex.size hE726
           have hr738 := hp723.rng 2 rfl
           obtain ⟨_, hx737, A641_739, c641_740, lo641_741, hi641_742, A642_743, c642_744, lo642_745, hi642_746, rfl, h747, h748, hrn749, hrn750, hrn751⟩ := hp723.new 2 79 rfl rfl
           refine dn (CW.sub (sC 1 (hp723.old 1 _ rfl rfl) (sC 3 (hp723.old 3 _ rfl rfl) (sC 5 (hp723.old 5 _ rfl rfl) (sC 8 (hp723.old 8 _ rfl rfl) (sC 9 (hp723.old 9 _ rfl rfl) (sC 10 (hp723.old 10 _ rfl rfl) (sC 11 (hp723.old 11 _ rfl rfl) (sC 12 (hp723.old 12 _ rfl rfl) (sC 13 (hp723.old 13 _ rfl rfl) (sC 14 (hp723.old 14 _ rfl rfl) (sC 81 (hp723.nt 4 81 rfl rfl rfl) (Sub.nil _)))))))))))) (bcase (l_eqStmt p_2 p_2) (fun hb753 => ?_) (fun hb753 => ?_)))
           ·refine CW.cond_f rfl (not_t hb753) (CW.skip (tn (cR (sA rfl (dn (CW.seq ?_))))))
            refine CW.region (sd rfl (yl_loadN ty41 rfl rfl ((Box.ex (Box.ex (Box.ex (Box.ex q453 hE561) hE599) hE609) hE726).cells (n := 3) rfl) rfl (sM rfl (sd rfl (yC en16 rfl (oc rfl (oc rfl oz)) (Cal.mono (c_l_markTable p_0 1 (OwnL.ex gS (OwnL.ex gS (OwnL.ex gS (OwnL.ex gS q486 hE561) hE599) hE609) hE726) (OwnL.ex gI (OwnL.ex gI (OwnL.ex gI (OwnL.ex gI q489 hE561) hE599) hE609) hE726) oM oM oM Bo) ?_))))))
            rintro v767 w766 ⟨rfl, h769, h770, hm768⟩
            have hm768z := Mut.size hm768
            have hrf771 := rf_markTable p_0 1 Bo
            refine sA rfl (dn (cR (sM rfl (sM rfl (sd rfl (yC en17 rfl (oc rfl (oc rfl oz)) (Cal.mono (c_l_markWriteS p_1 ((l_markTable p_0 1).1) (OwnL.mut gW (OwnL.ex gW (OwnL.ex gW q605 hE609) hE726) hm768 (fun k hk => by simp only [InR, or_false] at hk; omega)) oM Bo) ?_)))))))
            rintro v776 w775 ⟨rfl, h778, hm777⟩
            have hm777z := Mut.size hm777
            have hrf779 := rf_markWriteS p_1 ((l_markTable p_0 1).1) Bo
            refine sA rfl (dn (cR (sd rfl (yl_loadN ty49 rfl rfl ((Box.mut (Box.mut (Box.ex q615 hE726) hm768 (fun k hk => by simp only [InR, or_false] at hk; omega)) hm777 (fun k hk => by simp only [InR, or_false] at hk; omega)).cells (n := 7) rfl) rfl (sM rfl (sd rfl (yC en18 rfl (oc rfl (oc rfl oz)) (Cal.mono (c_l_markStmt p_2 ((l_markWriteS p_1 ((l_markTable p_0 1).1)).1) (OwnL.mut gS (OwnL.mut gS (OwnL.ex gS q648 hE726) hm768 (fun k hk => by simp only [InR, or_false] at hk; omega)) hm777 (fun k hk => by simp only [InR, or_false] at hk; omega)) (OwnL.mut gS (OwnL.mut gS (OwnL.ex gS q654 hE726) hm768 (fun k hk => by simp only [InR, or_false] at hk; omega)) hm777 (fun k hk => by simp only [InR, or_false] at hk; omega)) oM oM oM Bo) ?_))))))))
            rintro v790 w789 ⟨rfl, h792, h793, hm791⟩
            have hm791z := Mut.size hm791
            have hrf794 := rf_markStmt p_2 ((l_markWriteS p_1 ((l_markTable p_0 1).1)).1) Bo
            refine sA rfl (dn (CW.seq (cR (sM rfl (sd rfl (yl_lss rfl rfl rfl (sM rfl ?_)))))))
            refine bcase (decide (((l_markStmt p_2 ((l_markWriteS p_1 ((l_markTable p_0 1).1)).1)).1) < 0)) (fun hb795 => ?_) (fun hb795 => ?_)
            ·have hb795p := dec_t hb795
             refine sz rfl rfl hb795 (sz rfl rfl hb795 (sz rfl rfl hb795 (sz rfl rfl hb795 (sd rfl (yl_pick_t rfl rfl hb795 rfl (sM rfl (sz rfl rfl rfl (sz rfl rfl rfl (sz rfl rfl rfl ?_)))))))))
             refine sd rfl (yl_pick_t rfl rfl rfl rfl (dn (CW.cond_t rfl rfl (cR (sA rfl (dn ?_))))))
             refine CW.ret (tr (rr rfl (.cons rfl .nil) ?_))
             have hM796 : (l_FnExactAskStore p_0 p_1 p_2) = (false) := by simp only [l_FnExactAskStore, hb26, hb37, hb56, hb450, hb451, hb588, hb610, hb753, hb795, cL]
             rw [hM796]
             have q816 := Ex.mut (Ex.trans (Ex.trans (Ex.trans (Ex.trans (Ex.trans (Ex.trans (Below.only (Ex.trans (Ex.trans (Ex.trans (Below.only (Ex.trans (Ex.trans (Ex.trans (Ex.trans (Ex.trans (Ex.trans (Ex.trans (Ex.trans (Ex.refl w) hE11) hE17) hE25) hE36) hE55) hE280) hE350) hE359) hO362 oM) hE370) hE391) hE400) hO403 oM) hE436) hE449) hE561) hE599) hE609) hE726) hm768 (fun k hk => by simp only [InR, or_false] at hk; omega)
             exact ⟨rfl, (Ex.mut (Ex.mut q816 hm777 (fun k hk => by simp only [InR, or_false] at hk; omega)) hm791 (fun k hk => by simp only [InR, or_false] at hk; omega))⟩
            ·have hb795p := dec_f hb795
             refine sy rfl rfl hb795 (yM rfl rfl (sy rfl rfl hb795 (yM rfl rfl ?_)))
             have q827 := OwnD.mut goodO_Row (OwnD.mut goodO_Row (OwnD.mut goodO_Row (OwnD.ex goodO_Row (OwnD.ex goodO_Row (OwnD.ex goodO_Row (OwnD.ex goodO_Row (OwnD.ex goodO_Row h433 hE449) hE561) hE599) hE609) hE726) hm768 (fun k hk => by simp only [InR, or_false] at hk; omega)) hm777 (fun k hk => by simp only [InR, or_false] at hk; omega)) hm791 (fun k hk => by simp only [InR, or_false] at hk; omega)
             have q835 := RdS.mut good_Row (RdS.mut good_Row (RdS.mut good_Row (RdS.ex good_Row (RdS.ex good_Row (RdS.ex good_Row (RdS.ex good_Row (RdS.ex good_Row q446 hE449) hE561) hE599) hE609) hE726) hm768 (fun k hk => by simp only [InR, or_false, Iv, Ge] at hk ⊢; omega)) hm777 (fun k hk => by simp only [InR, or_false, Iv, Ge] at hk ⊢; omega)) hm791 (fun k hk => by simp only [InR, or_false, Iv, Ge] at hk ⊢; omega)
             refine sy rfl rfl hb795 (yC en12 rfl (oc rfl (oc rfl oz)) (Cal.mono (c_l_eqRowS ((i_AskStore p_0 p_1 p_2).1) ((s_AskStore p_0 p_1 p_2).1) (RdS.up (OwnL.rd good_Row (OwnD.own goodO_Row good_Row q827)) good_Row) (RdS.up q835 good_Row)) ?_))
             rintro v837 w836 ⟨rfl, hE838⟩
             have hE838z := Ex.size hE838
             refine sy rfl rfl hb795 (yl_not rfl rfl (sd rfl (yl_pick_f rfl rfl hb795 rfl (sM rfl (sy rfl rfl (not_t hb450) (yM rfl rfl (sy rfl rfl (not_t hb450) (yM rfl rfl (sy rfl rfl (not_t hb450) (yl_bneq un4 rfl rfl rfl (sd rfl (yl_pick_f rfl rfl (not_t hb450) rfl (dn ?_)))))))))))))
             refine CW.cond_f rfl (not_t hb451) (CW.skip (tn (cR (sA rfl (dn (CW.seq ?_))))))
             refine CW.region (sM rfl (sM rfl (sd rfl (yC en19 rfl (oc rfl (oc rfl oz)) (Cal.mono (c_l_markRowS ((i_AskStore p_0 p_1 p_2).1) 1 (OwnD.ex goodO_Row q827 hE838) oM Bo) ?_)))))
             rintro v841 w840 ⟨rfl, h843, hm842⟩
             have hm842z := Mut.size hm842
             have hrf844 := rf_markRowS ((i_AskStore p_0 p_1 p_2).1) 1 Bo
             refine sA rfl (dn (cR (sA rfl (dn (CW.seq ?_)))))
             refine CW.region (sM rfl (sM rfl ?_))
             have hle845 := OwnD.len h843
             refine sd rfl (yC en20 rfl (oc rfl (oc rfl oz)) (Cal.mono (Cal.args (by rw [← hle845] <;> rfl) (c_l_heldRowS ((l_markRowS ((i_AskStore p_0 p_1 p_2).1) 1).2) 1 (RdS.fix (RdS.up (OwnL.rd good_Row (OwnD.own goodO_Row good_Row h843)) good_Row)) Bo)) ?_))
             rintro v848 w847 ⟨rfl, hE849⟩
             have hE849z := Ex.size hE849
             have hrf850 := rf_heldRowS ((l_markRowS ((i_AskStore p_0 p_1 p_2).1) 1).2) 1 Bo
             refine sA rfl (dn (CW.seq (cR (sM rfl (sd rfl (yl_lss rfl rfl rfl (SeqR.done ?_)))))))
             refine tn (bcase (decide ((l_heldRowS ((l_markRowS ((i_AskStore p_0 p_1 p_2).1) 1).2) 1) < 0)) (fun hb851 => ?_) (fun hb851 => ?_))
             ·have hb851p := dec_t hb851
              refine CW.cond_t rfl hb851 (cR (sA rfl (dn (CW.ret (tr (rr rfl (.cons rfl .nil) ?_))))))
              have hM852 : (l_FnExactAskStore p_0 p_1 p_2) = (false) := by simp only [l_FnExactAskStore, hb26, hb37, hb56, hb450, hb451, hb588, hb610, hb753, hb795, hb851, cL]
              rw [hM852]
              have q872 := Ex.mut (Ex.trans (Ex.trans (Ex.trans (Ex.trans (Ex.trans (Ex.trans (Below.only (Ex.trans (Ex.trans (Ex.trans (Below.only (Ex.trans (Ex.trans (Ex.trans (Ex.trans (Ex.trans (Ex.trans (Ex.trans (Ex.trans (Ex.refl w) hE11) hE17) hE25) hE36) hE55) hE280) hE350) hE359) hO362 oM) hE370) hE391) hE400) hO403 oM) hE436) hE449) hE561) hE599) hE609) hE726) hm768 (fun k hk => by simp only [InR, or_false] at hk; omega)
              exact ⟨rfl, (Ex.trans (Ex.mut (Ex.trans (Ex.mut (Ex.mut q872 hm777 (fun k hk => by simp only [InR, or_false] at hk; omega)) hm791 (fun k hk => by simp only [InR, or_false] at hk; omega)) hE838) hm842 (fun k hk => by simp only [InR, or_false] at hk; omega)) hE849)⟩
             ·have hb851p := dec_f hb851
              refine CW.cond_f rfl hb851 (CW.skip (tn (CW.seq (cR (sM rfl (sM rfl (sd rfl (yl_neq rfl rfl rfl ?_))))))))
              refine dn (bcase (decide ((l_heldRowS ((l_markRowS ((i_AskStore p_0 p_1 p_2).1) 1).2) 1) = ((l_markRowS ((i_AskStore p_0 p_1 p_2).1) 1).1))) (fun hb878 => ?_) (fun hb878 => ?_))
              ·have hb878p := dec_t hb878
               refine CW.cond_f rfl (not_t hb878) (CW.skip (tn (CW.seq ?_)))
               have q897 := RdS.mut gS (RdS.ex gS (RdS.mut gS (RdS.mut gS (RdS.mut gS (RdS.ex gS (RdS.ex gS (RdS.ex gS (RdS.ex gS q471 hE561) hE599) hE609) hE726) hm768 (fun k hk => by simp only [InR, or_false, Iv, Ge] at hk ⊢; omega)) hm777 (fun k hk => by simp only [InR, or_false, Iv, Ge] at hk ⊢; omega)) hm791 (fun k hk => by simp only [InR, or_false, Iv, Ge] at hk ⊢; omega)) hE838) hm842 (fun k hk => by simp only [InR, or_false, Iv, Ge] at hk ⊢; omega)
               have q907 := RdS.mut gI (RdS.ex gI (RdS.mut gI (RdS.mut gI (RdS.mut gI (RdS.ex gI (RdS.ex gI (RdS.ex gI (RdS.ex gI q480 hE561) hE599) hE609) hE726) hm768 (fun k hk => by simp only [InR, or_false, Iv, Ge] at hk ⊢; omega)) hm777 (fun k hk => by simp only [InR, or_false, Iv, Ge] at hk ⊢; omega)) hm791 (fun k hk => by simp only [InR, or_false, Iv, Ge] at hk ⊢; omega)) hE838) hm842 (fun k hk => by simp only [InR, or_false, Iv, Ge] at hk ⊢; omega)
               have q919 := RdS.mut gW (RdS.ex gW (RdS.mut gW (RdS.mut gW (RdS.mut gW (RdS.ex gW (RdS.ex gW (RdS.ex gW q595 hE599) hE609) hE726) hm768 (fun k hk => by simp only [InR, or_false, Iv, Ge] at hk ⊢; omega)) hm777 (fun k hk => by simp only [InR, or_false, Iv, Ge] at hk ⊢; omega)) hm791 (fun k hk => by simp only [InR, or_false, Iv, Ge] at hk ⊢; omega)) hE838) hm842 (fun k hk => by simp only [InR, or_false, Iv, Ge] at hk ⊢; omega)
               have q935 := RdS.mut gS (RdS.ex gS (RdS.mut gS (RdS.mut gS (RdS.mut gS (RdS.ex gS q631 hE726) hm768 (fun k hk => by simp only [InR, or_false, Iv, Ge] at hk ⊢; omega)) hm777 (fun k hk => by simp only [InR, or_false, Iv, Ge] at hk ⊢; omega)) hm791 (fun k hk => by simp only [InR, or_false, Iv, Ge] at hk ⊢; omega)) hE838) hm842 (fun k hk => by simp only [InR, or_false, Iv, Ge] at hk ⊢; omega)
               have q942 := RdS.mut gS (RdS.ex gS (RdS.mut gS (RdS.mut gS (RdS.mut gS (RdS.ex gS q639 hE726) hm768 (fun k hk => by simp only [InR, or_false, Iv, Ge] at hk ⊢; omega)) hm777 (fun k hk => by simp only [InR, or_false, Iv, Ge] at hk ⊢; omega)) hm791 (fun k hk => by simp only [InR, or_false, Iv, Ge] at hk ⊢; omega)) hE838) hm842 (fun k hk => by simp only [InR, or_false, Iv, Ge] at hk ⊢; omega)
               refine CW.drawsI 12 (vgetI [DetI (.agg #[.string (bs (p_0.Name)), .slice A1 p_0.Cols.length c1, .slice A2 p_0.Idxs.length c2]), fun lo hi v wq => ∃ A910 c910 lo910 hi910 A911 c911 lo911 hi911, v = .agg #[.string (bs (p_0.Name)), .slice A910 p_0.Cols.length c910, .slice A911 p_0.Idxs.length c911] ∧ OwnL wq lo910 hi910 9 1 (RF e_Str) A910 p_0.Cols.length c910 p_0.Cols ∧ OwnL wq lo911 hi911 88 3 (RF e_Idx) A911 p_0.Idxs.length c911 p_0.Idxs ∧ (lo ≤ lo910 ∧ lo910 ≤ hi910 ∧ hi910 ≤ hi) ∧ (lo ≤ lo911 ∧ lo911 ≤ hi911 ∧ hi911 ≤ hi) ∧ (hi910 ≤ lo911 ∨ hi911 ≤ lo910), DetI (.slice A3 p_1.length c3), fun lo hi v wq => ∃ A922 c922 lo922 hi922, v = .slice A922 p_1.length c922 ∧ OwnL wq lo922 hi922 70 3 (RF e_Write) A922 p_1.length c922 p_1 ∧ (lo ≤ lo922 ∧ lo922 ≤ hi922 ∧ hi922 ≤ hi), DetI (.agg #[.int .i64 (p_2.Kind), .int .i64 (p_2.Act.Kind), .slice A4 p_2.Act.Old.Vals.length c4, .slice A5 p_2.Act.New.Vals.length c5, .string (bs (p_2.Idx)), .string (bs (p_2.Low)), .string (bs (p_2.High))]), fun lo hi v wq => ∃ A945 c945 lo945 hi945 A946 c946 lo946 hi946, v = .agg #[.int .i64 (p_2.Kind), .int .i64 (p_2.Act.Kind), .slice A945 p_2.Act.Old.Vals.length c945, .slice A946 p_2.Act.New.Vals.length c946, .string (bs (p_2.Idx)), .string (bs (p_2.Low)), .string (bs (p_2.High))] ∧ OwnL wq lo945 hi945 9 1 (RF e_Str) A945 p_2.Act.Old.Vals.length c945 p_2.Act.Old.Vals ∧ OwnL wq lo946 hi946 9 1 (RF e_Str) A946 p_2.Act.New.Vals.length c946 p_2.Act.New.Vals ∧ (lo ≤ lo945 ∧ lo945 ≤ hi945 ∧ hi945 ≤ hi) ∧ (lo ≤ lo946 ∧ lo946 ≤ hi946 ∧ hi946 ≤ hi) ∧ (hi945 ≤ lo946 ∨ hi946 ≤ lo945), fun lo hi v wq => ∃ A948 c948 lo948 hi948, v = .tuple #[.slice A948 (((i_AskStore p_0 p_1 p_2).1).length) c948, .bool ((i_AskStore p_0 p_1 p_2).2)] ∧ OwnD wq lo948 hi948 45 1 RO_Row A948 (((i_AskStore p_0 p_1 p_2).1).length) c948 ((i_AskStore p_0 p_1 p_2).1) ∧ (okL ok_Row) ((i_AskStore p_0 p_1 p_2).1) ∧ (lo ≤ lo948 ∧ lo948 ≤ hi948 ∧ hi948 ≤ hi), fun lo hi v wq => ∃ A948 c948, v = .tuple #[.slice A948 (((i_AskStore p_0 p_1 p_2).1).length) c948, .bool ((i_AskStore p_0 p_1 p_2).2)] ∧ RdS wq (Ge w847.heap.size) R_Row 1 A948 ((i_AskStore p_0 p_1 p_2).1).length c948 ((i_AskStore p_0 p_1 p_2).1), fun lo hi v wq => ∃ A948 c948, v = .slice A948 (((i_AskStore p_0 p_1 p_2).1).length) c948 ∧ RdS wq (Ge w847.heap.size) R_Row 1 A948 ((i_AskStore p_0 p_1 p_2).1).length c948 ((i_AskStore p_0 p_1 p_2).1), DetI (.bool ((i_AskStore p_0 p_1 p_2).2)), fun lo hi v wq => ∃ A948 c948, v = .slice A948 (((i_AskStore p_0 p_1 p_2).1).length) c948 ∧ RdS wq (Ge w847.heap.size) R_Row 1 A948 ((i_AskStore p_0 p_1 p_2).1).length c948 ((i_AskStore p_0 p_1 p_2).1), DetI (.bool ((i_AskStore p_0 p_1 p_2).2))]) Tryz.follows rfl rfl rfl rfl rfl rfl (vgetI_stable ⟨StableI.det _, (fun _ _ _ _ _ ⟨A910, c910, lo910, hi910, A911, c911, lo911, hi911, hv, h910, h911, hr0, hr1, hr2⟩ e => ⟨A910, c910, lo910, hi910, A911, c911, lo911, hi911, hv, OwnL.ex gS h910 e, OwnL.ex gI h911 e, hr0, hr1, hr2⟩), StableI.det _, (fun _ _ _ _ _ ⟨A922, c922, lo922, hi922, hv, h922, hr0⟩ e => ⟨A922, c922, lo922, hi922, hv, OwnL.ex gW h922 e, hr0⟩), StableI.det _, (fun _ _ _ _ _ ⟨A945, c945, lo945, hi945, A946, c946, lo946, hi946, hv, h945, h946, hr0, hr1, hr2⟩ e => ⟨A945, c945, lo945, hi945, A946, c946, lo946, hi946, hv, OwnL.ex gS h945 e, OwnL.ex gS h946 e, hr0, hr1, hr2⟩), (fun _ _ _ _ _ ⟨A948, c948, lo948, hi948, hv, h948, ho949, hr0⟩ e => ⟨A948, c948, lo948, hi948, hv, OwnD.ex goodO_Row h948 e, ho949, hr0⟩), (fun _ _ _ _ _ ⟨A948, c948, hv, h950⟩ e => ⟨A948, c948, hv, RdS.ex good_Row h950 e⟩), (fun _ _ _ _ _ ⟨A948, c948, hv, h951⟩ e => ⟨A948, c948, hv, RdS.ex good_Row h951 e⟩), StableI.det _, (fun _ _ _ _ _ ⟨A948, c948, hv, h952⟩ e => ⟨A948, c948, hv, RdS.ex good_Row h952 e⟩), StableI.det _, trivial⟩) ⟨?_, ?_, ?_, ?_, ?_, ?_, ?_, ?_, ?_, ?_, ?_, ?_, trivial⟩ ?_
               ·intro L953 w954 hi955
                have hE956 := hi955.ex
                have hE956z := Ex.size hE956
                exact os rfl ((yl_loadN ty25 rfl (hi955.old 3 _ rfl rfl) ((Box.ex (Box.ex (Box.mut (Box.ex (Box.mut (Box.mut (Box.mut (Box.ex (Box.ex (Box.ex (Box.ex q462 hE561) hE599) hE609) hE726) hm768 (fun k hk => by simp only [InR, or_false] at hk; omega)) hm777 (fun k hk => by simp only [InR, or_false] at hk; omega)) hm791 (fun k hk => by simp only [InR, or_false] at hk; omega)) hE838) hm842 (fun k hk => by simp only [InR, or_false] at hk; omega)) hE849) hE956).cells (n := 3) rfl) rfl kI))
               ·intro L959 w960 hi961
                have hE962 := hi961.ex
                refine OpR.op' rfl (yC en8 rfl (oc (hi961.dt 0 116 rfl rfl rfl) oz) (Cal.mono (c_l_toTable p_0 (RdS.up (RdS.ex gS (RdS.ex gS q897 hE849) hE962) gS) (RdS.up (RdS.ex gI (RdS.ex gI q907 hE849) hE962) gI) ((szok_Table pre0 (by decide) (dec_f hb26)).1)) ?_))
                rintro v969 w966 ⟨A967, c967, lo967, hi967, A968, c968, lo968, hi968, rfl, h967, h968, hrn971, hrn972, hrn973, hE970⟩
                exact ⟨⟨A967, c967, lo967, hi967, A968, c968, lo968, hi968, rfl, h967, h968, hrn971, hrn972, hrn973⟩, hE970⟩
               ·exact oI rfl fun h => yM rfl (h.old 1 _ rfl rfl) kI
               ·intro L979 w980 hi981
                have hE982 := hi981.ex
                refine OpR.op' rfl (yC en9 rfl (oc (hi981.dt 2 118 rfl rfl rfl) oz) (Cal.mono (c_l_toWriteS p_1 (RdS.up (RdS.ex gW (RdS.ex gW q919 hE849) hE982) gW) ((szok_WriteS pre1 (szok_Table pre0 (by decide) (dec_f hb26)).2 (dec_f hb37)).1)) ?_))
                rintro v987 w985 ⟨A986, c986, lo986, hi986, rfl, h986, hrn989, hE988⟩
                exact ⟨⟨A986, c986, lo986, hi986, rfl, h986, hrn989⟩, hE988⟩
               ·intro L990 w991 hi992
                have hE993 := hi992.ex
                have hE993z := Ex.size hE993
                exact os rfl ((yl_loadN ty32 rfl (hi992.old 5 _ rfl rfl) ((Box.ex (Box.ex (Box.mut (Box.ex (Box.mut (Box.mut (Box.mut (Box.ex q623 hE726) hm768 (fun k hk => by simp only [InR, or_false] at hk; omega)) hm777 (fun k hk => by simp only [InR, or_false] at hk; omega)) hm791 (fun k hk => by simp only [InR, or_false] at hk; omega)) hE838) hm842 (fun k hk => by simp only [InR, or_false] at hk; omega)) hE849) hE993).cells (n := 7) rfl) rfl kI))
               ·intro L996 w997 hi998
                have hE999 := hi998.ex
                refine OpR.op' rfl (yC en10 rfl (oc (hi998.dt 4 120 rfl rfl rfl) oz) (Cal.mono (c_l_toStmt p_2 (RdS.up (RdS.ex gS (RdS.ex gS q935 hE849) hE999) gS) (RdS.up (RdS.ex gS (RdS.ex gS q942 hE849) hE999) gS) ((szok_Stmt pre2 (szok_WriteS pre1 (szok_Table pre0 (by decide) (dec_f hb26)).2 (dec_f hb37)).2 (dec_f hb56)).1)) ?_))
                rintro v1006 w1003 ⟨A1004, c1004, lo1004, hi1004, A1005, c1005, lo1005, hi1005, rfl, h1004, h1005, hrn1008, hrn1009, hrn1010, hE1007⟩
                exact ⟨⟨A1004, c1004, lo1004, hi1004, A1005, c1005, lo1005, hi1005, rfl, h1004, h1005, hrn1008, hrn1009, hrn1010⟩, hE1007⟩
               ·intro L1011 w1012 hi1013
                obtain ⟨lo1016, hh1017, _, hx1015, hr1018, hr1019, hr1020, A910_1021, c910_1022, lo910_1023, hi910_1024, A911_1025, c911_1026, lo911_1027, hi911_1028, rfl, h1029, h1030, hrn1031, hrn1032, hrn1033⟩ := hi1013.dep 1 117 rfl rfl
                obtain ⟨lo1035, hh1036, _, hx1034, hr1037, hr1038, hr1039, A922_1040, c922_1041, lo922_1042, hi922_1043, rfl, h1044, hrn1045⟩ := hi1013.dep 3 119 rfl rfl
                obtain ⟨lo1047, hh1048, _, hx1046, hr1049, hr1050, hr1051, A945_1052, c945_1053, lo945_1054, hi945_1055, A946_1056, c946_1057, lo946_1058, hi946_1059, rfl, h1060, h1061, hrn1062, hrn1063, hrn1064⟩ := hi1013.dep 5 121 rfl rfl
                refine OpR.op' rfl (yC en11 rfl (oc hx1015 (oc hx1034 (oc hx1046 oz))) (Cal.mono (c_i_AskStore p_0 p_1 p_2 (RdS.up (OwnL.rd gS h1029) gS) (RdS.up (OwnL.rd gI h1030) gI) (RdS.up (OwnL.rd gW h1044) gW) (RdS.up (OwnL.rd gS h1060) gS) (RdS.up (OwnL.rd gS h1061) gS) ((szok_Table pre0 (by decide) (dec_f hb26)).1) ((szok_WriteS pre1 (szok_Table pre0 (by decide) (dec_f hb26)).2 (dec_f hb37)).1) ((szok_Stmt pre2 (szok_WriteS pre1 (szok_Table pre0 (by decide) (dec_f hb26)).2 (dec_f hb37)).2 (dec_f hb56)).1)) ?_))
                rintro v1073 w1070 ⟨A1071, c1071, lo1071, hi1071, rfl, h1071, ho1072, hrn1075, hE1074⟩
                exact ⟨⟨A1071, c1071, lo1071, hi1071, rfl, h1071, ho1072, hrn1075⟩, hE1074⟩
               ·intro L1076 w1077 hi1078
                have hE1079 := hi1078.ex
                have hE1079z := Ex.size hE1079
                obtain ⟨lo1081, hh1082, _, hx1080, hr1083, hr1084, hr1085, A948_1086, c948_1087, lo948_1088, hi948_1089, rfl, h1090, h1091, hrn1092⟩ := hi1078.dep 6 122 rfl rfl
                exact os rfl ((yM rfl hx1080 ⟨fun _ _ => ⟨A948_1086, c948_1087, rfl, (RdS.ivG good_Row (OwnL.rd good_Row (OwnD.own goodO_Row good_Row h1090)) oM)⟩, rfl⟩))
               ·intro L1093 w1094 hi1095
                obtain ⟨lo1098, hh1099, _, hx1097, hr1100, hr1101, hr1102, A948_1103, c948_1104, rfl, h1105⟩ := hi1095.dep 7 115 rfl rfl
                exact os rfl ((yl_extract rfl hx1097 rfl ⟨fun _ _ => ⟨A948_1103, c948_1104, rfl, h1105⟩, rfl⟩))
               ·intro L1106 w1107 hi1108
                obtain ⟨lo1111, hh1112, _, hx1110, hr1113, hr1114, hr1115, A948_1116, c948_1117, rfl, h1118⟩ := hi1108.dep 7 115 rfl rfl
                exact os rfl ((yl_extract rfl hx1110 rfl kI))
               ·intro L1119 w1120 hi1121
                obtain ⟨lo1124, hh1125, _, hx1123, hr1126, hr1127, hr1128, A948_1129, c948_1130, rfl, h1131⟩ := hi1121.dep 8 123 rfl rfl
                exact os rfl ((yA rfl hx1123 ⟨fun _ _ => ⟨A948_1129, c948_1130, rfl, h1131⟩, rfl⟩))
               ·exact oI rfl fun h => yA rfl (h.dt 9 124 rfl rfl rfl) kI
               ·intro fl1140 fh1141 L1137 w1138 hp1139
                have hE1142 := hp1139.ex
                have hE1142z := Ex.size hE1142
                have hr1148 := hp1139.rng 1 rfl
                obtain ⟨_, hx1147, A910_1149, c910_1150, lo910_1151, hi910_1152, A911_1153, c911_1154, lo911_1155, hi911_1156, rfl, h1157, h1158, hrn1159, hrn1160, hrn1161⟩ := hp1139.new 1 117 rfl rfl
                have hr1163 := hp1139.rng 3 rfl
                have hsp1164 := hp1139.sep 1 3 rfl rfl rfl
                obtain ⟨_, hx1162, A922_1165, c922_1166, lo922_1167, hi922_1168, rfl, h1169, hrn1170⟩ := hp1139.new 3 119 rfl rfl
                have hr1172 := hp1139.rng 5 rfl
                have hsp1173 := hp1139.sep 1 5 rfl rfl rfl
                have hsp1174 := hp1139.sep 3 5 rfl rfl rfl
                obtain ⟨_, hx1171, A945_1175, c945_1176, lo945_1177, hi945_1178, A946_1179, c946_1180, lo946_1181, hi946_1182, rfl, h1183, h1184, hrn1185, hrn1186, hrn1187⟩ := hp1139.new 5 121 rfl rfl
                have hr1189 := hp1139.rng 6 rfl
                have hsp1190 := hp1139.sep 1 6 rfl rfl rfl
                have hsp1191 := hp1139.sep 3 6 rfl rfl rfl
                have hsp1192 := hp1139.sep 5 6 rfl rfl rfl
                obtain ⟨_, hx1188, A948_1193, c948_1194, lo948_1195, hi948_1196, rfl, h1197, h1198, hrn1199⟩ := hp1139.new 6 122 rfl rfl
                obtain ⟨_, hx1200, A948_1201, c948_1202, rfl, h1203⟩ := hp1139.new 10 18 rfl rfl
                have hq1204 := RdS.wideG good_Row h1203 (Nat.le_refl _)
                refine dn (CW.sub (sC 8 (hp1139.old 8 _ rfl rfl) (sC 9 (hp1139.old 9 _ rfl rfl) (sC 13 (hp1139.old 13 _ rfl rfl) (sC 16 (hp1139.old 16 _ rfl rfl) (sC 18 hx1200 (sC 19 (hp1139.nt 11 19 rfl rfl rfl) (Sub.nil _))))))) (CW.seq (cR (sM rfl (sM rfl (sd rfl (yC en12 rfl (oc rfl (oc rfl oz)) (Cal.mono (c_l_eqRowS ((i_AskStore p_0 p_1 p_2).1) ((s_AskStore p_0 p_1 p_2).1) (RdS.up hq1204 good_Row) (RdS.up (RdS.ex good_Row (RdS.ex good_Row (RdS.mut good_Row (RdS.ex good_Row q835 hE838) hm842 (fun k hk => by simp only [InR, or_false, Iv, Ge] at hk ⊢; omega)) hE849) hE1142) good_Row)) ?_))))))))
                rintro v1211 w1210 ⟨rfl, hE1212⟩
                have hE1212z := Ex.size hE1212
                refine sd rfl (yl_not rfl rfl (sM rfl (sy rfl rfl (not_t hb450) (yM rfl rfl (sy rfl rfl (not_t hb450) (yM rfl rfl (sy rfl rfl (not_t hb450) (yl_bneq un4 rfl rfl rfl (sd rfl (yl_pick_f rfl rfl (not_t hb450) rfl (dn (CW.cond_f rfl (not_t hb451) ?_))))))))))))
                refine CW.skip (tn (cR (sA rfl (dn (cR ?_)))))
                refine sM rfl (sM rfl ?_)
                have q1216 := OwnD.ex goodO_Row (OwnD.ex goodO_Row (OwnD.ex goodO_Row h843 hE849) hE1142) hE1212
                have hle1213 := OwnD.len q1216
                refine sd rfl (yC en20 rfl (oc rfl (oc rfl oz)) (Cal.mono (Cal.args (by rw [← hle1213] <;> rfl) (c_l_heldRowS ((l_markRowS ((i_AskStore p_0 p_1 p_2).1) 1).2) 1 (RdS.fix (RdS.up (OwnL.rd good_Row (OwnD.own goodO_Row good_Row q1216)) good_Row)) Bo)) ?_))
                rintro v1219 w1218 ⟨rfl, hE1220⟩
                have hE1220z := Ex.size hE1220
                have hrf1221 := rf_heldRowS ((l_markRowS ((i_AskStore p_0 p_1 p_2).1) 1).2) 1 Bo
                refine sA rfl (dn (CW.seq (cR (sM rfl (sd rfl (yl_lss rfl rfl rfl (SeqR.done ?_)))))))
                refine tn (CW.cond_f rfl hb851 (CW.skip (tn (CW.seq (cR (sM rfl (sM rfl ?_)))))))
                refine sd rfl (yl_neq rfl rfl rfl (dn (CW.cond_f rfl (not_t hb878) (CW.skip (tn (cR (sA rfl ?_)))))))
                refine dn (CW.ret (rr rfl (.cons rfl .nil) ?_))
                have hM1222 : (l_FnExactAskStore p_0 p_1 p_2) = (true) := by simp only [l_FnExactAskStore, hb26, hb37, hb56, hb450, hb451, hb588, hb610, hb753, hb795, hb851, hb878, cL]
                rw [hM1222]
                have q1242 := Ex.mut (Ex.trans (Ex.trans (Ex.trans (Ex.trans (Ex.trans (Ex.trans (Below.only (Ex.trans (Ex.trans (Ex.trans (Below.only (Ex.trans (Ex.trans (Ex.trans (Ex.trans (Ex.trans (Ex.trans (Ex.trans (Ex.trans (Ex.refl w) hE11) hE17) hE25) hE36) hE55) hE280) hE350) hE359) hO362 oM) hE370) hE391) hE400) hO403 oM) hE436) hE449) hE561) hE599) hE609) hE726) hm768 (fun k hk => by simp only [InR, or_false] at hk; omega)
                exact ⟨rfl, (Ex.trans (Ex.trans (Ex.trans (Ex.trans (Ex.mut (Ex.trans (Ex.mut (Ex.mut q1242 hm777 (fun k hk => by simp only [InR, or_false] at hk; omega)) hm791 (fun k hk => by simp only [InR, or_false] at hk; omega)) hE838) hm842 (fun k hk => by simp only [InR, or_false] at hk; omega)) hE849) hE1142) hE1212) hE1220)⟩
              ·have hb878p := dec_f hb878
               refine CW.cond_t rfl (not_f hb878) (cR (sA rfl (dn (CW.ret (tr (rr rfl (.cons rfl .nil) ?_))))))
               have hM1251 : (l_FnExactAskStore p_0 p_1 p_2) = (false) := by simp only [l_FnExactAskStore, hb26, hb37, hb56, hb450, hb451, hb588, hb610, hb753, hb795, hb851, hb878, cL]
               rw [hM1251]
               have q1271 := Ex.mut (Ex.trans (Ex.trans (Ex.trans (Ex.trans (Ex.trans (Ex.trans (Below.only (Ex.trans (Ex.trans (Ex.trans (Below.only (Ex.trans (Ex.trans (Ex.trans (Ex.trans (Ex.trans (Ex.trans (Ex.trans (Ex.trans (Ex.refl w) hE11) hE17) hE25) hE36) hE55) hE280) hE350) hE359) hO362 oM) hE370) hE391) hE400) hO403 oM) hE436) hE449) hE561) hE599) hE609) hE726) hm768 (fun k hk => by simp only [InR, or_false] at hk; omega)
               exact ⟨rfl, (Ex.trans (Ex.mut (Ex.trans (Ex.mut (Ex.mut q1271 hm777 (fun k hk => by simp only [InR, or_false] at hk; omega)) hm791 (fun k hk => by simp only [InR, or_false] at hk; omega)) hE838) hm842 (fun k hk => by simp only [InR, or_false] at hk; omega)) hE849)⟩
           ·refine CW.cond_t rfl (not_f hb753) (cR (sA rfl (dn (CW.ret (tr (rr rfl (.cons rfl .nil) ?_))))))
            have hM1277 : (l_FnExactAskStore p_0 p_1 p_2) = (false) := by simp only [l_FnExactAskStore, hb26, hb37, hb56, hb450, hb451, hb588, hb610, hb753, cL]
            rw [hM1277]
            exact ⟨rfl, (Ex.trans (Ex.trans (Ex.trans (Ex.trans (Ex.trans (Ex.trans (Below.only (Ex.trans (Ex.trans (Ex.trans (Below.only (Ex.trans (Ex.trans (Ex.trans (Ex.trans (Ex.trans (Ex.trans (Ex.trans (Ex.trans (Ex.refl w) hE11) hE17) hE25) hE36) hE55) hE280) hE350) hE359) hO362 oM) hE370) hE391) hE400) hO403 oM) hE436) hE449) hE561) hE599) hE609) hE726)⟩
         ·refine CW.cond_t rfl (not_f hb610) (cR (sA rfl (dn (CW.ret (tr (rr rfl (.cons rfl .nil) ?_))))))
          have hM1297 : (l_FnExactAskStore p_0 p_1 p_2) = (false) := by simp only [l_FnExactAskStore, hb26, hb37, hb56, hb450, hb451, hb588, hb610, cL]
          rw [hM1297]
          exact ⟨rfl, (Ex.trans (Ex.trans (Ex.trans (Ex.trans (Ex.trans (Below.only (Ex.trans (Ex.trans (Ex.trans (Below.only (Ex.trans (Ex.trans (Ex.trans (Ex.trans (Ex.trans (Ex.trans (Ex.trans (Ex.trans (Ex.refl w) hE11) hE17) hE25) hE36) hE55) hE280) hE350) hE359) hO362 oM) hE370) hE391) hE400) hO403 oM) hE436) hE449) hE561) hE599) hE609)⟩
        ·refine CW.cond_t rfl (not_f hb588) (cR (sA rfl (dn (CW.ret (tr (rr rfl (.cons rfl .nil) ?_))))))
         have hM1316 : (l_FnExactAskStore p_0 p_1 p_2) = (false) := by simp only [l_FnExactAskStore, hb26, hb37, hb56, hb450, hb451, hb588, cL]
         rw [hM1316]
         exact ⟨rfl, (Ex.trans (Ex.trans (Ex.trans (Below.only (Ex.trans (Ex.trans (Ex.trans (Below.only (Ex.trans (Ex.trans (Ex.trans (Ex.trans (Ex.trans (Ex.trans (Ex.trans (Ex.trans (Ex.refl w) hE11) hE17) hE25) hE36) hE55) hE280) hE350) hE359) hO362 oM) hE370) hE391) hE400) hO403 oM) hE436) hE449) hE561)⟩
      ·refine CW.cond_t rfl (not_f hb451) (cR (sA rfl (dn (CW.ret (tr (rr rfl (.cons rfl .nil) ?_))))))
       have hM1333 : (l_FnExactAskStore p_0 p_1 p_2) = (false) := by simp only [l_FnExactAskStore, hb26, hb37, hb56, hb450, hb451, cL]
       rw [hM1333]
       exact ⟨rfl, (Ex.trans (Ex.trans (Below.only (Ex.trans (Ex.trans (Ex.trans (Below.only (Ex.trans (Ex.trans (Ex.trans (Ex.trans (Ex.trans (Ex.trans (Ex.trans (Ex.trans (Ex.refl w) hE11) hE17) hE25) hE36) hE55) hE280) hE350) hE359) hO362 oM) hE370) hE391) hE400) hO403 oM) hE436) hE449)⟩
     ·refine sz rfl rfl (not_f hb450) (sz rfl rfl (not_f hb450) (sz rfl rfl (not_f hb450) (sd rfl (yl_pick_t rfl rfl (not_f hb450) rfl (dn (CW.cond_t rfl rfl (cR ?_)))))))
      refine sA rfl (dn (CW.ret (tr (rr rfl (.cons rfl .nil) ?_))))
      have hM1349 : (l_FnExactAskStore p_0 p_1 p_2) = (false) := by simp only [l_FnExactAskStore, hb26, hb37, hb56, hb450, cL]
      rw [hM1349]
      exact ⟨rfl, (Ex.trans (Ex.trans (Below.only (Ex.trans (Ex.trans (Ex.trans (Below.only (Ex.trans (Ex.trans (Ex.trans (Ex.trans (Ex.trans (Ex.trans (Ex.trans (Ex.trans (Ex.refl w) hE11) hE17) hE25) hE36) hE55) hE280) hE350) hE359) hO362 oM) hE370) hE391) hE400) hO403 oM) hE436) hE449)⟩
end Go.Proofs.YtgehpfmdnkmiaaaGreatDoor
