/- Fn Fill Ops: what each call returns, part 2. -/
import Derived.Test.YtfcofekfcmidoaaGreatDoorFnFillOpsC1
set_option maxRecDepth 100000
set_option maxHeartbeats 2000000
open Go.Proofs.Tryz Go.Proofs.YtfcofekfcmidoaaGreatDoor.Tryz
set_option linter.unusedVariables false
set_option linter.unusedSimpArgs false
namespace Go.Proofs.YtfcofekfcmidoaaGreatDoor
open Go.RowKit Go.X
theorem c_g_slices_Contains_string {A1 : Option Addr} {c1 : Nat} {w : World} (p_s : List Str) (p_v : Str) (h1 : RdS w (Iv 0 w.heap.size) (RF e_Str) 1 A1 p_s.length c1 p_s) (o2 : (okL okS) p_s) (o3 : okS p_v) : Cal Tryz.prog 63 #[.slice A1 p_s.length c1, .string (bs (p_v))] w fun v w' => v = .bool ((g_slices_Contains_string p_s p_v)) ∧ Ex w w' := by
 refine Cal.of func63 rfl ntmps63 rfl (cR (sA rfl (dn (cR (sM rfl ?_)))))
 refine sM rfl (sd rfl (yC en96 rfl (oc rfl (oc rfl oz)) (Cal.mono (c_g_slices_Index_string p_s p_v (RdS.up h1 gS) o2 o3) ?_)))
 rintro v7 w6 ⟨rfl, hE8⟩
 refine sd rfl (yl_geq rfl rfl rfl (sA rfl (dn (CW.ret (rr rfl (.cons rfl .nil) ?_)))))
 have hM9 : (g_slices_Contains_string p_s p_v) = (decide (0 ≤ (g_slices_Index_string p_s p_v))) := by simp only [g_slices_Contains_string, cL]
 rw [hM9]
 exact ⟨rfl, (Ex.trans (Ex.refl w) hE8)⟩
theorem c_i_isStage {w : World} (p_stage : Int) : Cal Tryz.prog 64 #[.int .i64 (p_stage)] w fun v w' => v = .bool ((i_isStage p_stage)) ∧ Ex w w' := by
 refine Cal.of func64 rfl ntmps64 rfl (cR (sA rfl (dn (cR (sM rfl ?_)))))
 refine sd rfl (yC en62 rfl (oc rfl (oc rfl (oc rfl oz))) (Cal.mono (c_i_within p_stage 0 3) ?_))
 rintro v2 w1 ⟨rfl, hE3⟩
 refine sA rfl (dn (CW.ret (rr rfl (.cons rfl .nil) ?_)))
 have hM4 : (i_isStage p_stage) = ((i_within p_stage 0 3)) := by simp only [i_isStage, cL]
 rw [hM4]
 exact ⟨rfl, (Ex.trans (Ex.refl w) hE3)⟩
theorem c_i_GoodTable {A1 : Option Addr} {c1 : Nat} {A2 : Option Addr} {c2 : Nat} {w : World} (p_0 : DTable) (h1 : RdS w (Iv 0 w.heap.size) (RF e_Str) 1 A1 p_0.Cols.length c1 p_0.Cols) (h2 : RdS w (Iv 0 w.heap.size) (RF e_Idx) 3 A2 p_0.Idxs.length c2 p_0.Idxs) (o3 : ok_Table p_0) : Cal Tryz.prog 34 #[.agg #[.string (bs (p_0.Name)), .slice A1 p_0.Cols.length c1, .slice A2 p_0.Idxs.length c2]] w fun v w' => v = .bool ((i_GoodTable p_0)) ∧ Ex w w' := by
 have hol4 : p_0.Name.length ≤ 1073741824 := o3.1
 have hol5 := o3.2.1.1
 have hol6 := o3.2.2.1
 refine Cal.of func34 rfl ntmps34 rfl (cR (sd rfl (yl_box rfl rfl rfl ?_)))
 intro b7 w8 hs9 hz10 hB11 hE12
 refine sA rfl (dn (CW.seq (cR (sd rfl (yl_fieldAddr fd26_0 rfl rfl (sd rfl (yl_load1 ty9 rfl rfl ((hB11.cell 0).trans rfl) (sd rfl (yC en61 rfl (oc rfl (oc rfl oz)) (Cal.mono (c_i_areLetters p_0.Name 1 o3.1) ?_))))))))))
 rintro v14 w13 ⟨rfl, hE15⟩
 have hE15z := Ex.size hE15
 refine sd rfl (yl_not rfl rfl (sM rfl (bcase (i_areLetters p_0.Name 1) (fun hb16 => ?_) (fun hb16 => ?_))))
 ·refine sy rfl rfl (not_t hb16) (yl_fieldAddr fd26_1 rfl rfl ?_)
  have q17 := Box.ex hB11 hE15
  refine sy rfl rfl (not_t hb16) (yl_load1 ty23 rfl rfl ((q17.cell 1).trans rfl) (sy rfl rfl (not_t hb16) (yL un23 rfl rfl (sy rfl rfl (not_t hb16) (yC en62 rfl (oc rfl (oc rfl (oc rfl oz))) (Cal.mono (c_i_within (p_0.Cols.length : Int) 2 4) ?_))))))
  rintro v19 w18 ⟨rfl, hE20⟩
  have hE20z := Ex.size hE20
  refine sy rfl rfl (not_t hb16) (yl_not rfl rfl (sd rfl (yl_pick_f rfl rfl (not_t hb16) rfl (sM rfl (bcase (i_within (p_0.Cols.length : Int) 2 4) (fun hb21 => ?_) (fun hb21 => ?_))))))
  ·have hb21p := f_within hb21
   refine sy rfl rfl (not_t hb21) (yl_fieldAddr fd26_2 rfl rfl ?_)
   have q22 := Box.ex q17 hE20
   refine sy rfl rfl (not_t hb21) (yl_load1 ty24 rfl rfl ((q22.cell 2).trans rfl) (sy rfl rfl (not_t hb21) (yL un24 rfl rfl (sy rfl rfl (not_t hb21) (yl_gtr rfl rfl rfl (sd rfl (yl_pick_f rfl rfl (not_t hb21) rfl (dn (bcase (decide (3 < (p_0.Idxs.length : Int))) (fun hb23 => ?_) (fun hb23 => ?_))))))))))
   ·have hb23p := dec_t hb23
    refine CW.cond_t rfl hb23 (cR (sA rfl (dn (CW.ret (tr (rr rfl (.cons rfl .nil) ?_))))))
    have hM24 : (i_GoodTable p_0) = (false) := by simp only [i_GoodTable, hb16, hb21, hb23, cL]
    rw [hM24]
    exact ⟨rfl, (Ex.trans (Ex.trans (Ex.trans (Ex.refl w) hE12) hE15) hE20)⟩
   ·have hb23p := dec_f hb23
    refine CW.cond_f rfl hb23 (CW.skip (tn (CW.seq (cR (sd rfl (yl_fieldAddr fd26_1 rfl rfl (sd rfl (yl_load1 ty23 rfl rfl ((q22.cell 1).trans rfl) (sd rfl (yL un23 rfl rfl ?_))))))))))
    refine sM rfl (dn (CW.block (CW.loop (fun m29 L30 w31 => ∃ (k28 : Nat), m29 = p_0.Cols.length - k28 ∧ k28 ≤ p_0.Cols.length ∧ w18.heap.size ≤ w31.heap.size ∧ lkp L30 1 = some (.pointer (some ⟨b7, 0, none⟩)) ∧ lkp L30 25 = some (.slice A1 p_0.Cols.length c1) ∧ lkp L30 26 = some (.int .i64 ((p_0.Cols.length : Int))) ∧ lkp L30 27 = some (.int .i64 ((k28 : Int))) ∧ Box w31 b7 26 [.string (bs (p_0.Name)), .slice A1 p_0.Cols.length c1, .slice A2 p_0.Idxs.length c2] ∧ RdS w31 (Iv 0 w.heap.size) (RF e_Str) 1 A1 p_0.Cols.length c1 p_0.Cols ∧ RdS w31 (Iv 0 w.heap.size) (RF e_Idx) 3 A2 p_0.Idxs.length c2 p_0.Idxs ∧ Ex w w31 ∧ loopM (B_i_GoodTable_0 p_0) (p_0.Cols.length - k28) k28 () = loopM (B_i_GoodTable_0 p_0) (p_0.Cols.length - 0) 0 ()) (p_0.Cols.length - 0) ?_ ?_)))
    ·exact ⟨0, rfl, oM, Nat.le_refl _, rfl, rfl, rfl, rfl, q22, (RdS.ex gS (RdS.ex gS (RdS.ex gS h1 hE12) hE15) hE20), (RdS.ex gI (RdS.ex gI (RdS.ex gI h2 hE12) hE15) hE20), (Ex.trans (Ex.trans (Ex.trans (Ex.refl w) hE12) hE15) hE20), rfl⟩
    ·rintro m41 L42 w43 ⟨k28, rfl, hk44, hsz46, hl47, hl48, hl49, hl50, hf51, hf52, hf53, hf54, hI45⟩
     refine CW.sub (Sub.cons hl47 (Sub.cons hl48 (Sub.cons hl49 (Sub.cons hl50 (Sub.nil _))))) ?_
     have hf51z := Box.lt hf51
     have hf54z := Ex.size hf54
     have hbg55 := RdS.big hf52
     rcases Nat.lt_or_ge k28 p_0.Cols.length with hlt56 | hlt56
     ·refine cR (sd rfl (yl_lss rfl rfl rfl (dn (CW.seq (CW.cond_t rfl (lt_t hlt56) (CW.skip (tn ?_)))))))
      refine CW.seq (CW.block (cR (sM rfl ?_)))
      obtain ⟨eb57, eo57, _, eA57, _, ebl57, _, eR57, eC57⟩ := RdS.aD hf52 d_Str (i := k28)
      obtain rfl := eR57
      have eC57 : Cells w43 eb57 (eo57 + k28 * 1) [.string (bs ((p_0.Cols.getD k28 d_Str)))] := eC57
      refine sd rfl (yl_ixN un23 ty9 rfl rfl rfl eA57 (sd rfl (yl_load1 ty9 rfl rfl (eC57 0 _ rfl) (sA rfl (sA rfl (dn (cR (sM rfl ?_))))))))
      refine sd rfl (yC en61 rfl (oc rfl (oc rfl oz)) (Cal.mono (c_i_areLetters (p_0.Cols.getD k28 d_Str) 3 (okL.getD o3.2.1 ok_d_Str _)) ?_))
      rintro v59 w58 ⟨rfl, hE60⟩
      have hE60z := Ex.size hE60
      refine sd rfl (yl_not rfl rfl (sM rfl (bcase (i_areLetters (p_0.Cols.getD k28 d_Str) 3) (fun hb61 => ?_) (fun hb61 => ?_))))
      ·refine sy rfl rfl (not_t hb61) (yl_fieldAddr fd26_1 rfl rfl ?_)
       have q62 := Box.ex hf51 hE60
       refine sy rfl rfl (not_t hb61) (yl_load1 ty23 rfl rfl ((q62.cell 1).trans rfl) (sy rfl rfl (not_t hb61) (yM rfl rfl ?_)))
       have q63 := RdS.ex gS hf52 hE60
       obtain ⟨A64, c65, he68, h67⟩ := RdS.sl (RdS.drop (RdS.take q63 (k := k28) oM) (k := 0) oM)
       have hrc69 := (q63).2.1
       refine sy rfl rfl (not_t hb61) (yl_sliceR (kl := .i64) (l := 0) (h := k28) un23 ty9 rfl rfl (.inl ⟨rfl, rfl⟩) (.inr ⟨_, rfl, rfl⟩) oM oM he68 (sy rfl rfl (not_t hb61) (yM rfl rfl (sy rfl rfl (not_t hb61) (yC en63 rfl (oc rfl (oc rfl oz)) (Cal.mono (c_g_slices_Contains_string (p_0.Cols.take k28) (p_0.Cols.getD k28 d_Str) (RdS.up h67 gS) (okL.take o3.2.1 _) (okL.getD o3.2.1 ok_d_Str _)) ?_))))))
       rintro v71 w70 ⟨rfl, hE72⟩
       have hE72z := Ex.size hE72
       refine sd rfl (yl_pick_f rfl rfl (not_t hb61) rfl (dn (bcase (g_slices_Contains_string (p_0.Cols.take k28) (p_0.Cols.getD k28 d_Str)) (fun hb73 => ?_) (fun hb73 => ?_))))
       ·refine CW.cond_t rfl hb73 (cR (sA rfl (dn (CW.ret (br (tr ?_))))))
        refine tr ?_
        have hB75 : B_i_GoodTable_0 p_0 k28 () = .ret false := by simp only [B_i_GoodTable_0, hb16, hb21, hb23, hb61, hb73, cL]
        have hL74 : loopM (B_i_GoodTable_0 p_0) (p_0.Cols.length - 0) 0 () = .ret false := hI45.symm.trans (loopM.ret hlt56 hB75)
        refine br (tr (rr rfl (.cons rfl .nil) ?_))
        have hM76 : (i_GoodTable p_0) = (false) := by simp only [i_GoodTable, hb16, hb21, hb23, hb61, hb73, hL74, cL]
        rw [hM76]
        exact ⟨rfl, (Ex.trans (Ex.trans hf54 hE60) hE72)⟩
       ·refine CW.cond_f rfl hb73 (CW.skip (bn (tn (CW.region (sd rfl (yl_inc rfl rfl rfl oM (sM rfl (dn ?_))))))))
        have hB79 : B_i_GoodTable_0 p_0 k28 () = .cont () := by simp only [B_i_GoodTable_0, hb16, hb21, hb23, hb61, hb73, cL]
        exact ⟨p_0.Cols.length - (k28 + 1), oM, k28 + 1, rfl, hlt56, oM, rfl, rfl, rfl, rfl, (Box.ex q62 hE72), (RdS.ex gS q63 hE72), (RdS.ex gI (RdS.ex gI hf53 hE60) hE72), (Ex.trans (Ex.trans hf54 hE60) hE72), (loopM.cont hlt56 hB79).symm.trans hI45⟩
      ·refine sz rfl rfl (not_f hb61) (sz rfl rfl (not_f hb61) (sz rfl rfl (not_f hb61) (sz rfl rfl (not_f hb61) (sz rfl rfl (not_f hb61) (sz rfl rfl (not_f hb61) (sd rfl (yl_pick_t rfl rfl (not_f hb61) rfl (dn ?_))))))))
       refine CW.cond_t rfl rfl (cR (sA rfl (dn (CW.ret (br (tr ?_))))))
       refine tr ?_
       have hB87 : B_i_GoodTable_0 p_0 k28 () = .ret false := by simp only [B_i_GoodTable_0, hb16, hb21, hb23, hb61, cL]
       have hL86 : loopM (B_i_GoodTable_0 p_0) (p_0.Cols.length - 0) 0 () = .ret false := hI45.symm.trans (loopM.ret hlt56 hB87)
       refine br (tr (rr rfl (.cons rfl .nil) ?_))
       have hM88 : (i_GoodTable p_0) = (false) := by simp only [i_GoodTable, hb16, hb21, hb23, hb61, hL86, cL]
       rw [hM88]
       exact ⟨rfl, (Ex.trans hf54 hE60)⟩
     ·refine cR (sd rfl (yl_lss rfl rfl rfl (dn (CW.seq (CW.cond_f rfl (lt_f hlt56) (CW.exit (tx ?_)))))))
      refine tx ?_
      have hL90 : loopM (B_i_GoodTable_0 p_0) (p_0.Cols.length - 0) 0 () = .done () := hI45.symm.trans (loopM.stop hlt56)
      refine bx (tn (CW.seq (cR (sd rfl (yl_fieldAddr fd26_2 rfl rfl (sd rfl (yl_load1 ty24 rfl rfl ((hf51.cell 2).trans rfl) (sd rfl (yL un24 rfl rfl (sM rfl ?_))))))))))
      refine dn (CW.block (CW.loop (fun m129 L130 w131 => ∃ (k91 : Nat), m129 = p_0.Idxs.length - k91 ∧ k91 ≤ p_0.Idxs.length ∧ w43.heap.size ≤ w131.heap.size ∧ lkp L130 1 = some (.pointer (some ⟨b7, 0, none⟩)) ∧ lkp L130 45 = some (.slice A2 p_0.Idxs.length c2) ∧ lkp L130 46 = some (.int .i64 ((p_0.Idxs.length : Int))) ∧ lkp L130 47 = some (.int .i64 ((k91 : Int))) ∧ Box w131 b7 26 [.string (bs (p_0.Name)), .slice A1 p_0.Cols.length c1, .slice A2 p_0.Idxs.length c2] ∧ RdS w131 (Iv 0 w.heap.size) (RF e_Str) 1 A1 p_0.Cols.length c1 p_0.Cols ∧ RdS w131 (Iv 0 w.heap.size) (RF e_Idx) 3 A2 p_0.Idxs.length c2 p_0.Idxs ∧ Ex w w131 ∧ loopM (B_i_GoodTable_1 p_0) (p_0.Idxs.length - k91) k91 () = loopM (B_i_GoodTable_1 p_0) (p_0.Idxs.length - 0) 0 ()) (p_0.Idxs.length - 0) ?_ ?_))
      ·exact ⟨0, rfl, oM, Nat.le_refl _, rfl, rfl, rfl, rfl, hf51, hf52, hf53, hf54, rfl⟩
      ·rintro m132 L133 w134 ⟨k91, rfl, hk135, hsz137, hl138, hl139, hl140, hl141, hf142, hf143, hf144, hf145, hI136⟩
       refine CW.sub (Sub.cons hl138 (Sub.cons hl139 (Sub.cons hl140 (Sub.cons hl141 (Sub.nil _))))) ?_
       have hf142z := Box.lt hf142
       have hf145z := Ex.size hf145
       have hbg146 := RdS.big hf144
       rcases Nat.lt_or_ge k91 p_0.Idxs.length with hlt147 | hlt147
       ·refine cR (sd rfl (yl_lss rfl rfl rfl (dn (CW.seq (CW.cond_t rfl (lt_t hlt147) (CW.skip (tn ?_)))))))
        refine CW.seq (CW.block (cR (sM rfl ?_)))
        obtain ⟨eb148, eo148, _, eA148, _, ebl148, _, eR148, eC148⟩ := RdS.aD hf144 d_Idx (i := k91)
        obtain rfl := eR148
        have eC148 : Cells w134 eb148 (eo148 + k91 * 3) [.string (bs ((p_0.Idxs.getD k91 d_Idx).Name)), .int .i64 ((p_0.Idxs.getD k91 d_Idx).Col), .int .i64 ((p_0.Idxs.getD k91 d_Idx).Stage)] := eC148
        refine sd rfl (yl_ixN un24 ty54 rfl rfl rfl eA148 (sd rfl (yl_loadN ty54 rfl rfl eC148 rfl (sd rfl (yB ty54 (cs := [.string (bs (([] : Str))), .int .i64 (0), .int .i64 (0)]) rfl rfl ?_)))))
        intro b149 w150 hs151 hz152 hB153 hE154
        refine sA rfl (SeqR.u rfl rfl (yl_store (vs := [.string (bs ((p_0.Idxs.getD k91 d_Idx).Name)), .int .i64 ((p_0.Idxs.getD k91 d_Idx).Col), .int .i64 ((p_0.Idxs.getD k91 d_Idx).Stage)]) ty54 rfl rfl rfl rfl rfl rfl hB153 (nb rfl) ?_))
        intro w155 hB156 hO157
        have hB156 : Box w155 b149 54 [.string (bs ((p_0.Idxs.getD k91 d_Idx).Name)), .int .i64 ((p_0.Idxs.getD k91 d_Idx).Col), .int .i64 ((p_0.Idxs.getD k91 d_Idx).Stage)] := hB156
        have hO157z := hO157.size
        refine dn (CW.seq (bcase (i_areLetters ((p_0.Idxs.getD k91 d_Idx).Name) 1) (fun hb159 => ?_) (fun hb159 => ?_)))
        ·refine bcase (i_within ((p_0.Idxs.getD k91 d_Idx).Col) 1 (IntKind.wrap .i64 ((p_0.Cols.length : Int) - 1))) (fun hb164 => ?_) (fun hb164 => ?_)
         ·have hb164p := f_within hb164
          refine bcase (i_isStage ((p_0.Idxs.getD k91 d_Idx).Stage)) (fun hb170 => ?_) (fun hb170 => ?_)
          ·have hb170p := f_i_isStage hb170
           refine bcase (decide (0 < (k91 : Int))) (fun hb176 => ?_) (fun hb176 => ?_)
           ·have hb176p := dec_t hb176
            have q179 := Box.only (Box.ex hf142 hE154) hO157 oM
            have q183 := RdS.only gI (RdS.ex gI hf144 hE154) hO157 (by simp only [Iv]; omega)
            obtain ⟨eb184, eo184, _, eA184, _, ebl184, _, eR184, eC184⟩ := RdS.atD q183 d_Idx (i := (IntKind.wrap .i64 ((k91 : Int) - 1)).toNat) Bo
            obtain rfl := eR184
            have eC184 : Cells w155 eb184 (eo184 + ((IntKind.wrap .i64 ((k91 : Int) - 1)).toNat) * 3) [.string (bs ((p_0.Idxs.getD ((IntKind.wrap .i64 ((k91 : Int) - 1)).toNat) d_Idx).Name)), .int .i64 ((p_0.Idxs.getD ((IntKind.wrap .i64 ((k91 : Int) - 1)).toNat) d_Idx).Col), .int .i64 ((p_0.Idxs.getD ((IntKind.wrap .i64 ((k91 : Int) - 1)).toNat) d_Idx).Stage)] := eC184
            refine drI 36 [.pointer (some ⟨b149, 0 + 0, none⟩), .string (bs ((p_0.Idxs.getD k91 d_Idx).Name)), .bool ((i_areLetters ((p_0.Idxs.getD k91 d_Idx).Name) 1)), .bool (!(i_areLetters ((p_0.Idxs.getD k91 d_Idx).Name) 1)), .bool (!(i_areLetters ((p_0.Idxs.getD k91 d_Idx).Name) 1)), .pointer (some ⟨b149, 0 + 1, none⟩), .int .i64 ((p_0.Idxs.getD k91 d_Idx).Col), .pointer (some ⟨b7, 0 + 1, none⟩), .slice A1 p_0.Cols.length c1, .int .i64 ((p_0.Cols.length : Int)), .int .i64 (IntKind.wrap .i64 ((p_0.Cols.length : Int) - 1)), .bool ((i_within ((p_0.Idxs.getD k91 d_Idx).Col) 1 (IntKind.wrap .i64 ((p_0.Cols.length : Int) - 1)))), .bool (!(i_within ((p_0.Idxs.getD k91 d_Idx).Col) 1 (IntKind.wrap .i64 ((p_0.Cols.length : Int) - 1)))), .bool (!(i_within ((p_0.Idxs.getD k91 d_Idx).Col) 1 (IntKind.wrap .i64 ((p_0.Cols.length : Int) - 1)))), .bool (!(i_within ((p_0.Idxs.getD k91 d_Idx).Col) 1 (IntKind.wrap .i64 ((p_0.Cols.length : Int) - 1)))), .pointer (some ⟨b149, 0 + 2, none⟩), .int .i64 ((p_0.Idxs.getD k91 d_Idx).Stage), .bool ((i_isStage ((p_0.Idxs.getD k91 d_Idx).Stage))), .bool (!(i_isStage ((p_0.Idxs.getD k91 d_Idx).Stage))), .bool (!(i_isStage ((p_0.Idxs.getD k91 d_Idx).Stage))), .bool (!(i_isStage ((p_0.Idxs.getD k91 d_Idx).Stage))), .int .i64 ((k91 : Int)), .bool (decide (0 < (k91 : Int))), .bool (decide (0 < (k91 : Int))), .pointer (some ⟨b149, 0 + 0, none⟩), .string (bs ((p_0.Idxs.getD k91 d_Idx).Name)), .pointer (some ⟨b7, 0 + 2, none⟩), .slice A2 p_0.Idxs.length c2, .int .i64 ((k91 : Int)), .int .i64 (IntKind.wrap .i64 ((k91 : Int) - 1)), .pointer (some ⟨eb184, eo184 + ((IntKind.wrap .i64 ((k91 : Int) - 1)).toNat) * 3, none⟩), .pointer (some ⟨eb184, eo184 + ((IntKind.wrap .i64 ((k91 : Int) - 1)).toNat) * 3 + 0, none⟩), .string (bs ((p_0.Idxs.getD ((IntKind.wrap .i64 ((k91 : Int) - 1)).toNat) d_Idx).Name)), .bool (sLe ((p_0.Idxs.getD k91 d_Idx).Name) ((p_0.Idxs.getD ((IntKind.wrap .i64 ((k91 : Int) - 1)).toNat) d_Idx).Name)), .bool (sLe ((p_0.Idxs.getD k91 d_Idx).Name) ((p_0.Idxs.getD ((IntKind.wrap .i64 ((k91 : Int) - 1)).toNat) d_Idx).Name)), .bool (sLe ((p_0.Idxs.getD k91 d_Idx).Name) ((p_0.Idxs.getD ((IntKind.wrap .i64 ((k91 : Int) - 1)).toNat) d_Idx).Name))] Tryz.follows rfl ⟨?_, ?_, ?_, ?_, ?_, ?_, ?_, ?_, ?_, ?_, ?_, ?_, ?_, ?_, ?_, ?_, ?_, ?_, ?_, ?_, ?_, ?_, ?_, ?_, ?_, ?_, ?_, ?_, ?_, ?_, ?_, ?_, ?_, ?_, ?_, ?_, trivial⟩ ?_
            ·exact oI rfl fun h => yl_fieldAddr fd54_0 rfl (h.old 6 _ rfl rfl) kI
            ·exact oI rfl fun h => yl_load1 ty9 rfl (h.dt 0 52 rfl rfl rfl) (((Box.ex hB156 h.ex).cell 0).trans rfl) kI
            ·intro L196 w197 hi198
             exact OpR.op' rfl (yC en61 rfl (oc (hi198.dt 1 53 rfl rfl rfl) (oc rfl oz)) (Cal.mono (c_i_areLetters ((p_0.Idxs.getD k91 d_Idx).Name) 1 (okL.getD o3.2.2 ok_d_Idx _)) fun _ _ h => h))
            ·exact oI rfl fun h => yl_not rfl (h.dt 2 54 rfl rfl rfl) kI
            ·exact oI rfl fun h => yM rfl (h.dt 3 55 rfl rfl rfl) kI
            ·exact oW rfl rfl rfl rfl (not_t hb159) fun h => yl_fieldAddr fd54_1 rfl (h.old 6 _ rfl rfl) kI
            ·exact oW rfl rfl rfl rfl (not_t hb159) fun h => yl_load1 ty3 rfl (h.dt 5 57 rfl rfl rfl) (((Box.ex hB156 h.ex).cell 1).trans rfl) kI
            ·exact oW rfl rfl rfl rfl (not_t hb159) fun h => yl_fieldAddr fd26_1 rfl (h.old 1 _ rfl rfl) kI
            ·exact oW rfl rfl rfl rfl (not_t hb159) fun h => yl_load1 ty23 rfl (h.dt 7 59 rfl rfl rfl) (((Box.ex q179 h.ex).cell 1).trans rfl) kI
            ·exact oW rfl rfl rfl rfl (not_t hb159) fun h => yL un23 rfl (h.dt 8 60 rfl rfl rfl) kI
            ·exact oW rfl rfl rfl rfl (not_t hb159) fun h => yl_sub rfl (h.dt 9 61 rfl rfl rfl) rfl kI
            ·intro L252 w253 hi254
             exact OpR.want rfl rfl (hi254.dt 4 56 rfl rfl rfl) (not_t hb159) (yC en62 rfl (oc (hi254.dt 6 58 rfl rfl rfl) (oc rfl (oc (hi254.dt 10 62 rfl rfl rfl) oz))) (Cal.mono (c_i_within ((p_0.Idxs.getD k91 d_Idx).Col) 1 (IntKind.wrap .i64 ((p_0.Cols.length : Int) - 1))) fun _ _ h => h))
            ·exact oW rfl rfl rfl rfl (not_t hb159) fun h => yl_not rfl (h.dt 11 63 rfl rfl rfl) kI
            ·exact oI rfl fun h => yl_pick_f rfl (h.dt 4 56 rfl rfl rfl) (not_t hb159) (h.dt 12 64 rfl rfl rfl) kI
            ·exact oI rfl fun h => yM rfl (h.dt 13 65 rfl rfl rfl) kI
            ·exact oW rfl rfl rfl rfl (not_t hb164) fun h => yl_fieldAddr fd54_2 rfl (h.old 6 _ rfl rfl) kI
            ·exact oW rfl rfl rfl rfl (not_t hb164) fun h => yl_load1 ty3 rfl (h.dt 15 67 rfl rfl rfl) (((Box.ex hB156 h.ex).cell 2).trans rfl) kI
            ·intro L292 w293 hi294
             exact OpR.want rfl rfl (hi294.dt 14 66 rfl rfl rfl) (not_t hb164) (yC en64 rfl (oc (hi294.dt 16 68 rfl rfl rfl) oz) (Cal.mono (c_i_isStage ((p_0.Idxs.getD k91 d_Idx).Stage)) fun _ _ h => h))
            ·exact oW rfl rfl rfl rfl (not_t hb164) fun h => yl_not rfl (h.dt 17 69 rfl rfl rfl) kI
            ·exact oI rfl fun h => yl_pick_f rfl (h.dt 14 66 rfl rfl rfl) (not_t hb164) (h.dt 18 70 rfl rfl rfl) kI
            ·exact oI rfl fun h => yM rfl (h.dt 19 71 rfl rfl rfl) kI
            ·exact oW rfl rfl rfl rfl (not_t hb170) fun h => yM rfl (h.old 5 _ rfl rfl) kI
            ·exact oW rfl rfl rfl rfl (not_t hb170) fun h => yl_gtr rfl (h.dt 21 73 rfl rfl rfl) rfl kI
            ·exact oW rfl rfl rfl rfl (not_t hb170) fun h => yM rfl (h.dt 22 74 rfl rfl rfl) kI
            ·exact oW rfl rfl rfl rfl hb176 fun h => yl_fieldAddr fd54_0 rfl (h.old 6 _ rfl rfl) kI
            ·exact oW rfl rfl rfl rfl hb176 fun h => yl_load1 ty9 rfl (h.dt 24 76 rfl rfl rfl) (((Box.ex hB156 h.ex).cell 0).trans rfl) kI
            ·exact oW rfl rfl rfl rfl hb176 fun h => yl_fieldAddr fd26_2 rfl (h.old 1 _ rfl rfl) kI
            ·exact oW rfl rfl rfl rfl hb176 fun h => yl_load1 ty24 rfl (h.dt 26 78 rfl rfl rfl) (((Box.ex q179 h.ex).cell 2).trans rfl) kI
            ·exact oW rfl rfl rfl rfl hb176 fun h => yM rfl (h.old 5 _ rfl rfl) kI
            ·exact oW rfl rfl rfl rfl hb176 fun h => yl_sub rfl (h.dt 28 80 rfl rfl rfl) rfl kI
            ·intro L374 w375 hi376
             have hE377 := hi376.ex
             have hE377z := Ex.size hE377
             exact OpR.want rfl rfl (hi376.dt 23 75 rfl rfl rfl) hb176 (Yl.sameI (yl_indexAddr un24 ty54 rfl (hi376.dt 27 79 rfl rfl rfl) (hi376.dt 29 81 rfl rfl rfl) eA184 Bo Bo kI))
            ·exact oW rfl rfl rfl rfl hb176 fun h => yl_fieldAddr fd54_0 rfl (h.dt 30 82 rfl rfl rfl) kI
            ·exact oW rfl rfl rfl rfl hb176 fun h => yl_load1 ty9 rfl (h.dt 31 83 rfl rfl rfl) ((Cells.ex eC184 h.ex) 0 _ rfl) kI
            ·exact oW rfl rfl rfl rfl hb176 fun h => yl_sleq (a := ((p_0.Idxs.getD k91 d_Idx).Name)) (b := ((p_0.Idxs.getD ((IntKind.wrap .i64 ((k91 : Int) - 1)).toNat) d_Idx).Name)) rfl (h.dt 25 77 rfl rfl rfl) (h.dt 32 84 rfl rfl rfl) kI
            ·exact oW rfl rfl rfl rfl (not_t hb170) fun h => yl_pick_t rfl (h.dt 23 75 rfl rfl rfl) hb176 (h.dt 33 85 rfl rfl rfl) kI
            ·exact oI rfl fun h => yl_pick_f rfl (h.dt 20 72 rfl rfl rfl) (not_t hb170) (h.dt 34 86 rfl rfl rfl) kI
            ·intro fl417 fh418 L414 w415 hp416
             have hE419 := hp416.ex
             have hE419z := Ex.size hE419
             refine dn (CW.sub (sC 1 (hp416.old 1 _ rfl rfl) (sC 45 (hp416.old 45 _ rfl rfl) (sC 46 (hp416.old 46 _ rfl rfl) (sC 47 (hp416.old 47 _ rfl rfl) (sC 57 (hp416.nt 5 57 rfl rfl rfl) (sC 58 (hp416.nt 6 58 rfl rfl rfl) (sC 59 (hp416.nt 7 59 rfl rfl rfl) (sC 60 (hp416.nt 8 60 rfl rfl rfl) (sC 61 (hp416.nt 9 61 rfl rfl rfl) (sC 62 (hp416.nt 10 62 rfl rfl rfl) (sC 63 (hp416.nt 11 63 rfl rfl rfl) (sC 64 (hp416.nt 12 64 rfl rfl rfl) (sC 67 (hp416.nt 15 67 rfl rfl rfl) (sC 68 (hp416.nt 16 68 rfl rfl rfl) (sC 69 (hp416.nt 17 69 rfl rfl rfl) (sC 70 (hp416.nt 18 70 rfl rfl rfl) (sC 73 (hp416.nt 21 73 rfl rfl rfl) (sC 74 (hp416.nt 22 74 rfl rfl rfl) (sC 75 (hp416.nt 23 75 rfl rfl rfl) (sC 76 (hp416.nt 24 76 rfl rfl rfl) (sC 77 (hp416.nt 25 77 rfl rfl rfl) (sC 78 (hp416.nt 26 78 rfl rfl rfl) (sC 79 (hp416.nt 27 79 rfl rfl rfl) (sC 80 (hp416.nt 28 80 rfl rfl rfl) (sC 81 (hp416.nt 29 81 rfl rfl rfl) (sC 82 (hp416.nt 30 82 rfl rfl rfl) (sC 83 (hp416.nt 31 83 rfl rfl rfl) (sC 84 (hp416.nt 32 84 rfl rfl rfl) (sC 85 (hp416.nt 33 85 rfl rfl rfl) (sC 86 (hp416.nt 34 86 rfl rfl rfl) (sC 87 (hp416.nt 35 87 rfl rfl rfl) (Sub.nil _)))))))))))))))))))))))))))))))) ?_)
             refine bcase (sLe ((p_0.Idxs.getD k91 d_Idx).Name) ((p_0.Idxs.getD ((IntKind.wrap .i64 ((k91 : Int) - 1)).toNat) d_Idx).Name)) (fun hb451 => ?_) (fun hb451 => ?_)
             ·refine CW.cond_t rfl hb451 (cR (sA rfl (dn (CW.ret (br (tr ?_))))))
              refine tr ?_
              have hB453 : B_i_GoodTable_1 p_0 k91 () = .ret false := by simp only [B_i_GoodTable_1, hb16, hb21, hb23, hb159, hb164, hb170, hb176, hb451, hL90, cL]
              have hL452 : loopM (B_i_GoodTable_1 p_0) (p_0.Idxs.length - 0) 0 () = .ret false := hI136.symm.trans (loopM.ret hlt147 hB453)
              refine br (tr (rr rfl (.cons rfl .nil) ?_))
              have hM454 : (i_GoodTable p_0) = (false) := by simp only [i_GoodTable, hb16, hb21, hb23, hb159, hb164, hb170, hb176, hb451, hL90, hL452, cL]
              rw [hM454]
              exact ⟨rfl, (Ex.trans (Below.only (Ex.trans hf145 hE154) hO157 oM) hE419)⟩
             ·refine CW.cond_f rfl hb451 (CW.skip (bn (tn (CW.region (sd rfl (yl_inc rfl rfl rfl oM (sM rfl (dn ?_))))))))
              have hB458 : B_i_GoodTable_1 p_0 k91 () = .cont () := by simp only [B_i_GoodTable_1, hb16, hb21, hb23, hb159, hb164, hb170, hb176, hb451, hL90, cL]
              exact ⟨p_0.Idxs.length - (k91 + 1), oM, k91 + 1, rfl, hlt147, oM, rfl, rfl, rfl, rfl, (Box.ex q179 hE419), (RdS.ex gS (RdS.only gS (RdS.ex gS hf143 hE154) hO157 (by simp only [Iv]; omega)) hE419), (RdS.ex gI q183 hE419), (Ex.trans (Below.only (Ex.trans hf145 hE154) hO157 oM) hE419), (loopM.cont hlt147 hB458).symm.trans hI136⟩
           ·have hb176p := dec_f hb176
            have q469 := Box.only (Box.ex hf142 hE154) hO157 oM
            refine drI 36 [.pointer (some ⟨b149, 0 + 0, none⟩), .string (bs ((p_0.Idxs.getD k91 d_Idx).Name)), .bool ((i_areLetters ((p_0.Idxs.getD k91 d_Idx).Name) 1)), .bool (!(i_areLetters ((p_0.Idxs.getD k91 d_Idx).Name) 1)), .bool (!(i_areLetters ((p_0.Idxs.getD k91 d_Idx).Name) 1)), .pointer (some ⟨b149, 0 + 1, none⟩), .int .i64 ((p_0.Idxs.getD k91 d_Idx).Col), .pointer (some ⟨b7, 0 + 1, none⟩), .slice A1 p_0.Cols.length c1, .int .i64 ((p_0.Cols.length : Int)), .int .i64 (IntKind.wrap .i64 ((p_0.Cols.length : Int) - 1)), .bool ((i_within ((p_0.Idxs.getD k91 d_Idx).Col) 1 (IntKind.wrap .i64 ((p_0.Cols.length : Int) - 1)))), .bool (!(i_within ((p_0.Idxs.getD k91 d_Idx).Col) 1 (IntKind.wrap .i64 ((p_0.Cols.length : Int) - 1)))), .bool (!(i_within ((p_0.Idxs.getD k91 d_Idx).Col) 1 (IntKind.wrap .i64 ((p_0.Cols.length : Int) - 1)))), .bool (!(i_within ((p_0.Idxs.getD k91 d_Idx).Col) 1 (IntKind.wrap .i64 ((p_0.Cols.length : Int) - 1)))), .pointer (some ⟨b149, 0 + 2, none⟩), .int .i64 ((p_0.Idxs.getD k91 d_Idx).Stage), .bool ((i_isStage ((p_0.Idxs.getD k91 d_Idx).Stage))), .bool (!(i_isStage ((p_0.Idxs.getD k91 d_Idx).Stage))), .bool (!(i_isStage ((p_0.Idxs.getD k91 d_Idx).Stage))), .bool (!(i_isStage ((p_0.Idxs.getD k91 d_Idx).Stage))), .int .i64 ((k91 : Int)), .bool (decide (0 < (k91 : Int))), .bool (decide (0 < (k91 : Int))), undef, undef, undef, undef, undef, undef, undef, undef, undef, undef, .bool (false), .bool (false)] Tryz.follows rfl ⟨?_, ?_, ?_, ?_, ?_, ?_, ?_, ?_, ?_, ?_, ?_, ?_, ?_, ?_, ?_, ?_, ?_, ?_, ?_, ?_, ?_, ?_, ?_, ?_, ?_, ?_, ?_, ?_, ?_, ?_, ?_, ?_, ?_, ?_, ?_, ?_, trivial⟩ ?_
            ·exact oI rfl fun h => yl_fieldAddr fd54_0 rfl (h.old 6 _ rfl rfl) kI
            ·exact oI rfl fun h => yl_load1 ty9 rfl (h.dt 0 52 rfl rfl rfl) (((Box.ex hB156 h.ex).cell 0).trans rfl) kI
            ·intro L483 w484 hi485
             exact OpR.op' rfl (yC en61 rfl (oc (hi485.dt 1 53 rfl rfl rfl) (oc rfl oz)) (Cal.mono (c_i_areLetters ((p_0.Idxs.getD k91 d_Idx).Name) 1 (okL.getD o3.2.2 ok_d_Idx _)) fun _ _ h => h))
            ·exact oI rfl fun h => yl_not rfl (h.dt 2 54 rfl rfl rfl) kI
            ·exact oI rfl fun h => yM rfl (h.dt 3 55 rfl rfl rfl) kI
            ·exact oW rfl rfl rfl rfl (not_t hb159) fun h => yl_fieldAddr fd54_1 rfl (h.old 6 _ rfl rfl) kI
            ·exact oW rfl rfl rfl rfl (not_t hb159) fun h => yl_load1 ty3 rfl (h.dt 5 57 rfl rfl rfl) (((Box.ex hB156 h.ex).cell 1).trans rfl) kI
            ·exact oW rfl rfl rfl rfl (not_t hb159) fun h => yl_fieldAddr fd26_1 rfl (h.old 1 _ rfl rfl) kI
            ·exact oW rfl rfl rfl rfl (not_t hb159) fun h => yl_load1 ty23 rfl (h.dt 7 59 rfl rfl rfl) (((Box.ex q469 h.ex).cell 1).trans rfl) kI
            ·exact oW rfl rfl rfl rfl (not_t hb159) fun h => yL un23 rfl (h.dt 8 60 rfl rfl rfl) kI
            ·exact oW rfl rfl rfl rfl (not_t hb159) fun h => yl_sub rfl (h.dt 9 61 rfl rfl rfl) rfl kI
            ·intro L539 w540 hi541
             exact OpR.want rfl rfl (hi541.dt 4 56 rfl rfl rfl) (not_t hb159) (yC en62 rfl (oc (hi541.dt 6 58 rfl rfl rfl) (oc rfl (oc (hi541.dt 10 62 rfl rfl rfl) oz))) (Cal.mono (c_i_within ((p_0.Idxs.getD k91 d_Idx).Col) 1 (IntKind.wrap .i64 ((p_0.Cols.length : Int) - 1))) fun _ _ h => h))
            ·exact oW rfl rfl rfl rfl (not_t hb159) fun h => yl_not rfl (h.dt 11 63 rfl rfl rfl) kI
            ·exact oI rfl fun h => yl_pick_f rfl (h.dt 4 56 rfl rfl rfl) (not_t hb159) (h.dt 12 64 rfl rfl rfl) kI
            ·exact oI rfl fun h => yM rfl (h.dt 13 65 rfl rfl rfl) kI
            ·exact oW rfl rfl rfl rfl (not_t hb164) fun h => yl_fieldAddr fd54_2 rfl (h.old 6 _ rfl rfl) kI
            ·exact oW rfl rfl rfl rfl (not_t hb164) fun h => yl_load1 ty3 rfl (h.dt 15 67 rfl rfl rfl) (((Box.ex hB156 h.ex).cell 2).trans rfl) kI
            ·intro L579 w580 hi581
             exact OpR.want rfl rfl (hi581.dt 14 66 rfl rfl rfl) (not_t hb164) (yC en64 rfl (oc (hi581.dt 16 68 rfl rfl rfl) oz) (Cal.mono (c_i_isStage ((p_0.Idxs.getD k91 d_Idx).Stage)) fun _ _ h => h))
            ·exact oW rfl rfl rfl rfl (not_t hb164) fun h => yl_not rfl (h.dt 17 69 rfl rfl rfl) kI
            ·exact oI rfl fun h => yl_pick_f rfl (h.dt 14 66 rfl rfl rfl) (not_t hb164) (h.dt 18 70 rfl rfl rfl) kI
            ·exact oI rfl fun h => yM rfl (h.dt 19 71 rfl rfl rfl) kI
            ·exact oW rfl rfl rfl rfl (not_t hb170) fun h => yM rfl (h.old 5 _ rfl rfl) kI
            ·exact oW rfl rfl rfl rfl (not_t hb170) fun h => yl_gtr rfl (h.dt 21 73 rfl rfl rfl) rfl kI
            ·exact oW rfl rfl rfl rfl (not_t hb170) fun h => yM rfl (h.dt 22 74 rfl rfl rfl) kI
            ·exact oS rfl rfl rfl rfl rfl hb176
            ·exact oS rfl rfl rfl rfl rfl hb176
            ·exact oS rfl rfl rfl rfl rfl hb176
            ·exact oS rfl rfl rfl rfl rfl hb176
            ·exact oS rfl rfl rfl rfl rfl hb176
            ·exact oS rfl rfl rfl rfl rfl hb176
            ·exact oS rfl rfl rfl rfl rfl hb176
            ·exact oS rfl rfl rfl rfl rfl hb176
            ·exact oS rfl rfl rfl rfl rfl hb176
            ·exact oS rfl rfl rfl rfl rfl hb176
            ·exact oW rfl rfl rfl rfl (not_t hb170) fun h => yl_pick_f rfl (h.dt 23 75 rfl rfl rfl) hb176 rfl kI
            ·exact oI rfl fun h => yl_pick_f rfl (h.dt 20 72 rfl rfl rfl) (not_t hb170) (h.dt 34 86 rfl rfl rfl) kI
            ·intro fl689 fh690 L686 w687 hp688
             have hE691 := hp688.ex
             have hE691z := Ex.size hE691
             refine dn (CW.sub (sC 1 (hp688.old 1 _ rfl rfl) (sC 45 (hp688.old 45 _ rfl rfl) (sC 46 (hp688.old 46 _ rfl rfl) (sC 47 (hp688.old 47 _ rfl rfl) (sC 57 (hp688.nt 5 57 rfl rfl rfl) (sC 58 (hp688.nt 6 58 rfl rfl rfl) (sC 59 (hp688.nt 7 59 rfl rfl rfl) (sC 60 (hp688.nt 8 60 rfl rfl rfl) (sC 61 (hp688.nt 9 61 rfl rfl rfl) (sC 62 (hp688.nt 10 62 rfl rfl rfl) (sC 63 (hp688.nt 11 63 rfl rfl rfl) (sC 64 (hp688.nt 12 64 rfl rfl rfl) (sC 67 (hp688.nt 15 67 rfl rfl rfl) (sC 68 (hp688.nt 16 68 rfl rfl rfl) (sC 69 (hp688.nt 17 69 rfl rfl rfl) (sC 70 (hp688.nt 18 70 rfl rfl rfl) (sC 73 (hp688.nt 21 73 rfl rfl rfl) (sC 74 (hp688.nt 22 74 rfl rfl rfl) (sC 75 (hp688.nt 23 75 rfl rfl rfl) (sC 76 (hp688.nt 24 76 rfl rfl rfl) (sC 77 (hp688.nt 25 77 rfl rfl rfl) (sC 78 (hp688.nt 26 78 rfl rfl rfl) (sC 79 (hp688.nt 27 79 rfl rfl rfl) (sC 80 (hp688.nt 28 80 rfl rfl rfl) (sC 81 (hp688.nt 29 81 rfl rfl rfl) (sC 82 (hp688.nt 30 82 rfl rfl rfl) (sC 83 (hp688.nt 31 83 rfl rfl rfl) (sC 84 (hp688.nt 32 84 rfl rfl rfl) (sC 85 (hp688.nt 33 85 rfl rfl rfl) (sC 86 (hp688.nt 34 86 rfl rfl rfl) (sC 87 (hp688.nt 35 87 rfl rfl rfl) (Sub.nil _)))))))))))))))))))))))))))))))) ?_)
             refine CW.cond_f rfl rfl (CW.skip (bn (tn (CW.region (sd rfl (yl_inc rfl rfl rfl oM (sM rfl (dn ?_))))))))
             have hB723 : B_i_GoodTable_1 p_0 k91 () = .cont () := by simp only [B_i_GoodTable_1, hb16, hb21, hb23, hb159, hb164, hb170, hb176, hL90, cL]
             exact ⟨p_0.Idxs.length - (k91 + 1), oM, k91 + 1, rfl, hlt147, oM, rfl, rfl, rfl, rfl, (Box.ex q469 hE691), (RdS.ex gS (RdS.only gS (RdS.ex gS hf143 hE154) hO157 (by simp only [Iv]; omega)) hE691), (RdS.ex gI (RdS.only gI (RdS.ex gI hf144 hE154) hO157 (by simp only [Iv]; omega)) hE691), (Ex.trans (Below.only (Ex.trans hf145 hE154) hO157 oM) hE691), (loopM.cont hlt147 hB723).symm.trans hI136⟩
          ·refine drI 36 [.pointer (some ⟨b149, 0 + 0, none⟩), .string (bs ((p_0.Idxs.getD k91 d_Idx).Name)), .bool ((i_areLetters ((p_0.Idxs.getD k91 d_Idx).Name) 1)), .bool (!(i_areLetters ((p_0.Idxs.getD k91 d_Idx).Name) 1)), .bool (!(i_areLetters ((p_0.Idxs.getD k91 d_Idx).Name) 1)), .pointer (some ⟨b149, 0 + 1, none⟩), .int .i64 ((p_0.Idxs.getD k91 d_Idx).Col), .pointer (some ⟨b7, 0 + 1, none⟩), .slice A1 p_0.Cols.length c1, .int .i64 ((p_0.Cols.length : Int)), .int .i64 (IntKind.wrap .i64 ((p_0.Cols.length : Int) - 1)), .bool ((i_within ((p_0.Idxs.getD k91 d_Idx).Col) 1 (IntKind.wrap .i64 ((p_0.Cols.length : Int) - 1)))), .bool (!(i_within ((p_0.Idxs.getD k91 d_Idx).Col) 1 (IntKind.wrap .i64 ((p_0.Cols.length : Int) - 1)))), .bool (!(i_within ((p_0.Idxs.getD k91 d_Idx).Col) 1 (IntKind.wrap .i64 ((p_0.Cols.length : Int) - 1)))), .bool (!(i_within ((p_0.Idxs.getD k91 d_Idx).Col) 1 (IntKind.wrap .i64 ((p_0.Cols.length : Int) - 1)))), .pointer (some ⟨b149, 0 + 2, none⟩), .int .i64 ((p_0.Idxs.getD k91 d_Idx).Stage), .bool ((i_isStage ((p_0.Idxs.getD k91 d_Idx).Stage))), .bool (!(i_isStage ((p_0.Idxs.getD k91 d_Idx).Stage))), .bool (!(i_isStage ((p_0.Idxs.getD k91 d_Idx).Stage))), .bool (!(i_isStage ((p_0.Idxs.getD k91 d_Idx).Stage))), undef, undef, undef, undef, undef, undef, undef, undef, undef, undef, undef, undef, undef, undef, .bool (true)] Tryz.follows rfl ⟨?_, ?_, ?_, ?_, ?_, ?_, ?_, ?_, ?_, ?_, ?_, ?_, ?_, ?_, ?_, ?_, ?_, ?_, ?_, ?_, ?_, ?_, ?_, ?_, ?_, ?_, ?_, ?_, ?_, ?_, ?_, ?_, ?_, ?_, ?_, ?_, trivial⟩ ?_
           ·exact oI rfl fun h => yl_fieldAddr fd54_0 rfl (h.old 6 _ rfl rfl) kI
           ·exact oI rfl fun h => yl_load1 ty9 rfl (h.dt 0 52 rfl rfl rfl) (((Box.ex hB156 h.ex).cell 0).trans rfl) kI
           ·intro L750 w751 hi752
            exact OpR.op' rfl (yC en61 rfl (oc (hi752.dt 1 53 rfl rfl rfl) (oc rfl oz)) (Cal.mono (c_i_areLetters ((p_0.Idxs.getD k91 d_Idx).Name) 1 (okL.getD o3.2.2 ok_d_Idx _)) fun _ _ h => h))
           ·exact oI rfl fun h => yl_not rfl (h.dt 2 54 rfl rfl rfl) kI
           ·exact oI rfl fun h => yM rfl (h.dt 3 55 rfl rfl rfl) kI
           ·exact oW rfl rfl rfl rfl (not_t hb159) fun h => yl_fieldAddr fd54_1 rfl (h.old 6 _ rfl rfl) kI
           ·exact oW rfl rfl rfl rfl (not_t hb159) fun h => yl_load1 ty3 rfl (h.dt 5 57 rfl rfl rfl) (((Box.ex hB156 h.ex).cell 1).trans rfl) kI
           ·exact oW rfl rfl rfl rfl (not_t hb159) fun h => yl_fieldAddr fd26_1 rfl (h.old 1 _ rfl rfl) kI
           ·intro L787 w788 hi789
            have hE790 := hi789.ex
            have hE790z := Ex.size hE790
            exact OpR.want rfl rfl (hi789.dt 4 56 rfl rfl rfl) (not_t hb159) (Yl.sameI (yl_load1 ty23 rfl (hi789.dt 7 59 rfl rfl rfl) (((Box.ex (Box.only (Box.ex hf142 hE154) hO157 oM) hE790).cell 1).trans rfl) kI))
           ·exact oW rfl rfl rfl rfl (not_t hb159) fun h => yL un23 rfl (h.dt 8 60 rfl rfl rfl) kI
           ·exact oW rfl rfl rfl rfl (not_t hb159) fun h => yl_sub rfl (h.dt 9 61 rfl rfl rfl) rfl kI
           ·intro L806 w807 hi808
            exact OpR.want rfl rfl (hi808.dt 4 56 rfl rfl rfl) (not_t hb159) (yC en62 rfl (oc (hi808.dt 6 58 rfl rfl rfl) (oc rfl (oc (hi808.dt 10 62 rfl rfl rfl) oz))) (Cal.mono (c_i_within ((p_0.Idxs.getD k91 d_Idx).Col) 1 (IntKind.wrap .i64 ((p_0.Cols.length : Int) - 1))) fun _ _ h => h))
           ·exact oW rfl rfl rfl rfl (not_t hb159) fun h => yl_not rfl (h.dt 11 63 rfl rfl rfl) kI
           ·exact oI rfl fun h => yl_pick_f rfl (h.dt 4 56 rfl rfl rfl) (not_t hb159) (h.dt 12 64 rfl rfl rfl) kI
           ·exact oI rfl fun h => yM rfl (h.dt 13 65 rfl rfl rfl) kI
           ·exact oW rfl rfl rfl rfl (not_t hb164) fun h => yl_fieldAddr fd54_2 rfl (h.old 6 _ rfl rfl) kI
           ·exact oW rfl rfl rfl rfl (not_t hb164) fun h => yl_load1 ty3 rfl (h.dt 15 67 rfl rfl rfl) (((Box.ex hB156 h.ex).cell 2).trans rfl) kI
           ·intro L846 w847 hi848
            exact OpR.want rfl rfl (hi848.dt 14 66 rfl rfl rfl) (not_t hb164) (yC en64 rfl (oc (hi848.dt 16 68 rfl rfl rfl) oz) (Cal.mono (c_i_isStage ((p_0.Idxs.getD k91 d_Idx).Stage)) fun _ _ h => h))
           ·exact oW rfl rfl rfl rfl (not_t hb164) fun h => yl_not rfl (h.dt 17 69 rfl rfl rfl) kI
           ·exact oI rfl fun h => yl_pick_f rfl (h.dt 14 66 rfl rfl rfl) (not_t hb164) (h.dt 18 70 rfl rfl rfl) kI
           ·exact oI rfl fun h => yM rfl (h.dt 19 71 rfl rfl rfl) kI
           ·exact oS rfl rfl rfl rfl rfl (not_f hb170)
           ·exact oS rfl rfl rfl rfl rfl (not_f hb170)
           ·exact oS rfl rfl rfl rfl rfl (not_f hb170)
           ·exact oU rfl rfl rfl rfl rfl
           ·exact oU rfl rfl rfl rfl rfl
           ·exact oU rfl rfl rfl rfl rfl
           ·exact oU rfl rfl rfl rfl rfl
           ·exact oU rfl rfl rfl rfl rfl
           ·exact oU rfl rfl rfl rfl rfl
           ·exact oU rfl rfl rfl rfl rfl
           ·exact oU rfl rfl rfl rfl rfl
           ·exact oU rfl rfl rfl rfl rfl
           ·exact oU rfl rfl rfl rfl rfl
           ·exact oS rfl rfl rfl rfl rfl (not_f hb170)
           ·exact oI rfl fun h => yl_pick_t rfl (h.dt 20 72 rfl rfl rfl) (not_f hb170) rfl kI
           ·intro fl951 fh952 L948 w949 hp950
            have hE953 := hp950.ex
            have hE953z := Ex.size hE953
            refine dn (CW.sub (sC 1 (hp950.old 1 _ rfl rfl) (sC 45 (hp950.old 45 _ rfl rfl) (sC 46 (hp950.old 46 _ rfl rfl) (sC 47 (hp950.old 47 _ rfl rfl) (sC 57 (hp950.nt 5 57 rfl rfl rfl) (sC 58 (hp950.nt 6 58 rfl rfl rfl) (sC 59 (hp950.nt 7 59 rfl rfl rfl) (sC 60 (hp950.nt 8 60 rfl rfl rfl) (sC 61 (hp950.nt 9 61 rfl rfl rfl) (sC 62 (hp950.nt 10 62 rfl rfl rfl) (sC 63 (hp950.nt 11 63 rfl rfl rfl) (sC 64 (hp950.nt 12 64 rfl rfl rfl) (sC 67 (hp950.nt 15 67 rfl rfl rfl) (sC 68 (hp950.nt 16 68 rfl rfl rfl) (sC 69 (hp950.nt 17 69 rfl rfl rfl) (sC 70 (hp950.nt 18 70 rfl rfl rfl) (sC 73 (hp950.nt 21 73 rfl rfl rfl) (sC 74 (hp950.nt 22 74 rfl rfl rfl) (sC 75 (hp950.nt 23 75 rfl rfl rfl) (sC 76 (hp950.nt 24 76 rfl rfl rfl) (sC 77 (hp950.nt 25 77 rfl rfl rfl) (sC 78 (hp950.nt 26 78 rfl rfl rfl) (sC 79 (hp950.nt 27 79 rfl rfl rfl) (sC 80 (hp950.nt 28 80 rfl rfl rfl) (sC 81 (hp950.nt 29 81 rfl rfl rfl) (sC 82 (hp950.nt 30 82 rfl rfl rfl) (sC 83 (hp950.nt 31 83 rfl rfl rfl) (sC 84 (hp950.nt 32 84 rfl rfl rfl) (sC 85 (hp950.nt 33 85 rfl rfl rfl) (sC 86 (hp950.nt 34 86 rfl rfl rfl) (sC 87 (hp950.nt 35 87 rfl rfl rfl) (Sub.nil _)))))))))))))))))))))))))))))))) ?_)
            refine CW.cond_t rfl rfl (cR (sA rfl (dn (CW.ret (br (tr ?_))))))
            refine tr ?_
            have hB986 : B_i_GoodTable_1 p_0 k91 () = .ret false := by simp only [B_i_GoodTable_1, hb16, hb21, hb23, hb159, hb164, hb170, hL90, cL]
            have hL985 : loopM (B_i_GoodTable_1 p_0) (p_0.Idxs.length - 0) 0 () = .ret false := hI136.symm.trans (loopM.ret hlt147 hB986)
            refine br (tr (rr rfl (.cons rfl .nil) ?_))
            have hM987 : (i_GoodTable p_0) = (false) := by simp only [i_GoodTable, hb16, hb21, hb23, hb159, hb164, hb170, hL90, hL985, cL]
            rw [hM987]
            exact ⟨rfl, (Ex.trans (Below.only (Ex.trans hf145 hE154) hO157 oM) hE953)⟩
         ·refine drI 36 [.pointer (some ⟨b149, 0 + 0, none⟩), .string (bs ((p_0.Idxs.getD k91 d_Idx).Name)), .bool ((i_areLetters ((p_0.Idxs.getD k91 d_Idx).Name) 1)), .bool (!(i_areLetters ((p_0.Idxs.getD k91 d_Idx).Name) 1)), .bool (!(i_areLetters ((p_0.Idxs.getD k91 d_Idx).Name) 1)), .pointer (some ⟨b149, 0 + 1, none⟩), .int .i64 ((p_0.Idxs.getD k91 d_Idx).Col), .pointer (some ⟨b7, 0 + 1, none⟩), .slice A1 p_0.Cols.length c1, .int .i64 ((p_0.Cols.length : Int)), .int .i64 (IntKind.wrap .i64 ((p_0.Cols.length : Int) - 1)), .bool ((i_within ((p_0.Idxs.getD k91 d_Idx).Col) 1 (IntKind.wrap .i64 ((p_0.Cols.length : Int) - 1)))), .bool (!(i_within ((p_0.Idxs.getD k91 d_Idx).Col) 1 (IntKind.wrap .i64 ((p_0.Cols.length : Int) - 1)))), .bool (!(i_within ((p_0.Idxs.getD k91 d_Idx).Col) 1 (IntKind.wrap .i64 ((p_0.Cols.length : Int) - 1)))), .bool (!(i_within ((p_0.Idxs.getD k91 d_Idx).Col) 1 (IntKind.wrap .i64 ((p_0.Cols.length : Int) - 1)))), undef, undef, undef, undef, .bool (true), .bool (true), undef, undef, undef, undef, undef, undef, undef, undef, undef, undef, undef, undef, undef, undef, .bool (true)] Tryz.follows rfl ⟨?_, ?_, ?_, ?_, ?_, ?_, ?_, ?_, ?_, ?_, ?_, ?_, ?_, ?_, ?_, ?_, ?_, ?_, ?_, ?_, ?_, ?_, ?_, ?_, ?_, ?_, ?_, ?_, ?_, ?_, ?_, ?_, ?_, ?_, ?_, ?_, trivial⟩ ?_
          ·exact oI rfl fun h => yl_fieldAddr fd54_0 rfl (h.old 6 _ rfl rfl) kI
          ·exact oI rfl fun h => yl_load1 ty9 rfl (h.dt 0 52 rfl rfl rfl) (((Box.ex hB156 h.ex).cell 0).trans rfl) kI
          ·intro L1006 w1007 hi1008
           exact OpR.op' rfl (yC en61 rfl (oc (hi1008.dt 1 53 rfl rfl rfl) (oc rfl oz)) (Cal.mono (c_i_areLetters ((p_0.Idxs.getD k91 d_Idx).Name) 1 (okL.getD o3.2.2 ok_d_Idx _)) fun _ _ h => h))
          ·exact oI rfl fun h => yl_not rfl (h.dt 2 54 rfl rfl rfl) kI
          ·exact oI rfl fun h => yM rfl (h.dt 3 55 rfl rfl rfl) kI
          ·exact oW rfl rfl rfl rfl (not_t hb159) fun h => yl_fieldAddr fd54_1 rfl (h.old 6 _ rfl rfl) kI
          ·exact oW rfl rfl rfl rfl (not_t hb159) fun h => yl_load1 ty3 rfl (h.dt 5 57 rfl rfl rfl) (((Box.ex hB156 h.ex).cell 1).trans rfl) kI
          ·exact oW rfl rfl rfl rfl (not_t hb159) fun h => yl_fieldAddr fd26_1 rfl (h.old 1 _ rfl rfl) kI
          ·intro L1043 w1044 hi1045
           have hE1046 := hi1045.ex
           have hE1046z := Ex.size hE1046
           exact OpR.want rfl rfl (hi1045.dt 4 56 rfl rfl rfl) (not_t hb159) (Yl.sameI (yl_load1 ty23 rfl (hi1045.dt 7 59 rfl rfl rfl) (((Box.ex (Box.only (Box.ex hf142 hE154) hO157 oM) hE1046).cell 1).trans rfl) kI))
          ·exact oW rfl rfl rfl rfl (not_t hb159) fun h => yL un23 rfl (h.dt 8 60 rfl rfl rfl) kI
          ·exact oW rfl rfl rfl rfl (not_t hb159) fun h => yl_sub rfl (h.dt 9 61 rfl rfl rfl) rfl kI
          ·intro L1062 w1063 hi1064
           exact OpR.want rfl rfl (hi1064.dt 4 56 rfl rfl rfl) (not_t hb159) (yC en62 rfl (oc (hi1064.dt 6 58 rfl rfl rfl) (oc rfl (oc (hi1064.dt 10 62 rfl rfl rfl) oz))) (Cal.mono (c_i_within ((p_0.Idxs.getD k91 d_Idx).Col) 1 (IntKind.wrap .i64 ((p_0.Cols.length : Int) - 1))) fun _ _ h => h))
          ·exact oW rfl rfl rfl rfl (not_t hb159) fun h => yl_not rfl (h.dt 11 63 rfl rfl rfl) kI
          ·exact oI rfl fun h => yl_pick_f rfl (h.dt 4 56 rfl rfl rfl) (not_t hb159) (h.dt 12 64 rfl rfl rfl) kI
          ·exact oI rfl fun h => yM rfl (h.dt 13 65 rfl rfl rfl) kI
          ·exact oS rfl rfl rfl rfl rfl (not_f hb164)
          ·exact oS rfl rfl rfl rfl rfl (not_f hb164)
          ·exact oS rfl rfl rfl rfl rfl (not_f hb164)
          ·exact oS rfl rfl rfl rfl rfl (not_f hb164)
          ·exact oI rfl fun h => yl_pick_t rfl (h.dt 14 66 rfl rfl rfl) (not_f hb164) rfl kI
          ·exact oI rfl fun h => yM rfl (h.dt 19 71 rfl rfl rfl) kI
          ·exact oS rfl rfl rfl rfl rfl rfl
          ·exact oS rfl rfl rfl rfl rfl rfl
          ·exact oS rfl rfl rfl rfl rfl rfl
          ·exact oU rfl rfl rfl rfl rfl
          ·exact oU rfl rfl rfl rfl rfl
          ·exact oU rfl rfl rfl rfl rfl
          ·exact oU rfl rfl rfl rfl rfl
          ·exact oU rfl rfl rfl rfl rfl
          ·exact oU rfl rfl rfl rfl rfl
          ·exact oU rfl rfl rfl rfl rfl
          ·exact oU rfl rfl rfl rfl rfl
          ·exact oU rfl rfl rfl rfl rfl
          ·exact oU rfl rfl rfl rfl rfl
          ·exact oS rfl rfl rfl rfl rfl rfl
          ·exact oI rfl fun h => yl_pick_t rfl (h.dt 20 72 rfl rfl rfl) rfl rfl kI
          ·intro fl1199 fh1200 L1196 w1197 hp1198
           have hE1201 := hp1198.ex
           have hE1201z := Ex.size hE1201
           refine dn (CW.sub (sC 1 (hp1198.old 1 _ rfl rfl) (sC 45 (hp1198.old 45 _ rfl rfl) (sC 46 (hp1198.old 46 _ rfl rfl) (sC 47 (hp1198.old 47 _ rfl rfl) (sC 57 (hp1198.nt 5 57 rfl rfl rfl) (sC 58 (hp1198.nt 6 58 rfl rfl rfl) (sC 59 (hp1198.nt 7 59 rfl rfl rfl) (sC 60 (hp1198.nt 8 60 rfl rfl rfl) (sC 61 (hp1198.nt 9 61 rfl rfl rfl) (sC 62 (hp1198.nt 10 62 rfl rfl rfl) (sC 63 (hp1198.nt 11 63 rfl rfl rfl) (sC 64 (hp1198.nt 12 64 rfl rfl rfl) (sC 67 (hp1198.nt 15 67 rfl rfl rfl) (sC 68 (hp1198.nt 16 68 rfl rfl rfl) (sC 69 (hp1198.nt 17 69 rfl rfl rfl) (sC 70 (hp1198.nt 18 70 rfl rfl rfl) (sC 73 (hp1198.nt 21 73 rfl rfl rfl) (sC 74 (hp1198.nt 22 74 rfl rfl rfl) (sC 75 (hp1198.nt 23 75 rfl rfl rfl) (sC 76 (hp1198.nt 24 76 rfl rfl rfl) (sC 77 (hp1198.nt 25 77 rfl rfl rfl) (sC 78 (hp1198.nt 26 78 rfl rfl rfl) (sC 79 (hp1198.nt 27 79 rfl rfl rfl) (sC 80 (hp1198.nt 28 80 rfl rfl rfl) (sC 81 (hp1198.nt 29 81 rfl rfl rfl) (sC 82 (hp1198.nt 30 82 rfl rfl rfl) (sC 83 (hp1198.nt 31 83 rfl rfl rfl) (sC 84 (hp1198.nt 32 84 rfl rfl rfl) (sC 85 (hp1198.nt 33 85 rfl rfl rfl) (sC 86 (hp1198.nt 34 86 rfl rfl rfl) (sC 87 (hp1198.nt 35 87 rfl rfl rfl) (Sub.nil _)))))))))))))))))))))))))))))))) ?_)
           refine CW.cond_t rfl rfl (cR (sA rfl (dn (CW.ret (br (tr ?_))))))
           refine tr ?_
           have hB1234 : B_i_GoodTable_1 p_0 k91 () = .ret false := by simp only [B_i_GoodTable_1, hb16, hb21, hb23, hb159, hb164, hL90, cL]
           have hL1233 : loopM (B_i_GoodTable_1 p_0) (p_0.Idxs.length - 0) 0 () = .ret false := hI136.symm.trans (loopM.ret hlt147 hB1234)
           refine br (tr (rr rfl (.cons rfl .nil) ?_))
           have hM1235 : (i_GoodTable p_0) = (false) := by simp only [i_GoodTable, hb16, hb21, hb23, hb159, hb164, hL90, hL1233, cL]
           rw [hM1235]
           exact ⟨rfl, (Ex.trans (Below.only (Ex.trans hf145 hE154) hO157 oM) hE1201)⟩
        ·refine drI 36 [.pointer (some ⟨b149, 0 + 0, none⟩), .string (bs ((p_0.Idxs.getD k91 d_Idx).Name)), .bool ((i_areLetters ((p_0.Idxs.getD k91 d_Idx).Name) 1)), .bool (!(i_areLetters ((p_0.Idxs.getD k91 d_Idx).Name) 1)), .bool (!(i_areLetters ((p_0.Idxs.getD k91 d_Idx).Name) 1)), undef, undef, undef, undef, undef, undef, undef, undef, .bool (true), .bool (true), undef, undef, undef, undef, .bool (true), .bool (true), undef, undef, undef, undef, undef, undef, undef, undef, undef, undef, undef, undef, undef, undef, .bool (true)] Tryz.follows rfl ⟨?_, ?_, ?_, ?_, ?_, ?_, ?_, ?_, ?_, ?_, ?_, ?_, ?_, ?_, ?_, ?_, ?_, ?_, ?_, ?_, ?_, ?_, ?_, ?_, ?_, ?_, ?_, ?_, ?_, ?_, ?_, ?_, ?_, ?_, ?_, ?_, trivial⟩ ?_
         ·exact oI rfl fun h => yl_fieldAddr fd54_0 rfl (h.old 6 _ rfl rfl) kI
         ·exact oI rfl fun h => yl_load1 ty9 rfl (h.dt 0 52 rfl rfl rfl) (((Box.ex hB156 h.ex).cell 0).trans rfl) kI
         ·intro L1251 w1252 hi1253
          exact OpR.op' rfl (yC en61 rfl (oc (hi1253.dt 1 53 rfl rfl rfl) (oc rfl oz)) (Cal.mono (c_i_areLetters ((p_0.Idxs.getD k91 d_Idx).Name) 1 (okL.getD o3.2.2 ok_d_Idx _)) fun _ _ h => h))
         ·exact oI rfl fun h => yl_not rfl (h.dt 2 54 rfl rfl rfl) kI
         ·exact oI rfl fun h => yM rfl (h.dt 3 55 rfl rfl rfl) kI
         ·exact oS rfl rfl rfl rfl rfl (not_f hb159)
         ·exact oS rfl rfl rfl rfl rfl (not_f hb159)
         ·exact oS rfl rfl rfl rfl rfl (not_f hb159)
         ·exact oS rfl rfl rfl rfl rfl (not_f hb159)
         ·exact oS rfl rfl rfl rfl rfl (not_f hb159)
         ·exact oS rfl rfl rfl rfl rfl (not_f hb159)
         ·exact oS rfl rfl rfl rfl rfl (not_f hb159)
         ·exact oS rfl rfl rfl rfl rfl (not_f hb159)
         ·exact oI rfl fun h => yl_pick_t rfl (h.dt 4 56 rfl rfl rfl) (not_f hb159) rfl kI
         ·exact oI rfl fun h => yM rfl (h.dt 13 65 rfl rfl rfl) kI
         ·exact oS rfl rfl rfl rfl rfl rfl
         ·exact oS rfl rfl rfl rfl rfl rfl
         ·exact oS rfl rfl rfl rfl rfl rfl
         ·exact oS rfl rfl rfl rfl rfl rfl
         ·exact oI rfl fun h => yl_pick_t rfl (h.dt 14 66 rfl rfl rfl) rfl rfl kI
         ·exact oI rfl fun h => yM rfl (h.dt 19 71 rfl rfl rfl) kI
         ·exact oS rfl rfl rfl rfl rfl rfl
         ·exact oS rfl rfl rfl rfl rfl rfl
         ·exact oS rfl rfl rfl rfl rfl rfl
         ·exact oU rfl rfl rfl rfl rfl
         ·exact oU rfl rfl rfl rfl rfl
         ·exact oU rfl rfl rfl rfl rfl
         ·exact oU rfl rfl rfl rfl rfl
         ·exact oU rfl rfl rfl rfl rfl
         ·exact oU rfl rfl rfl rfl rfl
         ·exact oU rfl rfl rfl rfl rfl
         ·exact oU rfl rfl rfl rfl rfl
         ·exact oU rfl rfl rfl rfl rfl
         ·exact oU rfl rfl rfl rfl rfl
         ·exact oS rfl rfl rfl rfl rfl rfl
         ·exact oI rfl fun h => yl_pick_t rfl (h.dt 20 72 rfl rfl rfl) rfl rfl kI
         ·intro fl1430 fh1431 L1427 w1428 hp1429
          have hE1432 := hp1429.ex
          have hE1432z := Ex.size hE1432
          refine dn (CW.sub (sC 1 (hp1429.old 1 _ rfl rfl) (sC 45 (hp1429.old 45 _ rfl rfl) (sC 46 (hp1429.old 46 _ rfl rfl) (sC 47 (hp1429.old 47 _ rfl rfl) (sC 57 (hp1429.nt 5 57 rfl rfl rfl) (sC 58 (hp1429.nt 6 58 rfl rfl rfl) (sC 59 (hp1429.nt 7 59 rfl rfl rfl) (sC 60 (hp1429.nt 8 60 rfl rfl rfl) (sC 61 (hp1429.nt 9 61 rfl rfl rfl) (sC 62 (hp1429.nt 10 62 rfl rfl rfl) (sC 63 (hp1429.nt 11 63 rfl rfl rfl) (sC 64 (hp1429.nt 12 64 rfl rfl rfl) (sC 67 (hp1429.nt 15 67 rfl rfl rfl) (sC 68 (hp1429.nt 16 68 rfl rfl rfl) (sC 69 (hp1429.nt 17 69 rfl rfl rfl) (sC 70 (hp1429.nt 18 70 rfl rfl rfl) (sC 73 (hp1429.nt 21 73 rfl rfl rfl) (sC 74 (hp1429.nt 22 74 rfl rfl rfl) (sC 75 (hp1429.nt 23 75 rfl rfl rfl) (sC 76 (hp1429.nt 24 76 rfl rfl rfl) (sC 77 (hp1429.nt 25 77 rfl rfl rfl) (sC 78 (hp1429.nt 26 78 rfl rfl rfl) (sC 79 (hp1429.nt 27 79 rfl rfl rfl) (sC 80 (hp1429.nt 28 80 rfl rfl rfl) (sC 81 (hp1429.nt 29 81 rfl rfl rfl) (sC 82 (hp1429.nt 30 82 rfl rfl rfl) (sC 83 (hp1429.nt 31 83 rfl rfl rfl) (sC 84 (hp1429.nt 32 84 rfl rfl rfl) (sC 85 (hp1429.nt 33 85 rfl rfl rfl) (sC 86 (hp1429.nt 34 86 rfl rfl rfl) (sC 87 (hp1429.nt 35 87 rfl rfl rfl) (Sub.nil _)))))))))))))))))))))))))))))))) ?_)
          refine CW.cond_t rfl rfl (cR (sA rfl (dn (CW.ret (br (tr ?_))))))
          refine tr ?_
          have hB1465 : B_i_GoodTable_1 p_0 k91 () = .ret false := by simp only [B_i_GoodTable_1, hb16, hb21, hb23, hb159, hL90, cL]
          have hL1464 : loopM (B_i_GoodTable_1 p_0) (p_0.Idxs.length - 0) 0 () = .ret false := hI136.symm.trans (loopM.ret hlt147 hB1465)
          refine br (tr (rr rfl (.cons rfl .nil) ?_))
          have hM1466 : (i_GoodTable p_0) = (false) := by simp only [i_GoodTable, hb16, hb21, hb23, hb159, hL90, hL1464, cL]
          rw [hM1466]
          exact ⟨rfl, (Ex.trans (Below.only (Ex.trans hf145 hE154) hO157 oM) hE1432)⟩
       ·refine cR (sd rfl (yl_lss rfl rfl rfl (dn (CW.seq (CW.cond_f rfl (lt_f hlt147) (CW.exit (tx ?_)))))))
        refine tx ?_
        have hL1470 : loopM (B_i_GoodTable_1 p_0) (p_0.Idxs.length - 0) 0 () = .done () := hI136.symm.trans (loopM.stop hlt147)
        refine bx (tn (cR (sA rfl (dn (CW.ret (rr rfl (.cons rfl .nil) ?_))))))
        have hM1471 : (i_GoodTable p_0) = (true) := by simp only [i_GoodTable, hb16, hb21, hb23, hL90, hL1470, cL]
        rw [hM1471]
        exact ⟨rfl, hf145⟩
  ·refine sz rfl rfl (not_f hb21) (sz rfl rfl (not_f hb21) (sz rfl rfl (not_f hb21) (sz rfl rfl (not_f hb21) (sd rfl (yl_pick_t rfl rfl (not_f hb21) rfl (dn (CW.cond_t rfl rfl (CW.seq ?_))))))))
   refine CW.region (sA rfl (dn (CW.ret (tr (rr rfl (.cons rfl .nil) ?_)))))
   have hM1472 : (i_GoodTable p_0) = (false) := by simp only [i_GoodTable, hb16, hb21, cL]
   rw [hM1472]
   exact ⟨rfl, (Ex.trans (Ex.trans (Ex.trans (Ex.refl w) hE12) hE15) hE20)⟩
 ·refine sz rfl rfl (not_f hb16) (sz rfl rfl (not_f hb16) (sz rfl rfl (not_f hb16) (sz rfl rfl (not_f hb16) (sz rfl rfl (not_f hb16) (sd rfl (yl_pick_t rfl rfl (not_f hb16) rfl (sM rfl (sz rfl rfl rfl (sz rfl rfl rfl ?_)))))))))
  refine sz rfl rfl rfl (sz rfl rfl rfl (sd rfl (yl_pick_t rfl rfl rfl rfl (dn (CW.cond_t rfl rfl (cR (sA rfl ?_)))))))
  refine dn (CW.ret (tr (rr rfl (.cons rfl .nil) ?_)))
  have hM1476 : (i_GoodTable p_0) = (false) := by simp only [i_GoodTable, hb16, cL]
  rw [hM1476]
  exact ⟨rfl, (Ex.trans (Ex.trans (Ex.refl w) hE12) hE15)⟩
theorem c_g_slices_IndexFunc_string {A1 : Option Addr} {c1 : Nat} {g3 : Nat} {cp4 : List Value} {w : World} (p_s : List Str) (p_f : Str → Bool) (h1 : RdS w (Iv 0 w.heap.size) (RF e_Str) 1 A1 p_s.length c1 p_s) (hen5 : Go.X.Enters Tryz.prog g3) (hfn6 : ∀ (w1 : World) (y0 : Str), Ex w w1 → y0 ∈ p_s → okS y0 → Cal Tryz.prog g3 (([.string (bs (y0))] : List Value) ++ cp4).toArray w1 fun v w2 => v = .bool (p_f y0) ∧ Ex w1 w2) (o2 : (okL okS) p_s) : Cal Tryz.prog 97 #[.slice A1 p_s.length c1, .func (.func g3) #[] cp4.toArray] w fun v w' => v = .int .i64 ((g_slices_IndexFunc_string p_s p_f)) ∧ Ex w w' := by
 have hol7 := o2.1
 refine Cal.of func97 rfl ntmps97 rfl (cR (sA rfl (dn (CW.seq (cR ?_)))))
 refine sM rfl (sd rfl (yL un23 rfl rfl (sM rfl (dn (CW.block (CW.loop (fun m9 L10 w11 => ∃ (k8 : Nat), m9 = p_s.length - k8 ∧ k8 ≤ p_s.length ∧ w.heap.size ≤ w11.heap.size ∧ lkp L10 0 = some (.slice A1 p_s.length c1) ∧ lkp L10 1 = some (.func (.func g3) #[] cp4.toArray) ∧ lkp L10 7 = some (.int .i64 ((p_s.length : Int))) ∧ lkp L10 8 = some (.int .i64 ((k8 : Int))) ∧ RdS w11 (Iv 0 w.heap.size) (RF e_Str) 1 A1 p_s.length c1 p_s ∧ Ex w w11 ∧ loopM (B_g_slices_IndexFunc_string_0 p_s p_f) (p_s.length - k8) k8 () = loopM (B_g_slices_IndexFunc_string_0 p_s p_f) (p_s.length - 0) 0 ()) (p_s.length - 0) ?_ ?_))))))
 ·exact ⟨0, rfl, oM, Nat.le_refl _, rfl, rfl, rfl, rfl, h1, (Ex.refl w), rfl⟩
 ·rintro m12 L13 w14 ⟨k8, rfl, hk15, hsz17, hl18, hl19, hl20, hl21, hf22, hf23, hI16⟩
  refine CW.sub (Sub.cons hl18 (Sub.cons hl19 (Sub.cons hl20 (Sub.cons hl21 (Sub.nil _))))) ?_
  have hf23z := Ex.size hf23
  have hbg24 := RdS.big hf22
  rcases Nat.lt_or_ge k8 p_s.length with hlt25 | hlt25
  ·refine cR (sd rfl (yl_lss rfl rfl rfl (dn (CW.seq (CW.cond_t rfl (lt_t hlt25) (CW.skip (tn ?_)))))))
   refine CW.seq (CW.block (cR (sM rfl (sA rfl (dn (CW.seq ?_))))))
   refine CW.region (sM rfl (sM rfl (sM rfl ?_)))
   obtain ⟨eb26, eo26, _, eA26, _, ebl26, _, eR26, eC26⟩ := RdS.aD hf22 d_Str (i := k8)
   obtain rfl := eR26
   have eC26 : Cells w14 eb26 (eo26 + k8 * 1) [.string (bs ((p_s.getD k8 d_Str)))] := eC26
   refine sd rfl (yl_ixN un23 ty9 rfl rfl rfl eA26 (sd rfl (yl_load1 ty9 rfl rfl (eC26 0 _ rfl) (sd rfl (yl_callv hen5 rfl rfl (oc rfl oz) (Cal.mono (hfn6 w14 (p_s.getD k8 d_Str) hf23 (getD_mem oM) (okL.getD o2 ok_d_Str _)) ?_))))))
   rintro v28 w27 ⟨rfl, hE29⟩
   have hE29z := Ex.size hE29
   refine dn (bcase (p_f (p_s.getD k8 d_Str)) (fun hb30 => ?_) (fun hb30 => ?_))
   ·refine CW.cond_t rfl hb30 (cR (sM rfl (sA rfl (dn (CW.ret (br ?_))))))
    refine tr (tr ?_)
    have hB32 : B_g_slices_IndexFunc_string_0 p_s p_f k8 () = .ret (k8 : Int) := by simp only [B_g_slices_IndexFunc_string_0, hb30, cL]
    have hL31 : loopM (B_g_slices_IndexFunc_string_0 p_s p_f) (p_s.length - 0) 0 () = .ret (k8 : Int) := hI16.symm.trans (loopM.ret hlt25 hB32)
    refine br (tr (rr rfl (.cons rfl .nil) ?_))
    have hM33 : (g_slices_IndexFunc_string p_s p_f) = ((k8 : Int)) := by simp only [g_slices_IndexFunc_string, hb30, hL31, cL]
    rw [hM33]
    exact ⟨rfl, (Ex.trans hf23 hE29)⟩
   ·refine CW.cond_f rfl hb30 (CW.skip (bn (tn (CW.region (sd rfl (yl_inc rfl rfl rfl oM (sM rfl (dn ?_))))))))
    have hB35 : B_g_slices_IndexFunc_string_0 p_s p_f k8 () = .cont () := by simp only [B_g_slices_IndexFunc_string_0, hb30, cL]
    exact ⟨p_s.length - (k8 + 1), oM, k8 + 1, rfl, hlt25, oM, rfl, rfl, rfl, rfl, (RdS.ex gS hf22 hE29), (Ex.trans hf23 hE29), (loopM.cont hlt25 hB35).symm.trans hI16⟩
  ·refine cR (sd rfl (yl_lss rfl rfl rfl (dn (CW.seq (CW.cond_f rfl (lt_f hlt25) (CW.exit (tx ?_)))))))
   refine tx ?_
   have hL38 : loopM (B_g_slices_IndexFunc_string_0 p_s p_f) (p_s.length - 0) 0 () = .done () := hI16.symm.trans (loopM.stop hlt25)
   refine bx (tn (cR (sA rfl (dn (CW.ret (rr rfl (.cons rfl .nil) ?_))))))
   have hM39 : (g_slices_IndexFunc_string p_s p_f) = (-1) := by simp only [g_slices_IndexFunc_string, hL38, cL]
   rw [hM39]
   exact ⟨rfl, hf23⟩
theorem c_g_slices_ContainsFunc_string {A1 : Option Addr} {c1 : Nat} {g3 : Nat} {cp4 : List Value} {w : World} (p_s : List Str) (p_f : Str → Bool) (h1 : RdS w (Iv 0 w.heap.size) (RF e_Str) 1 A1 p_s.length c1 p_s) (hen5 : Go.X.Enters Tryz.prog g3) (hfn6 : ∀ (w1 : World) (y0 : Str), Ex w w1 → y0 ∈ p_s → okS y0 → Cal Tryz.prog g3 (([.string (bs (y0))] : List Value) ++ cp4).toArray w1 fun v w2 => v = .bool (p_f y0) ∧ Ex w1 w2) (o2 : (okL okS) p_s) : Cal Tryz.prog 65 #[.slice A1 p_s.length c1, .func (.func g3) #[] cp4.toArray] w fun v w' => v = .bool ((g_slices_ContainsFunc_string p_s p_f)) ∧ Ex w w' := by
 refine Cal.of func65 rfl ntmps65 rfl (cR (sA rfl (dn (cR (sM rfl ?_)))))
 refine sM rfl (sd rfl (yC en97 rfl (oc rfl (oc rfl oz)) (Cal.mono (c_g_slices_IndexFunc_string p_s p_f (RdS.up h1 gS) hen5 (fun w1 y0 => fun hE => hfn6 w1 y0 (Ex.trans (Ex.refl w) hE)) o2) ?_)))
 rintro v9 w8 ⟨rfl, hE10⟩
 refine sd rfl (yl_geq rfl rfl rfl (sA rfl (dn (CW.ret (rr rfl (.cons rfl .nil) ?_)))))
 have hM11 : (g_slices_ContainsFunc_string p_s p_f) = (decide (0 ≤ (g_slices_IndexFunc_string p_s p_f))) := by simp only [g_slices_ContainsFunc_string, cL]
 rw [hM11]
 exact ⟨rfl, (Ex.trans (Ex.refl w) hE10)⟩
theorem c_i_isLowerOrDigit {w : World} (p_b : Int) : Cal Tryz.prog 113 #[.int .u8 (p_b)] w fun v w' => v = .bool ((i_isLowerOrDigit p_b)) ∧ Ex w w' := by
 refine Cal.of func113 rfl ntmps113 rfl (cR (sA rfl (dn (cR (sM rfl ?_)))))
 refine sd rfl (yl_geq rfl rfl rfl (sM rfl (bcase (decide (97 ≤ p_b)) (fun hb1 => ?_) (fun hb1 => ?_))))
 ·have hb1p := dec_t hb1
  refine sy rfl rfl hb1 (yM rfl rfl (sy rfl rfl hb1 (yl_leq rfl rfl rfl (sd rfl (yl_pick_t rfl rfl hb1 rfl (sM rfl (bcase (decide (p_b ≤ 122)) (fun hb2 => ?_) (fun hb2 => ?_))))))))
  ·have hb2p := dec_t hb2
   refine sz rfl rfl hb2 (sz rfl rfl hb2 (sz rfl rfl hb2 (sq rfl rfl (sq rfl rfl (sz rfl rfl hb2 (sd rfl (yl_pick_t rfl rfl hb2 rfl (sA rfl (SeqR.done ?_)))))))))
   refine tn (CW.ret (rr rfl (.cons rfl .nil) ?_))
   have hM3 : (i_isLowerOrDigit p_b) = (true) := by simp only [i_isLowerOrDigit, hb1, hb2, cL]
   rw [hM3]
   exact ⟨rfl, (Ex.refl w)⟩
  ·have hb2p := dec_f hb2
   refine sy rfl rfl hb2 (yM rfl rfl (sy rfl rfl hb2 (yl_geq rfl rfl rfl (sy rfl rfl hb2 (yM rfl rfl (bcase (decide (48 ≤ p_b)) (fun hb4 => ?_) (fun hb4 => ?_)))))))
   ·have hb4p := dec_t hb4
    refine sy rfl rfl hb4 (yM rfl rfl (sy rfl rfl hb4 (yl_leq rfl rfl rfl (sy rfl rfl hb2 (yl_pick_t rfl rfl hb4 rfl (sd rfl (yl_pick_f rfl rfl hb2 rfl (sA rfl (dn (CW.ret (rr rfl (.cons rfl .nil) ?_)))))))))))
    have hM5 : (i_isLowerOrDigit p_b) = (decide (p_b ≤ 57)) := by simp only [i_isLowerOrDigit, hb1, hb2, hb4, cL]
    rw [hM5]
    exact ⟨rfl, (Ex.refl w)⟩
   ·have hb4p := dec_f hb4
    refine sz rfl rfl hb4 (sz rfl rfl hb4 (sy rfl rfl hb2 (yl_pick_f rfl rfl hb4 rfl (sd rfl (yl_pick_f rfl rfl hb2 rfl (sA rfl (dn (CW.ret (rr rfl (.cons rfl .nil) ?_)))))))))
    have hM6 : (i_isLowerOrDigit p_b) = (false) := by simp only [i_isLowerOrDigit, hb1, hb2, hb4, cL]
    rw [hM6]
    exact ⟨rfl, (Ex.refl w)⟩
 ·have hb1p := dec_f hb1
  refine sz rfl rfl hb1 (sz rfl rfl hb1 (sd rfl (yl_pick_f rfl rfl hb1 rfl (sM rfl (sy rfl rfl rfl (yM rfl rfl (sy rfl rfl rfl (yl_geq rfl rfl rfl (sy rfl rfl rfl (yM rfl rfl (bcase (decide (48 ≤ p_b)) (fun hb7 => ?_) (fun hb7 => ?_))))))))))))
  ·have hb7p := dec_t hb7
   refine sy rfl rfl hb7 (yM rfl rfl (sy rfl rfl hb7 (yl_leq rfl rfl rfl (sy rfl rfl rfl (yl_pick_t rfl rfl hb7 rfl (sd rfl (yl_pick_f rfl rfl rfl rfl (sA rfl (dn (CW.ret (rr rfl (.cons rfl .nil) ?_)))))))))))
   have hM8 : (i_isLowerOrDigit p_b) = (decide (p_b ≤ 57)) := by simp only [i_isLowerOrDigit, hb1, hb7, cL]
   rw [hM8]
   exact ⟨rfl, (Ex.refl w)⟩
  ·have hb7p := dec_f hb7
   refine sz rfl rfl hb7 (sz rfl rfl hb7 (sy rfl rfl rfl (yl_pick_f rfl rfl hb7 rfl (sd rfl (yl_pick_f rfl rfl rfl rfl (sA rfl (dn (CW.ret (rr rfl (.cons rfl .nil) ?_)))))))))
   have hM9 : (i_isLowerOrDigit p_b) = (false) := by simp only [i_isLowerOrDigit, hb1, hb7, cL]
   rw [hM9]
   exact ⟨rfl, (Ex.refl w)⟩
theorem c_g_internal_stringslite_IndexByte {w : World} (p_s : Str) (p_c : Int) (o1 : okS p_s) : Cal Tryz.prog 122 #[.string (bs (p_s)), .int .u8 (p_c)] w fun v w' => v = .int .i64 ((g_internal_stringslite_IndexByte p_s p_c)) ∧ Ex w w' := by
 refine Cal.of func122 rfl ntmps122 rfl (cR (sA rfl (dn (cR (sM rfl ?_)))))
 refine sM rfl (sd rfl (yl_idxB (s := p_s) (c := p_c) Tryz.ex129 rfl (oc rfl (oc rfl oz)) (sA rfl (dn (CW.ret (rr rfl (.cons rfl .nil) ?_))))))
 have hM3 : (g_internal_stringslite_IndexByte p_s p_c) = (idxB p_s p_c) := by simp only [g_internal_stringslite_IndexByte, cL]
 rw [hM3]
 exact ⟨rfl, (Ex.refl w)⟩
theorem c_g_strings_IndexByte {w : World} (p_s : Str) (p_c : Int) (o1 : okS p_s) : Cal Tryz.prog 114 #[.string (bs (p_s)), .int .u8 (p_c)] w fun v w' => v = .int .i64 ((g_strings_IndexByte p_s p_c)) ∧ Ex w w' := by
 refine Cal.of func114 rfl ntmps114 rfl (cR (sA rfl (dn (cR (sM rfl ?_)))))
 refine sM rfl (sd rfl (yC en122 rfl (oc rfl (oc rfl oz)) (Cal.mono (c_g_internal_stringslite_IndexByte p_s p_c o1) ?_)))
 rintro v4 w3 ⟨rfl, hE5⟩
 refine sA rfl (dn (CW.ret (rr rfl (.cons rfl .nil) ?_)))
 have hM6 : (g_strings_IndexByte p_s p_c) = ((g_internal_stringslite_IndexByte p_s p_c)) := by simp only [g_strings_IndexByte, cL]
 rw [hM6]
 exact ⟨rfl, (Ex.trans (Ex.refl w) hE5)⟩
theorem c_i_hasBytes {w : World} (p_s : Str) (p_others : Str) (o1 : okS p_s) (o2 : okS p_others) : Cal Tryz.prog 98 #[.string (bs (p_s)), .string (bs (p_others))] w fun v w' => v = .bool ((i_hasBytes p_s p_others)) ∧ Ex w w' := by
 have hol3 : p_s.length ≤ 1073741824 := o1
 have hol4 : p_others.length ≤ 1073741824 := o2
 refine Cal.of func98 rfl ntmps98 rfl (cR (sA rfl (dn (CW.seq (cR ?_)))))
 refine sM rfl (sd rfl (yl_slen un9 (a := p_s) rfl rfl (sM rfl (dn (CW.block (CW.loop (fun m6 L7 w8 => ∃ (k5 : Nat), m6 = p_s.length - k5 ∧ k5 ≤ p_s.length ∧ w.heap.size ≤ w8.heap.size ∧ lkp L7 0 = some (.string (bs (p_s))) ∧ lkp L7 1 = some (.string (bs (p_others))) ∧ lkp L7 7 = some (.int .i64 ((p_s.length : Int))) ∧ lkp L7 8 = some (.int .i64 ((k5 : Int))) ∧ Ex w w8 ∧ loopM (B_i_hasBytes_0 p_s p_others) (p_s.length - k5) k5 () = loopM (B_i_hasBytes_0 p_s p_others) (p_s.length - 0) 0 ()) (p_s.length - 0) ?_ ?_))))))
 ·exact ⟨0, rfl, oM, Nat.le_refl _, rfl, rfl, rfl, rfl, (Ex.refl w), rfl⟩
 ·rintro m9 L10 w11 ⟨k5, rfl, hk12, hsz14, hl15, hl16, hl17, hl18, hf19, hI13⟩
  refine CW.sub (Sub.cons hl15 (Sub.cons hl16 (Sub.cons hl17 (Sub.cons hl18 (Sub.nil _))))) ?_
  have hf19z := Ex.size hf19
  have hbg20 : p_s.length ≤ 1073741824 := o1
  rcases Nat.lt_or_ge k5 p_s.length with hlt21 | hlt21
  ·refine cR (sd rfl (yl_lss rfl rfl rfl (dn (CW.seq (CW.cond_t rfl (lt_t hlt21) (CW.skip (tn ?_)))))))
   refine CW.seq (CW.block (cR (sM rfl (sA rfl (dn (CW.seq ?_))))))
   refine CW.region (sM rfl (sM rfl (sd rfl (yl_sindexN un9 (a := p_s) rfl rfl rfl Bo (sd rfl (yC en113 rfl (oc rfl oz) (Cal.mono (c_i_isLowerOrDigit ((p_s.getD k5 0).toNat : Int)) ?_)))))))
   rintro v23 w22 ⟨rfl, hE24⟩
   have hE24z := Ex.size hE24
   refine sd rfl (yl_not rfl rfl (sM rfl (bcase (i_isLowerOrDigit ((p_s.getD k5 0).toNat : Int)) (fun hb25 => ?_) (fun hb25 => ?_))))
   ·refine sz rfl rfl (not_t hb25) (sz rfl rfl (not_t hb25) (sz rfl rfl (not_t hb25) (sz rfl rfl (not_t hb25) (sz rfl rfl (not_t hb25) (sz rfl rfl (not_t hb25) (sd rfl (yl_pick_f rfl rfl (not_t hb25) rfl (dn ?_))))))))
    refine CW.cond_f rfl rfl (CW.skip (bn (tn (CW.region (sd rfl (yl_inc rfl rfl rfl oM (sM rfl (dn ?_))))))))
    have hB26 : B_i_hasBytes_0 p_s p_others k5 () = .cont () := by simp only [B_i_hasBytes_0, hb25, cL]
    exact ⟨p_s.length - (k5 + 1), oM, k5 + 1, rfl, hlt21, oM, rfl, rfl, rfl, rfl, (Ex.trans hf19 hE24), (loopM.cont hlt21 hB26).symm.trans hI13⟩
   ·refine sy rfl rfl (not_f hb25) (yM rfl rfl (sy rfl rfl (not_f hb25) (yM rfl rfl (sy rfl rfl (not_f hb25) (yM rfl rfl (sy rfl rfl (not_f hb25) (yl_sindexN un9 (a := p_s) rfl rfl rfl Bo (sy rfl rfl (not_f hb25) (yC en114 rfl (oc rfl (oc rfl oz)) (Cal.mono (c_g_strings_IndexByte p_others ((p_s.getD k5 0).toNat : Int) o2) ?_))))))))))
    rintro v29 w28 ⟨rfl, hE30⟩
    have hE30z := Ex.size hE30
    refine sy rfl rfl (not_f hb25) (yl_lss rfl rfl rfl (sd rfl (yl_pick_t rfl rfl (not_f hb25) rfl (dn (bcase (decide ((g_strings_IndexByte p_others ((p_s.getD k5 0).toNat : Int)) < 0)) (fun hb31 => ?_) (fun hb31 => ?_))))))
    ·have hb31p := dec_t hb31
     refine CW.cond_t rfl hb31 (cR (sA rfl (dn (CW.ret (br (tr ?_))))))
     refine tr ?_
     have hB33 : B_i_hasBytes_0 p_s p_others k5 () = .ret false := by simp only [B_i_hasBytes_0, hb25, hb31, cL]
     have hL32 : loopM (B_i_hasBytes_0 p_s p_others) (p_s.length - 0) 0 () = .ret false := hI13.symm.trans (loopM.ret hlt21 hB33)
     refine br (tr (rr rfl (.cons rfl .nil) ?_))
     have hM34 : (i_hasBytes p_s p_others) = (false) := by simp only [i_hasBytes, hb25, hb31, hL32, cL]
     rw [hM34]
     exact ⟨rfl, (Ex.trans (Ex.trans hf19 hE24) hE30)⟩
    ·have hb31p := dec_f hb31
     refine CW.cond_f rfl hb31 (CW.skip (bn (tn (CW.region (sd rfl (yl_inc rfl rfl rfl oM (sM rfl (dn ?_))))))))
     have hB37 : B_i_hasBytes_0 p_s p_others k5 () = .cont () := by simp only [B_i_hasBytes_0, hb25, hb31, cL]
     exact ⟨p_s.length - (k5 + 1), oM, k5 + 1, rfl, hlt21, oM, rfl, rfl, rfl, rfl, (Ex.trans (Ex.trans hf19 hE24) hE30), (loopM.cont hlt21 hB37).symm.trans hI13⟩
  ·refine cR (sd rfl (yl_lss rfl rfl rfl (dn (CW.seq (CW.cond_f rfl (lt_f hlt21) (CW.exit (tx ?_)))))))
   refine tx ?_
   have hL40 : loopM (B_i_hasBytes_0 p_s p_others) (p_s.length - 0) 0 () = .done () := hI13.symm.trans (loopM.stop hlt21)
   refine bx (tn (cR (sA rfl (dn (CW.ret (rr rfl (.cons rfl .nil) ?_))))))
   have hM41 : (i_hasBytes p_s p_others) = (true) := by simp only [i_hasBytes, hL40, cL]
   rw [hM41]
   exact ⟨rfl, hf19⟩
theorem c_i_isField {w : World} (p_s : Str) (o1 : okS p_s) : Cal Tryz.prog 67 #[.string (bs (p_s))] w fun v w' => v = .bool ((i_isField p_s)) ∧ Ex w w' := by
 refine Cal.of func67 rfl ntmps67 rfl (cR (sA rfl (dn (cR (sM rfl ?_)))))
 refine sd rfl (yl_slen un9 (a := p_s) rfl rfl (sd rfl (yC en62 rfl (oc rfl (oc rfl (oc rfl oz))) (Cal.mono (c_i_within (p_s.length : Int) 1 3) ?_))))
 rintro v4 w3 ⟨rfl, hE5⟩
 refine sM rfl (bcase (i_within (p_s.length : Int) 1 3) (fun hb6 => ?_) (fun hb6 => ?_))
 ·have hb6p := f_within hb6
  refine sy rfl rfl hb6 (yM rfl rfl (sy rfl rfl hb6 (yC en98 rfl (oc rfl (oc rfl oz)) (Cal.mono (c_i_hasBytes p_s ([] : Str) o1 (okS.lit rfl)) ?_))))
  rintro v8 w7 ⟨rfl, hE9⟩
  refine sd rfl (yl_pick_t rfl rfl hb6 rfl (sA rfl (dn (CW.ret (rr rfl (.cons rfl .nil) ?_)))))
  have hM10 : (i_isField p_s) = ((i_hasBytes p_s ([] : Str))) := by simp only [i_isField, hb6, cL]
  rw [hM10]
  exact ⟨rfl, (Ex.trans (Ex.trans (Ex.refl w) hE5) hE9)⟩
 ·refine sz rfl rfl hb6 (sz rfl rfl hb6 (sd rfl (yl_pick_f rfl rfl hb6 rfl (sA rfl (dn (CW.ret (rr rfl (.cons rfl .nil) ?_)))))))
  have hM13 : (i_isField p_s) = (false) := by simp only [i_isField, hb6, cL]
  rw [hM13]
  exact ⟨rfl, (Ex.trans (Ex.refl w) hE5)⟩
theorem c_i_Table_isRow_c1 {w : World} (p_s : Str) (o1 : okS p_s) : Cal Tryz.prog 66 #[.string (bs (p_s))] w fun v w' => v = .bool ((i_Table_isRow_c1 p_s)) ∧ Ex w w' := by
 refine Cal.of func66 rfl ntmps66 rfl (cR (sA rfl (dn (cR (sM rfl ?_)))))
 refine sd rfl (yC en67 rfl (oc rfl oz) (Cal.mono (c_i_isField p_s o1) ?_))
 rintro v4 w3 ⟨rfl, hE5⟩
 refine sd rfl (yl_not rfl rfl (sA rfl (dn (CW.ret (rr rfl (.cons rfl .nil) ?_)))))
 have hM6 : (i_Table_isRow_c1 p_s) = (!(i_isField p_s)) := by simp only [i_Table_isRow_c1, cL]
 rw [hM6]
 exact ⟨rfl, (Ex.trans (Ex.refl w) hE5)⟩
theorem c_i_Table_isRow {A1 : Option Addr} {c1 : Nat} {A2 : Option Addr} {c2 : Nat} {A4 : Option Addr} {c4 : Nat} {w : World} (p_t : DTable) (p_r : DRow) (h1 : RdS w (Iv 0 w.heap.size) (RF e_Str) 1 A1 p_t.Cols.length c1 p_t.Cols) (h2 : RdS w (Iv 0 w.heap.size) (RF e_Idx) 3 A2 p_t.Idxs.length c2 p_t.Idxs) (h4 : RdS w (Iv 0 w.heap.size) (RF e_Str) 1 A4 p_r.Vals.length c4 p_r.Vals) (o3 : ok_Table p_t) (o5 : ok_Row p_r) : Cal Tryz.prog 35 #[.agg #[.string (bs (p_t.Name)), .slice A1 p_t.Cols.length c1, .slice A2 p_t.Idxs.length c2], .agg #[.slice A4 p_r.Vals.length c4]] w fun v w' => v = .bool ((i_Table_isRow p_t p_r)) ∧ Ex w w' := by
 refine Cal.of func35 rfl ntmps35 rfl (cR (sd rfl (yl_box rfl rfl rfl ?_)))
 intro b10 w11 hs12 hz13 hB14 hE15
 refine sd rfl (yl_box rfl rfl rfl ?_)
 intro b16 w17 hs18 hz19 hB20 hE21
 refine sA rfl (dn (cR (sd rfl (yl_fieldAddr fd28_0 rfl rfl (sd rfl (yl_load1 ty23 rfl rfl ((hB20.cell 0).trans rfl) (sd rfl (yL un23 rfl rfl (sd rfl (yl_fieldAddr fd26_1 rfl rfl ?_))))))))))
 refine sd rfl (yl_load1 ty23 rfl rfl (((Box.ex hB14 hE21).cell 1).trans rfl) (sd rfl (yL un23 rfl rfl (sd rfl (yl_eql rfl rfl rfl (sM rfl (bcase (decide ((p_r.Vals.length : Int) = (p_t.Cols.length : Int))) (fun hb23 => ?_) (fun hb23 => ?_))))))))
 ·have hb23p := dec_t hb23
  refine sy rfl rfl hb23 (yl_fieldAddr fd28_0 rfl rfl (sy rfl rfl hb23 (yl_load1 ty23 rfl rfl ((hB20.cell 0).trans rfl) (sy rfl rfl hb23 (yC en65 rfl (oc rfl (oc rfl oz)) (Cal.mono (c_g_slices_ContainsFunc_string p_r.Vals (fun y0 => i_Table_isRow_c1 y0) (RdS.up (RdS.ex gS (RdS.ex gS h4 hE15) hE21) gS) en66 (fun _ y0 => fun hE hm0 ov0 => c_i_Table_isRow_c1 y0 ov0) o5) ?_))))))
  rintro v27 w26 ⟨rfl, hE28⟩
  refine sy rfl rfl hb23 (yl_not rfl rfl (sd rfl (yl_pick_t rfl rfl hb23 rfl (sA rfl (dn (CW.ret (rr rfl (.cons rfl .nil) ?_)))))))
  have hM29 : (i_Table_isRow p_t p_r) = (!(g_slices_ContainsFunc_string p_r.Vals (fun y0 => i_Table_isRow_c1 y0))) := by simp only [i_Table_isRow, hb23, cL]
  rw [hM29]
  exact ⟨rfl, (Ex.trans (Ex.trans (Ex.trans (Ex.refl w) hE15) hE21) hE28)⟩
 ·have hb23p := dec_f hb23
  refine sz rfl rfl hb23 (sz rfl rfl hb23 (sz rfl rfl hb23 (sz rfl rfl hb23 (sd rfl (yl_pick_f rfl rfl hb23 rfl (sA rfl (dn (CW.ret ?_))))))))
  refine rr rfl (.cons rfl .nil) ?_
  have hM33 : (i_Table_isRow p_t p_r) = (false) := by simp only [i_Table_isRow, hb23, cL]
  rw [hM33]
  exact ⟨rfl, (Ex.trans (Ex.trans (Ex.refl w) hE15) hE21)⟩
theorem c_i_GoodRow {A1 : Option Addr} {c1 : Nat} {A2 : Option Addr} {c2 : Nat} {A4 : Option Addr} {c4 : Nat} {w : World} (p_t : DTable) (p_r : DRow) (h1 : RdS w (Iv 0 w.heap.size) (RF e_Str) 1 A1 p_t.Cols.length c1 p_t.Cols) (h2 : RdS w (Iv 0 w.heap.size) (RF e_Idx) 3 A2 p_t.Idxs.length c2 p_t.Idxs) (h4 : RdS w (Iv 0 w.heap.size) (RF e_Str) 1 A4 p_r.Vals.length c4 p_r.Vals) (o3 : ok_Table p_t) (o5 : ok_Row p_r) : Cal Tryz.prog 15 #[.agg #[.string (bs (p_t.Name)), .slice A1 p_t.Cols.length c1, .slice A2 p_t.Idxs.length c2], .agg #[.slice A4 p_r.Vals.length c4]] w fun v w' => v = .bool ((i_GoodRow p_t p_r)) ∧ Ex w w' := by
 refine Cal.of func15 rfl ntmps15 rfl (cR (sd rfl (yl_box rfl rfl rfl ?_)))
 intro b10 w11 hs12 hz13 hB14 hE15
 refine sd rfl (yl_box rfl rfl rfl ?_)
 intro b16 w17 hs18 hz19 hB20 hE21
 refine sA rfl (dn (cR ?_))
 have q22 := Box.ex hB14 hE21
 refine sd rfl (yl_loadN ty26 rfl rfl (q22.cells (n := 3) rfl) rfl ?_)
 have q24 := RdS.ex gS (RdS.ex gS h1 hE15) hE21
 have q26 := RdS.ex gI (RdS.ex gI h2 hE15) hE21
 refine sd rfl (yC en34 rfl (oc rfl oz) (Cal.mono (c_i_GoodTable p_t (RdS.up q24 gS) (RdS.up q26 gI) o3) ?_))
 rintro v28 w27 ⟨rfl, hE29⟩
 refine sM rfl (bcase (i_GoodTable p_t) (fun hb30 => ?_) (fun hb30 => ?_))
 ·have hb30p := f_i_GoodTable hb30
  refine sy rfl rfl hb30 (yl_loadN ty26 rfl rfl ((Box.ex q22 hE29).cells (n := 3) rfl) rfl (sy rfl rfl hb30 (yl_loadN ty28 rfl rfl ((Box.ex hB20 hE29).cells (n := 1) rfl) rfl (sy rfl rfl hb30 (yC en35 rfl (oc rfl (oc rfl oz)) (Cal.mono (c_i_Table_isRow p_t p_r (RdS.up (RdS.ex gS q24 hE29) gS) (RdS.up (RdS.ex gI q26 hE29) gI) (RdS.up (RdS.ex gS (RdS.ex gS (RdS.ex gS h4 hE15) hE21) hE29) gS) o3 o5) ?_))))))
  rintro v39 w38 ⟨rfl, hE40⟩
  refine sd rfl (yl_pick_t rfl rfl hb30 rfl (sA rfl (dn (CW.ret (rr rfl (.cons rfl .nil) ?_)))))
  have hM41 : (i_GoodRow p_t p_r) = ((i_Table_isRow p_t p_r)) := by simp only [i_GoodRow, hb30, cL]
  rw [hM41]
  exact ⟨rfl, (Ex.trans (Ex.trans (Ex.trans (Ex.trans (Ex.refl w) hE15) hE21) hE29) hE40)⟩
 ·refine sz rfl rfl hb30 (sz rfl rfl hb30 (sz rfl rfl hb30 (sd rfl (yl_pick_f rfl rfl hb30 rfl (sA rfl (dn (CW.ret (rr rfl (.cons rfl .nil) ?_))))))))
  have hM46 : (i_GoodRow p_t p_r) = (false) := by simp only [i_GoodRow, hb30, cL]
  rw [hM46]
  exact ⟨rfl, (Ex.trans (Ex.trans (Ex.trans (Ex.refl w) hE15) hE21) hE29)⟩
theorem c_g_slices_IndexFunc_Idx {A1 : Option Addr} {c1 : Nat} {g3 : Nat} {cp4 : List Value} {w : World} (p_s : List DIdx) (p_f : DIdx → Bool) (h1 : RdS w (Iv 0 w.heap.size) (RF e_Idx) 3 A1 p_s.length c1 p_s) (hen5 : Go.X.Enters Tryz.prog g3) (hfn6 : ∀ (w1 : World) (y0 : DIdx), Ex w w1 → y0 ∈ p_s → ok_Idx y0 → Cal Tryz.prog g3 (([.agg #[.string (bs (y0.Name)), .int .i64 (y0.Col), .int .i64 (y0.Stage)]] : List Value) ++ cp4).toArray w1 fun v w2 => v = .bool (p_f y0) ∧ Ex w1 w2) (o2 : (okL ok_Idx) p_s) : Cal Tryz.prog 68 #[.slice A1 p_s.length c1, .func (.func g3) #[] cp4.toArray] w fun v w' => v = .int .i64 ((g_slices_IndexFunc_Idx p_s p_f)) ∧ Ex w w' := by
 have hol7 := o2.1
 refine Cal.of func68 rfl ntmps68 rfl (cR (sA rfl (dn (CW.seq (cR ?_)))))
 refine sM rfl (sd rfl (yL un24 rfl rfl (sM rfl (dn (CW.block (CW.loop (fun m9 L10 w11 => ∃ (k8 : Nat), m9 = p_s.length - k8 ∧ k8 ≤ p_s.length ∧ w.heap.size ≤ w11.heap.size ∧ lkp L10 0 = some (.slice A1 p_s.length c1) ∧ lkp L10 1 = some (.func (.func g3) #[] cp4.toArray) ∧ lkp L10 7 = some (.int .i64 ((p_s.length : Int))) ∧ lkp L10 8 = some (.int .i64 ((k8 : Int))) ∧ RdS w11 (Iv 0 w.heap.size) (RF e_Idx) 3 A1 p_s.length c1 p_s ∧ Ex w w11 ∧ loopM (B_g_slices_IndexFunc_Idx_0 p_s p_f) (p_s.length - k8) k8 () = loopM (B_g_slices_IndexFunc_Idx_0 p_s p_f) (p_s.length - 0) 0 ()) (p_s.length - 0) ?_ ?_))))))
 ·exact ⟨0, rfl, oM, Nat.le_refl _, rfl, rfl, rfl, rfl, h1, (Ex.refl w), rfl⟩
 ·rintro m12 L13 w14 ⟨k8, rfl, hk15, hsz17, hl18, hl19, hl20, hl21, hf22, hf23, hI16⟩
  refine CW.sub (Sub.cons hl18 (Sub.cons hl19 (Sub.cons hl20 (Sub.cons hl21 (Sub.nil _))))) ?_
  have hf23z := Ex.size hf23
  have hbg24 := RdS.big hf22
  rcases Nat.lt_or_ge k8 p_s.length with hlt25 | hlt25
  ·refine cR (sd rfl (yl_lss rfl rfl rfl (dn (CW.seq (CW.cond_t rfl (lt_t hlt25) (CW.skip (tn ?_)))))))
   refine CW.seq (CW.block (cR (sM rfl (sA rfl (dn (CW.seq ?_))))))
   refine CW.region (sM rfl (sM rfl (sM rfl ?_)))
   obtain ⟨eb26, eo26, _, eA26, _, ebl26, _, eR26, eC26⟩ := RdS.aD hf22 d_Idx (i := k8)
   obtain rfl := eR26
   have eC26 : Cells w14 eb26 (eo26 + k8 * 3) [.string (bs ((p_s.getD k8 d_Idx).Name)), .int .i64 ((p_s.getD k8 d_Idx).Col), .int .i64 ((p_s.getD k8 d_Idx).Stage)] := eC26
   refine sd rfl (yl_ixN un24 ty54 rfl rfl rfl eA26 (sd rfl (yl_loadN ty54 rfl rfl eC26 rfl (sd rfl (yl_callv hen5 rfl rfl (oc rfl oz) (Cal.mono (hfn6 w14 (p_s.getD k8 d_Idx) hf23 (getD_mem oM) (okL.getD o2 ok_d_Idx _)) ?_))))))
   rintro v28 w27 ⟨rfl, hE29⟩
   have hE29z := Ex.size hE29
   refine dn (bcase (p_f (p_s.getD k8 d_Idx)) (fun hb30 => ?_) (fun hb30 => ?_))
   ·refine CW.cond_t rfl hb30 (cR (sM rfl (sA rfl (dn (CW.ret (br ?_))))))
    refine tr (tr ?_)
    have hB32 : B_g_slices_IndexFunc_Idx_0 p_s p_f k8 () = .ret (k8 : Int) := by simp only [B_g_slices_IndexFunc_Idx_0, hb30, cL]
    have hL31 : loopM (B_g_slices_IndexFunc_Idx_0 p_s p_f) (p_s.length - 0) 0 () = .ret (k8 : Int) := hI16.symm.trans (loopM.ret hlt25 hB32)
    refine br (tr (rr rfl (.cons rfl .nil) ?_))
    have hM33 : (g_slices_IndexFunc_Idx p_s p_f) = ((k8 : Int)) := by simp only [g_slices_IndexFunc_Idx, hb30, hL31, cL]
    rw [hM33]
    exact ⟨rfl, (Ex.trans hf23 hE29)⟩
   ·refine CW.cond_f rfl hb30 (CW.skip (bn (tn (CW.region (sd rfl (yl_inc rfl rfl rfl oM (sM rfl (dn ?_))))))))
    have hB35 : B_g_slices_IndexFunc_Idx_0 p_s p_f k8 () = .cont () := by simp only [B_g_slices_IndexFunc_Idx_0, hb30, cL]
    exact ⟨p_s.length - (k8 + 1), oM, k8 + 1, rfl, hlt25, oM, rfl, rfl, rfl, rfl, (RdS.ex gI hf22 hE29), (Ex.trans hf23 hE29), (loopM.cont hlt25 hB35).symm.trans hI16⟩
  ·refine cR (sd rfl (yl_lss rfl rfl rfl (dn (CW.seq (CW.cond_f rfl (lt_f hlt25) (CW.exit (tx ?_)))))))
   refine tx ?_
   have hL38 : loopM (B_g_slices_IndexFunc_Idx_0 p_s p_f) (p_s.length - 0) 0 () = .done () := hI16.symm.trans (loopM.stop hlt25)
   refine bx (tn (cR (sA rfl (dn (CW.ret (rr rfl (.cons rfl .nil) ?_))))))
   have hM39 : (g_slices_IndexFunc_Idx p_s p_f) = (-1) := by simp only [g_slices_IndexFunc_Idx, hL38, cL]
   rw [hM39]
   exact ⟨rfl, hf23⟩
theorem c_i_Table_findIdx_c1 {b2 : Nat} {w : World} (p_x : DIdx) (p_cap0 : Str) (h3 : Box w b2 9 [.string (bs (p_cap0))]) (o1 : ok_Idx p_x) (o4 : okS p_cap0) : Cal Tryz.prog 69 #[.agg #[.string (bs (p_x.Name)), .int .i64 (p_x.Col), .int .i64 (p_x.Stage)], .pointer (some ⟨b2, 0, none⟩)] w fun v w' => v = .bool ((i_Table_findIdx_c1 p_x p_cap0)) ∧ Ex w w' := by
 refine Cal.of func69 rfl ntmps69 rfl (cR (sd rfl (yl_box rfl rfl rfl ?_)))
 intro b7 w8 hs9 hz10 hB11 hE12
 refine sA rfl (dn (cR (sd rfl (yl_fieldAddr fd54_0 rfl rfl (sd rfl (yl_load1 ty9 rfl rfl ((hB11.cell 0).trans rfl) (sd rfl (yl_load1 ty9 rfl rfl (((Box.ex h3 hE12).cell 0).trans rfl) (sd rfl (yl_seql (a := p_x.Name) (b := p_cap0) rfl rfl rfl ?_))))))))))
 refine sA rfl (dn (CW.ret (rr rfl (.cons rfl .nil) ?_)))
 have hM14 : (i_Table_findIdx_c1 p_x p_cap0) = (p_x.Name == p_cap0) := by simp only [i_Table_findIdx_c1, cL]
 rw [hM14]
 exact ⟨rfl, (Ex.trans (Ex.refl w) hE12)⟩
theorem c_i_Table_findIdx {A1 : Option Addr} {c1 : Nat} {A2 : Option Addr} {c2 : Nat} {w : World} (p_t : DTable) (pn : Str) (h1 : RdS w (Iv 0 w.heap.size) (RF e_Str) 1 A1 p_t.Cols.length c1 p_t.Cols) (h2 : RdS w (Iv 0 w.heap.size) (RF e_Idx) 3 A2 p_t.Idxs.length c2 p_t.Idxs) (o3 : ok_Table p_t) (o4 : okS pn) : Cal Tryz.prog 36 #[.agg #[.string (bs (p_t.Name)), .slice A1 p_t.Cols.length c1, .slice A2 p_t.Idxs.length c2], .string (bs (pn))] w fun v w' => v = .int .i64 ((i_Table_findIdx p_t pn)) ∧ Ex w w' := by
 refine Cal.of func36 rfl ntmps36 rfl (cR (sd rfl (yl_box rfl rfl rfl ?_)))
 intro b9 w10 hs11 hz12 hB13 hE14
 refine sd rfl (yl_box rfl rfl rfl ?_)
 intro b15 w16 hs17 hz18 hB19 hE20
 refine sA rfl (dn (cR (sd rfl (yl_fieldAddr fd26_2 rfl rfl (sd rfl (yl_load1 ty24 rfl rfl (((Box.ex hB13 hE20).cell 2).trans rfl) (sd rfl (yl_makeFunc rfl (oc rfl oz) (sd rfl (yC en68 rfl (oc rfl (oc rfl oz)) (Cal.mono (c_g_slices_IndexFunc_Idx p_t.Idxs (fun y0 => i_Table_findIdx_c1 y0 pn) (RdS.up (RdS.ex gI (RdS.ex gI h2 hE14) hE20) gI) en69 (fun _ y0 => fun hE hm0 ov0 => c_i_Table_findIdx_c1 y0 pn (Box.ex hB19 hE) ov0 o4) o3.2.2) ?_)))))))))))
 rintro v25 w24 ⟨rfl, hE26⟩
 refine sA rfl (dn (CW.ret (rr rfl (.cons rfl .nil) ?_)))
 have hM27 : (i_Table_findIdx p_t pn) = ((g_slices_IndexFunc_Idx p_t.Idxs (fun y0 => i_Table_findIdx_c1 y0 pn))) := by simp only [i_Table_findIdx, cL]
 rw [hM27]
 exact ⟨rfl, (Ex.trans (Ex.trans (Ex.trans (Ex.refl w) hE14) hE20) hE26)⟩
theorem c_i_hasIdx {A1 : Option Addr} {c1 : Nat} {A2 : Option Addr} {c2 : Nat} {w : World} (p_t : DTable) (pn : Str) (h1 : RdS w (Iv 0 w.heap.size) (RF e_Str) 1 A1 p_t.Cols.length c1 p_t.Cols) (h2 : RdS w (Iv 0 w.heap.size) (RF e_Idx) 3 A2 p_t.Idxs.length c2 p_t.Idxs) (o3 : ok_Table p_t) (o4 : okS pn) : Cal Tryz.prog 16 #[.agg #[.string (bs (p_t.Name)), .slice A1 p_t.Cols.length c1, .slice A2 p_t.Idxs.length c2], .string (bs (pn))] w fun v w' => v = .bool ((i_hasIdx p_t pn)) ∧ Ex w w' := by
 refine Cal.of func16 rfl ntmps16 rfl (cR (sd rfl (yl_box rfl rfl rfl ?_)))
 intro b9 w10 hs11 hz12 hB13 hE14
 refine sA rfl (dn (cR (sd rfl (yl_loadN ty26 rfl rfl (hB13.cells (n := 3) rfl) rfl ?_))))
 have q15 := RdS.ex gS h1 hE14
 have q16 := RdS.ex gI h2 hE14
 refine sd rfl (yC en34 rfl (oc rfl oz) (Cal.mono (c_i_GoodTable p_t (RdS.up q15 gS) (RdS.up q16 gI) o3) ?_))
 rintro v18 w17 ⟨rfl, hE19⟩
 refine sM rfl (bcase (i_GoodTable p_t) (fun hb20 => ?_) (fun hb20 => ?_))
 ·have hb20p := f_i_GoodTable hb20
  refine sy rfl rfl hb20 (yl_loadN ty26 rfl rfl ((Box.ex hB13 hE19).cells (n := 3) rfl) rfl (sy rfl rfl hb20 (yM rfl rfl (sy rfl rfl hb20 (yC en36 rfl (oc rfl (oc rfl oz)) (Cal.mono (c_i_Table_findIdx p_t pn (RdS.up (RdS.ex gS q15 hE19) gS) (RdS.up (RdS.ex gI q16 hE19) gI) o3 o4) ?_))))))
  rintro v25 w24 ⟨rfl, hE26⟩
  have hrf27 := rf_i_findIdx p_t pn
  refine sy rfl rfl hb20 (yl_geq rfl rfl rfl (sd rfl (yl_pick_t rfl rfl hb20 rfl (sA rfl (dn (CW.ret (rr rfl (.cons rfl .nil) ?_)))))))
  have hM28 : (i_hasIdx p_t pn) = (decide (0 ≤ (i_Table_findIdx p_t pn))) := by simp only [i_hasIdx, hb20, cL]
  rw [hM28]
  exact ⟨rfl, (Ex.trans (Ex.trans (Ex.trans (Ex.refl w) hE14) hE19) hE26)⟩
 ·refine sz rfl rfl hb20 (sz rfl rfl hb20 (sz rfl rfl hb20 (sz rfl rfl hb20 (sd rfl (yl_pick_f rfl rfl hb20 rfl (sA rfl (dn (CW.ret ?_))))))))
  refine rr rfl (.cons rfl .nil) ?_
  have hM32 : (i_hasIdx p_t pn) = (false) := by simp only [i_hasIdx, hb20, cL]
  rw [hM32]
  exact ⟨rfl, (Ex.trans (Ex.trans (Ex.refl w) hE14) hE19)⟩
theorem c_i_Table_rowWrite {A1 : Option Addr} {c1 : Nat} {A2 : Option Addr} {c2 : Nat} {A4 : Option Addr} {c4 : Nat} {w : World} (p_t : DTable) (p_r : DRow) (h1 : RdS w (Iv 0 w.heap.size) (RF e_Str) 1 A1 p_t.Cols.length c1 p_t.Cols) (h2 : RdS w (Iv 0 w.heap.size) (RF e_Idx) 3 A2 p_t.Idxs.length c2 p_t.Idxs) (h4 : RdS w (Iv 0 w.heap.size) (RF e_Str) 1 A4 p_r.Vals.length c4 p_r.Vals) (o3 : ok_Table p_t) (o5 : ok_Row p_r) (pre0 : 0 < p_r.Vals.length) (pre1 : p_r.Vals.length ≤ 4) (pre2 : rowShort p_r) : Cal Tryz.prog 37 #[.agg #[.string (bs (p_t.Name)), .slice A1 p_t.Cols.length c1, .slice A2 p_t.Idxs.length c2], .agg #[.slice A4 p_r.Vals.length c4]] w fun v w' => v = .agg #[.string (bs ((i_Table_rowWrite p_t p_r).Key)), .string (bs ((i_Table_rowWrite p_t p_r).Val)), .bool ((i_Table_rowWrite p_t p_r).Gone)] ∧ Ex w w' := by
 have hol6 : p_t.Name.length ≤ 1073741824 := o3.1
 have hol7 := o3.2.1.1
 have hol8 := o3.2.2.1
 have hol9 := o5.1
 refine Cal.of func37 rfl ntmps37 rfl (cR (sd rfl (yl_box rfl rfl rfl ?_)))
 intro b10 w11 hs12 hz13 hB14 hE15
 refine sd rfl (yl_box rfl rfl rfl ?_)
 intro b16 w17 hs18 hz19 hB20 hE21
 refine sd rfl (yB ty39 (cs := [.string (bs (([] : Str))), .string (bs (([] : Str))), .bool (false)]) rfl rfl ?_)
 intro b22 w23 hs24 hz25 hB26 hE27
 refine dn (CW.seq ?_)
 have hol30 : p_t.Name.length ≤ 1073741824 := o3.1
 have q31 := Box.ex hB20 hE27
 have q34 := RdS.ex gS (RdS.ex gS (RdS.ex gS h4 hE15) hE21) hE27
 obtain ⟨eb35, eo35, _, eA35, _, ebl35, _, eR35, eC35⟩ := RdS.aD q34 d_Str (i := 0)
 obtain rfl := eR35
 have eC35 : Cells w23 eb35 (eo35 + 0 * 1) [.string (bs ((p_r.Vals.getD 0 d_Str)))] := eC35
 have hol36 : p_t.Name.length ≤ 1073741824 := o3.1
 have hol37 : (p_r.Vals.getD 0 d_Str).length ≤ 1073741824 := (okL.getD o5 ok_d_Str _)
 obtain ⟨A38, c39, he42, h41⟩ := RdS.sl (RdS.drop q34 (k := 1) oM)
 have hrc43 := (q34).2.1
 refine CW.drawsI 12 (vgetI [DetI (.pointer (some ⟨b10, 0 + 0, none⟩)), DetI (.string (bs (p_t.Name))), DetI (.string (bs (p_t.Name ++ ([47] : Str)))), DetI (.pointer (some ⟨b16, 0 + 0, none⟩)), DetI (.slice A4 p_r.Vals.length c4), DetI (.pointer (some ⟨eb35, eo35 + 0 * 1, none⟩)), DetI (.string (bs ((p_r.Vals.getD 0 d_Str)))), DetI (.string (bs ((p_t.Name ++ ([47] : Str)) ++ (p_r.Vals.getD 0 d_Str)))), DetI (.pointer (some ⟨b16, 0 + 0, none⟩)), DetI (.slice A4 p_r.Vals.length c4), fun lo hi v wq => ∃ A38 c39, v = .slice A38 ((p_r.Vals.drop 1).length) c39 ∧ RdS wq (Iv 0 w.heap.size) (RF e_Str) 1 A38 (p_r.Vals.drop 1).length c39 (p_r.Vals.drop 1), fun lo hi v wq => v = .string (bs ((g_strings_Join (p_r.Vals.drop 1) ([44] : Str)))) ∧ okS (g_strings_Join (p_r.Vals.drop 1) ([44] : Str))]) Tryz.follows rfl rfl rfl rfl rfl rfl (vgetI_stable ⟨StableI.det _, StableI.det _, StableI.det _, StableI.det _, StableI.det _, StableI.det _, StableI.det _, StableI.det _, StableI.det _, StableI.det _, (fun _ _ _ _ _ ⟨A38, c39, hv, h44⟩ e => ⟨A38, c39, hv, RdS.ex gS h44 e⟩), (fun _ _ _ _ _ ⟨hv, ho46⟩ e => ⟨hv, ho46⟩), trivial⟩) ⟨?_, ?_, ?_, ?_, ?_, ?_, ?_, ?_, ?_, ?_, ?_, ?_, trivial⟩ ?_
 ·exact oI rfl fun h => yl_fieldAddr fd26_0 rfl (h.old 2 _ rfl rfl) kI
 ·exact oI rfl fun h => yl_load1 ty9 rfl (h.dt 0 5 rfl rfl rfl) (((Box.ex (Box.ex (Box.ex hB14 hE21) hE27) h.ex).cell 0).trans rfl) kI
 ·intro L58 w59 hi60
  have hE61 := hi60.ex
  have hE61z := Ex.size hE61
  have hol63 : p_t.Name.length ≤ 1073741824 := o3.1
  exact os rfl ((yl_sadd (a := p_t.Name) (b := ([47] : Str)) rfl (hi60.dt 1 6 rfl rfl rfl) rfl Bl kI))
 ·exact oI rfl fun h => yl_fieldAddr fd28_0 rfl (h.old 3 _ rfl rfl) kI
 ·exact oI rfl fun h => yl_load1 ty23 rfl (h.dt 3 8 rfl rfl rfl) (((Box.ex q31 h.ex).cell 0).trans rfl) kI
 ·intro L75 w76 hi77
  have hE78 := hi77.ex
  have hE78z := Ex.size hE78
  exact os rfl ((yl_ixN un23 ty9 rfl (hi77.dt 4 9 rfl rfl rfl) rfl eA35 kI))
 ·exact oI rfl fun h => yl_load1 ty9 rfl (h.dt 5 10 rfl rfl rfl) ((Cells.ex eC35 h.ex) 0 _ rfl) kI
 ·intro L86 w87 hi88
  have hE89 := hi88.ex
  have hE89z := Ex.size hE89
  have hol92 : p_t.Name.length ≤ 1073741824 := o3.1
  have hol93 : (p_r.Vals.getD 0 d_Str).length ≤ 1073741824 := (okL.getD o5 ok_d_Str _)
  exact os rfl ((yl_sadd (a := (p_t.Name ++ ([47] : Str))) (b := (p_r.Vals.getD 0 d_Str)) rfl (hi88.dt 2 7 rfl rfl rfl) (hi88.dt 6 11 rfl rfl rfl) Bl kI))
 ·exact oI rfl fun h => yl_fieldAddr fd28_0 rfl (h.old 3 _ rfl rfl) kI
 ·exact oI rfl fun h => yl_load1 ty23 rfl (h.dt 8 13 rfl rfl rfl) (((Box.ex q31 h.ex).cell 0).trans rfl) kI
 ·intro L105 w106 hi107
  have hE108 := hi107.ex
  have hE108z := Ex.size hE108
  have q110 := RdS.ex gS q34 hE108
  obtain ⟨A111, c112, he115, h114⟩ := RdS.sl (RdS.drop q110 (k := 1) oM)
  have hrc116 := (q110).2.1
  exact os rfl ((yl_sliceR (kh := .i64) (l := 1) (h := p_r.Vals.length) un23 ty9 rfl (hi107.dt 9 14 rfl rfl rfl) (.inr ⟨_, rfl, rfl⟩) (.inl ⟨rfl, rfl⟩) oM oM he115 ⟨fun _ _ => ⟨A111, c112, rfl, h114⟩, rfl⟩))
 ·intro L117 w118 hi119
  obtain ⟨lo122, hh123, _, hx121, hr124, hr125, hr126, A38_127, c39_128, rfl, h129⟩ := hi119.dep 10 15 rfl rfl
  refine OpR.op' rfl (yC en70 rfl (oc hx121 (oc rfl oz)) (Cal.mono (c_g_strings_Join (p_r.Vals.drop 1) ([44] : Str) (RdS.up h129 gS) (okL.drop o5 _) (okS.lit rfl) (join_drop pre1 pre2)) ?_))
  rintro v132 w130 ⟨rfl, ho131, hE133⟩
  exact ⟨⟨rfl, ho131⟩, hE133⟩
 ·intro fl137 fh138 L134 w135 hp136
  have hE139 := hp136.ex
  have hE139z := Ex.size hE139
  have hx140 := hp136.old 4 _ rfl rfl
  obtain ⟨_, hx142, rfl, h143⟩ := hp136.new 11 16 rfl rfl
  refine sd rfl (yl_build (cs := [.string (bs ((p_t.Name ++ ([47] : Str)) ++ (p_r.Vals.getD 0 d_Str))), .string (bs ((g_strings_Join (p_r.Vals.drop 1) ([44] : Str)))), .bool (false)]) rfl (oc (hp136.nt 7 12 rfl rfl rfl) (oc hx142 oz)) (by kernel_rfl) (SeqR.u rfl rfl (yl_store (vs := [.string (bs ((p_t.Name ++ ([47] : Str)) ++ (p_r.Vals.getD 0 d_Str))), .string (bs ((g_strings_Join (p_r.Vals.drop 1) ([44] : Str)))), .bool (false)]) ty39 rfl hx140 rfl rfl rfl rfl (Box.ex hB26 hE139) (nb rfl) ?_)))
  intro w145 hB146 hO147
  have hB146 : Box w145 b22 39 [.string (bs ((p_t.Name ++ ([47] : Str)) ++ (p_r.Vals.getD 0 d_Str))), .string (bs ((g_strings_Join (p_r.Vals.drop 1) ([44] : Str)))), .bool (false)] := hB146
  have hO147z := hO147.size
  refine dn (CW.sub (sC 4 hx140 (Sub.nil _)) (CW.ret (rr rfl (.cons ⟨_, rfl, run_loadN ty39 (cs := [.string (bs ((p_t.Name ++ ([47] : Str)) ++ (p_r.Vals.getD 0 d_Str))), .string (bs ((g_strings_Join (p_r.Vals.drop 1) ([44] : Str)))), .bool (false)]) rfl (hB146.cells (n := 3) rfl)⟩ .nil) ?_)))
  have hM148 : (i_Table_rowWrite p_t p_r) = ((⟨(p_t.Name ++ ([47] : Str)) ++ (p_r.Vals.getD 0 d_Str), (g_strings_Join (p_r.Vals.drop 1) ([44] : Str)), false⟩ : DWrite)) := by simp only [i_Table_rowWrite, cL]
  rw [hM148]
  exact ⟨rfl, (Below.only (Ex.trans (Ex.trans (Ex.trans (Ex.trans (Ex.refl w) hE15) hE21) hE27) hE139) hO147 oM)⟩
theorem c_i_Table_idxHead {A1 : Option Addr} {c1 : Nat} {A2 : Option Addr} {c2 : Nat} {w : World} (p_t : DTable) (pn : Str) (h1 : RdS w (Iv 0 w.heap.size) (RF e_Str) 1 A1 p_t.Cols.length c1 p_t.Cols) (h2 : RdS w (Iv 0 w.heap.size) (RF e_Idx) 3 A2 p_t.Idxs.length c2 p_t.Idxs) (o3 : ok_Table p_t) (o4 : okS pn) : Cal Tryz.prog 71 #[.agg #[.string (bs (p_t.Name)), .slice A1 p_t.Cols.length c1, .slice A2 p_t.Idxs.length c2], .string (bs (pn))] w fun v w' => v = .string (bs ((i_Table_idxHead p_t pn))) ∧ Ex w w' := by
 have hol5 : p_t.Name.length ≤ 1073741824 := o3.1
 have hol6 := o3.2.1.1
 have hol7 := o3.2.2.1
 have hol8 : pn.length ≤ 1073741824 := o4
 refine Cal.of func71 rfl ntmps71 rfl (cR (sd rfl (yl_box rfl rfl rfl ?_)))
 intro b9 w10 hs11 hz12 hB13 hE14
 refine sA rfl (dn (cR (sd rfl (yl_fieldAddr fd26_0 rfl rfl (sd rfl (yl_load1 ty9 rfl rfl ((hB13.cell 0).trans rfl) ?_))))))
 have hol15 : p_t.Name.length ≤ 1073741824 := o3.1
 refine sd rfl (yl_sadd (a := p_t.Name) (b := ([46] : Str)) rfl rfl rfl Bl (sM rfl ?_))
 have hol16 : p_t.Name.length ≤ 1073741824 := o3.1
 have hol17 : pn.length ≤ 1073741824 := o4
 refine sd rfl (yl_sadd (a := (p_t.Name ++ ([46] : Str))) (b := pn) rfl rfl rfl Bl ?_)
 have hol18 : p_t.Name.length ≤ 1073741824 := o3.1
 have hol19 : pn.length ≤ 1073741824 := o4
 refine sd rfl (yl_sadd (a := ((p_t.Name ++ ([46] : Str)) ++ pn)) (b := ([47] : Str)) rfl rfl rfl Bl (sA rfl (dn (CW.ret (rr rfl (.cons rfl .nil) ?_)))))
 have hM20 : (i_Table_idxHead p_t pn) = (((p_t.Name ++ ([46] : Str)) ++ pn) ++ ([47] : Str)) := by simp only [i_Table_idxHead, cL]
 rw [hM20]
 exact ⟨rfl, (Ex.trans (Ex.refl w) hE14)⟩
theorem c_i_Table_idx {A1 : Option Addr} {c1 : Nat} {A2 : Option Addr} {c2 : Nat} {w : World} (p_t : DTable) (pn : Str) (h1 : RdS w (Iv 0 w.heap.size) (RF e_Str) 1 A1 p_t.Cols.length c1 p_t.Cols) (h2 : RdS w (Iv 0 w.heap.size) (RF e_Idx) 3 A2 p_t.Idxs.length c2 p_t.Idxs) (o3 : ok_Table p_t) (o4 : okS pn) (pre0 : (0 ≤ i_Table_findIdx p_t pn ∧ i_Table_findIdx p_t pn < (p_t.Idxs.length : Int))) : Cal Tryz.prog 72 #[.agg #[.string (bs (p_t.Name)), .slice A1 p_t.Cols.length c1, .slice A2 p_t.Idxs.length c2], .string (bs (pn))] w fun v w' => v = .agg #[.string (bs ((i_Table_idx p_t pn).Name)), .int .i64 ((i_Table_idx p_t pn).Col), .int .i64 ((i_Table_idx p_t pn).Stage)] ∧ ok_Idx (i_Table_idx p_t pn) ∧ Ex w w' := by
 have hol5 : p_t.Name.length ≤ 1073741824 := o3.1
 have hol6 := o3.2.1.1
 have hol7 := o3.2.2.1
 have hol8 : pn.length ≤ 1073741824 := o4
 refine Cal.of func72 rfl ntmps72 rfl (cR (sd rfl (yl_box rfl rfl rfl ?_)))
 intro b9 w10 hs11 hz12 hB13 hE14
 refine sd rfl (yB ty54 (cs := [.string (bs (([] : Str))), .int .i64 (0), .int .i64 (0)]) rfl rfl ?_)
 intro b15 w16 hs17 hz18 hB19 hE20
 refine dn (CW.seq ?_)
 have q21 := Box.ex hB13 hE20
 have q25 := RdS.ex gI (RdS.ex gI h2 hE14) hE20
 have hrf27 := rf_i_findIdx p_t pn
 refine drI 5 [.pointer (some ⟨b9, 0 + 2, none⟩), .slice A2 p_t.Idxs.length c2, .agg #[.string (bs (p_t.Name)), .slice A1 p_t.Cols.length c1, .slice A2 p_t.Idxs.length c2], .string (bs (pn)), .int .i64 ((i_Table_findIdx p_t pn))] Tryz.follows rfl ⟨?_, ?_, ?_, ?_, ?_, trivial⟩ ?_
 ·exact oI rfl fun h => yl_fieldAddr fd26_2 rfl (h.old 2 _ rfl rfl) kI
 ·exact oI rfl fun h => yl_load1 ty24 rfl (h.dt 0 5 rfl rfl rfl) (((Box.ex q21 h.ex).cell 2).trans rfl) kI
 ·exact oI rfl fun h => yl_loadN ty26 rfl (h.old 2 _ rfl rfl) ((Box.ex q21 h.ex).cells (n := 3) rfl) rfl kI
 ·exact oI rfl fun h => yM rfl (h.old 1 _ rfl rfl) kI
 ·intro L50 w51 hi52
  have hE53 := hi52.ex
  exact OpR.op' rfl (yC en36 rfl (oc (hi52.dt 2 7 rfl rfl rfl) (oc (hi52.dt 3 8 rfl rfl rfl) oz)) (Cal.mono (c_i_Table_findIdx p_t pn (RdS.up (RdS.ex gS (RdS.ex gS (RdS.ex gS h1 hE14) hE20) hE53) gS) (RdS.up (RdS.ex gI q25 hE53) gI) o3 o4) fun _ _ h => h))
 ·intro fl64 fh65 L61 w62 hp63
  have hE66 := hp63.ex
  have hE66z := Ex.size hE66
  have hx67 := hp63.old 4 _ rfl rfl
  obtain ⟨eb71, eo71, _, eA71, _, ebl71, _, eR71, eC71⟩ := RdS.atD (RdS.ex gI q25 hE66) d_Idx (i := ((i_Table_findIdx p_t pn)).toNat) Bo
  obtain rfl := eR71
  have eC71 : Cells w62 eb71 (eo71 + (((i_Table_findIdx p_t pn)).toNat) * 3) [.string (bs ((p_t.Idxs.getD (((i_Table_findIdx p_t pn)).toNat) d_Idx).Name)), .int .i64 ((p_t.Idxs.getD (((i_Table_findIdx p_t pn)).toNat) d_Idx).Col), .int .i64 ((p_t.Idxs.getD (((i_Table_findIdx p_t pn)).toNat) d_Idx).Stage)] := eC71
  refine sd rfl (yl_indexAddr un24 ty54 rfl (hp63.nt 1 6 rfl rfl rfl) (hp63.nt 4 9 rfl rfl rfl) eA71 Bo Bo (sd rfl (yl_loadN ty54 rfl rfl eC71 rfl (SeqR.u rfl rfl (yl_store (vs := [.string (bs ((p_t.Idxs.getD (((i_Table_findIdx p_t pn)).toNat) d_Idx).Name)), .int .i64 ((p_t.Idxs.getD (((i_Table_findIdx p_t pn)).toNat) d_Idx).Col), .int .i64 ((p_t.Idxs.getD (((i_Table_findIdx p_t pn)).toNat) d_Idx).Stage)]) ty54 rfl hx67 rfl rfl rfl rfl (Box.ex hB19 hE66) (nb rfl) ?_)))))
  intro w73 hB74 hO75
  have hB74 : Box w73 b15 54 [.string (bs ((p_t.Idxs.getD (((i_Table_findIdx p_t pn)).toNat) d_Idx).Name)), .int .i64 ((p_t.Idxs.getD (((i_Table_findIdx p_t pn)).toNat) d_Idx).Col), .int .i64 ((p_t.Idxs.getD (((i_Table_findIdx p_t pn)).toNat) d_Idx).Stage)] := hB74
  have hO75z := hO75.size
  refine dn (CW.sub (sC 4 hx67 (Sub.nil _)) (CW.ret (rr rfl (.cons ⟨_, rfl, run_loadN ty54 (cs := [.string (bs ((p_t.Idxs.getD (((i_Table_findIdx p_t pn)).toNat) d_Idx).Name)), .int .i64 ((p_t.Idxs.getD (((i_Table_findIdx p_t pn)).toNat) d_Idx).Col), .int .i64 ((p_t.Idxs.getD (((i_Table_findIdx p_t pn)).toNat) d_Idx).Stage)]) rfl (hB74.cells (n := 3) rfl)⟩ .nil) ?_)))
  have hM76 : (i_Table_idx p_t pn) = ((p_t.Idxs.getD (((i_Table_findIdx p_t pn)).toNat) d_Idx)) := by simp only [i_Table_idx, cL]
  rw [hM76]
  exact ⟨rfl, (okL.getD o3.2.2 ok_d_Idx _), (Below.only (Ex.trans (Ex.trans (Ex.trans (Ex.refl w) hE14) hE20) hE66) hO75 oM)⟩
@[reducible] def Y0_11 (p_t : DTable) (pn : Str) (p_r : DRow) := (i_Table_idxHead p_t pn) ++ (p_r.Vals.getD (((i_Table_idx p_t pn).Col).toNat) d_Str)
theorem c_i_Table_idxKey {A1 : Option Addr} {c1 : Nat} {A2 : Option Addr} {c2 : Nat} {A5 : Option Addr} {c5 : Nat} {w : World} (p_t : DTable) (pn : Str) (p_r : DRow) (h1 : RdS w (Iv 0 w.heap.size) (RF e_Str) 1 A1 p_t.Cols.length c1 p_t.Cols) (h2 : RdS w (Iv 0 w.heap.size) (RF e_Idx) 3 A2 p_t.Idxs.length c2 p_t.Idxs) (h5 : RdS w (Iv 0 w.heap.size) (RF e_Str) 1 A5 p_r.Vals.length c5 p_r.Vals) (o3 : ok_Table p_t) (o4 : okS pn) (o6 : ok_Row p_r) (pre0 : (0 ≤ i_Table_findIdx p_t pn ∧ i_Table_findIdx p_t pn < (p_t.Idxs.length : Int))) (pre1 : (0 ≤ (i_Table_idx p_t pn).Col ∧ (i_Table_idx p_t pn).Col < (p_r.Vals.length : Int))) (pre2 : (p_t.Name.length ≤ 1 ∧ pn.length ≤ 1)) (pre3 : rowShort p_r) : Cal Tryz.prog 38 #[.agg #[.string (bs (p_t.Name)), .slice A1 p_t.Cols.length c1, .slice A2 p_t.Idxs.length c2], .string (bs (pn)), .agg #[.slice A5 p_r.Vals.length c5]] w fun v w' => v = .string (bs ((i_Table_idxKey p_t pn p_r))) ∧ okS (i_Table_idxKey p_t pn p_r) ∧ Ex w w' := by
 have hol7 : p_t.Name.length ≤ 1073741824 := o3.1
 have hol8 := o3.2.1.1
 have hol9 := o3.2.2.1
 have hol10 : pn.length ≤ 1073741824 := o4
 have hol11 := o6.1
 refine Cal.of func38 rfl ntmps38 rfl (cR (sd rfl (yl_box rfl rfl rfl ?_)))
 intro b12 w13 hs14 hz15 hB16 hE17
 refine sd rfl (yl_box rfl rfl rfl ?_)
 intro b18 w19 hs20 hz21 hB22 hE23
 refine sA rfl (dn (CW.seq ?_))
 have q24 := Box.ex hB16 hE23
 have q26 := RdS.ex gS (RdS.ex gS h1 hE17) hE23
 have q28 := RdS.ex gI (RdS.ex gI h2 hE17) hE23
 have q33 := RdS.ex gS (RdS.ex gS h5 hE17) hE23
 obtain ⟨eb34, eo34, _, eA34, _, ebl34, _, eR34, eC34⟩ := RdS.atD q33 d_Str (i := ((i_Table_idx p_t pn).Col).toNat) Bo
 obtain rfl := eR34
 have eC34 : Cells w19 eb34 (eo34 + (((i_Table_idx p_t pn).Col).toNat) * 1) [.string (bs ((p_r.Vals.getD (((i_Table_idx p_t pn).Col).toNat) d_Str)))] := eC34
 have hol35 : (p_r.Vals.getD (((i_Table_idx p_t pn).Col).toNat) d_Str).length ≤ 1073741824 := (okL.getD o6 ok_d_Str _)
 have hol36 : (p_r.Vals.getD (((i_Table_idx p_t pn).Col).toNat) d_Str).length ≤ 1073741824 := (okL.getD o6 ok_d_Str _)
 obtain ⟨eb37, eo37, _, eA37, _, ebl37, _, eR37, eC37⟩ := RdS.aD q33 d_Str (i := 0)
 obtain rfl := eR37
 have eC37 : Cells w19 eb37 (eo37 + 0 * 1) [.string (bs ((p_r.Vals.getD 0 d_Str)))] := eC37
 have hol38 : (p_r.Vals.getD (((i_Table_idx p_t pn).Col).toNat) d_Str).length ≤ 1073741824 := (okL.getD o6 ok_d_Str _)
 have hol39 : (p_r.Vals.getD 0 d_Str).length ≤ 1073741824 := (okL.getD o6 ok_d_Str _)
 have hrf40 := rf_idxHead p_t pn
 refine CW.drawsI 19 (vgetI [DetI (.agg #[.string (bs (p_t.Name)), .slice A1 p_t.Cols.length c1, .slice A2 p_t.Idxs.length c2]), DetI (.string (bs (pn))), DetI (.string (bs ((i_Table_idxHead p_t pn)))), DetI (.pointer (some ⟨b18, 0 + 0, none⟩)), DetI (.slice A5 p_r.Vals.length c5), DetI (.agg #[.string (bs (p_t.Name)), .slice A1 p_t.Cols.length c1, .slice A2 p_t.Idxs.length c2]), DetI (.string (bs (pn))), fun lo hi v wq => v = .agg #[.string (bs ((i_Table_idx p_t pn).Name)), .int .i64 ((i_Table_idx p_t pn).Col), .int .i64 ((i_Table_idx p_t pn).Stage)] ∧ ok_Idx (i_Table_idx p_t pn), DetI (.int .i64 ((i_Table_idx p_t pn).Col)), DetI (.pointer (some ⟨eb34, eo34 + (((i_Table_idx p_t pn).Col).toNat) * 1, none⟩)), DetI (.string (bs ((p_r.Vals.getD (((i_Table_idx p_t pn).Col).toNat) d_Str)))), DetI (.string (bs (Y0_11 p_t pn p_r))), DetI (.string (bs ((Y0_11 p_t pn p_r) ++ ([47] : Str)))), DetI (.pointer (some ⟨b18, 0 + 0, none⟩)), DetI (.slice A5 p_r.Vals.length c5), DetI (.pointer (some ⟨eb37, eo37 + 0 * 1, none⟩)), DetI (.string (bs ((p_r.Vals.getD 0 d_Str)))), DetI (.string (bs (((Y0_11 p_t pn p_r) ++ ([47] : Str)) ++ (p_r.Vals.getD 0 d_Str)))), DetI (.string (bs (((Y0_11 p_t pn p_r) ++ ([47] : Str)) ++ (p_r.Vals.getD 0 d_Str))))]) Tryz.follows rfl rfl rfl rfl rfl rfl (vgetI_stable ⟨StableI.det _, StableI.det _, StableI.det _, StableI.det _, StableI.det _, StableI.det _, StableI.det _, (fun _ _ _ _ _ ⟨hv, ho31⟩ e => ⟨hv, ho31⟩), StableI.det _, StableI.det _, StableI.det _, StableI.det _, StableI.det _, StableI.det _, StableI.det _, StableI.det _, StableI.det _, StableI.det _, StableI.det _, trivial⟩) ⟨?_, ?_, ?_, ?_, ?_, ?_, ?_, ?_, ?_, ?_, ?_, ?_, ?_, ?_, ?_, ?_, ?_, ?_, ?_, trivial⟩ ?_
 ·exact oI rfl fun h => yl_loadN ty26 rfl (h.old 3 _ rfl rfl) ((Box.ex q24 h.ex).cells (n := 3) rfl) rfl kI
 ·exact oI rfl fun h => yM rfl (h.old 1 _ rfl rfl) kI
 ·intro L52 w53 hi54
  have hE55 := hi54.ex
  exact OpR.op' rfl (yC en71 rfl (oc (hi54.dt 0 7 rfl rfl rfl) (oc (hi54.dt 1 8 rfl rfl rfl) oz)) (Cal.mono (c_i_Table_idxHead p_t pn (RdS.up (RdS.ex gS q26 hE55) gS) (RdS.up (RdS.ex gI q28 hE55) gI) o3 o4) fun _ _ h => h))
 ·exact oI rfl fun h => yl_fieldAddr fd28_0 rfl (h.old 5 _ rfl rfl) kI
 ·exact oI rfl fun h => yl_load1 ty23 rfl (h.dt 3 10 rfl rfl rfl) (((Box.ex hB22 h.ex).cell 0).trans rfl) kI
 ·exact oI rfl fun h => yl_loadN ty26 rfl (h.old 3 _ rfl rfl) ((Box.ex q24 h.ex).cells (n := 3) rfl) rfl kI
 ·exact oI rfl fun h => yM rfl (h.old 1 _ rfl rfl) kI
 ·intro L85 w86 hi87
  have hE88 := hi87.ex
  have hE88z := Ex.size hE88
  refine OpR.op' rfl (yC en72 rfl (oc (hi87.dt 5 12 rfl rfl rfl) (oc (hi87.dt 6 13 rfl rfl rfl) oz)) (Cal.mono (c_i_Table_idx p_t pn (RdS.up (RdS.ex gS q26 hE88) gS) (RdS.up (RdS.ex gI q28 hE88) gI) o3 o4 Bo) ?_))
  rintro v95 w93 ⟨rfl, ho94, hE96⟩
  exact ⟨⟨rfl, ho94⟩, hE96⟩
 ·intro L97 w98 hi99
  obtain ⟨lo102, hh103, _, hx101, hr104, hr105, hr106, rfl, h107⟩ := hi99.dep 7 14 rfl rfl
  exact os rfl ((yl_field1 fd54_1 rfl hx101 rfl kI))
 ·intro L108 w109 hi110
  have hE111 := hi110.ex
  have hE111z := Ex.size hE111
  exact os rfl ((yl_indexAddr un23 ty9 rfl (hi110.dt 4 11 rfl rfl rfl) (hi110.dt 8 15 rfl rfl rfl) eA34 Bo Bo kI))
 ·exact oI rfl fun h => yl_load1 ty9 rfl (h.dt 9 16 rfl rfl rfl) ((Cells.ex eC34 h.ex) 0 _ rfl) kI
 ·intro L120 w121 hi122
  have hE123 := hi122.ex
  have hE123z := Ex.size hE123
  have hol126 : (p_r.Vals.getD (((i_Table_idx p_t pn).Col).toNat) d_Str).length ≤ 1073741824 := (okL.getD o6 ok_d_Str _)
  exact os rfl ((yl_sadd (a := (i_Table_idxHead p_t pn)) (b := (p_r.Vals.getD (((i_Table_idx p_t pn).Col).toNat) d_Str)) rfl (hi122.dt 2 9 rfl rfl rfl) (hi122.dt 10 17 rfl rfl rfl) Bl kI))
 ·intro L127 w128 hi129
  have hE130 := hi129.ex
  have hE130z := Ex.size hE130
  have hol132 : (p_r.Vals.getD (((i_Table_idx p_t pn).Col).toNat) d_Str).length ≤ 1073741824 := (okL.getD o6 ok_d_Str _)
  exact os rfl ((yl_sadd (a := (Y0_11 p_t pn p_r)) (b := ([47] : Str)) rfl (hi129.dt 11 18 rfl rfl rfl) rfl Bl kI))
 ·exact oI rfl fun h => yl_fieldAddr fd28_0 rfl (h.old 5 _ rfl rfl) kI
 ·exact oI rfl fun h => yl_load1 ty23 rfl (h.dt 13 20 rfl rfl rfl) (((Box.ex hB22 h.ex).cell 0).trans rfl) kI
 ·intro L144 w145 hi146
  have hE147 := hi146.ex
  have hE147z := Ex.size hE147
  exact os rfl ((yl_ixN un23 ty9 rfl (hi146.dt 14 21 rfl rfl rfl) rfl eA37 kI))
 ·exact oI rfl fun h => yl_load1 ty9 rfl (h.dt 15 22 rfl rfl rfl) ((Cells.ex eC37 h.ex) 0 _ rfl) kI
 ·intro L155 w156 hi157
  have hE158 := hi157.ex
  have hE158z := Ex.size hE158
  have hol161 : (p_r.Vals.getD (((i_Table_idx p_t pn).Col).toNat) d_Str).length ≤ 1073741824 := (okL.getD o6 ok_d_Str _)
  have hol162 : (p_r.Vals.getD 0 d_Str).length ≤ 1073741824 := (okL.getD o6 ok_d_Str _)
  exact os rfl ((yl_sadd (a := ((Y0_11 p_t pn p_r) ++ ([47] : Str))) (b := (p_r.Vals.getD 0 d_Str)) rfl (hi157.dt 12 19 rfl rfl rfl) (hi157.dt 16 23 rfl rfl rfl) Bl kI))
 ·exact oI rfl fun h => yA rfl (h.dt 17 24 rfl rfl rfl) kI
 ·intro fl171 fh172 L168 w169 hp170
  have hE173 := hp170.ex
  have hE173z := Ex.size hE173
  refine dn (CW.sub (sC 6 (hp170.nt 18 6 rfl rfl rfl) (Sub.nil _)) (CW.ret (rr rfl (.cons rfl .nil) ?_)))
  have hM175 : (i_Table_idxKey p_t pn p_r) = (((Y0_11 p_t pn p_r) ++ ([47] : Str)) ++ (p_r.Vals.getD 0 d_Str)) := by simp only [i_Table_idxKey, cL]
  rw [hM175]
  exact ⟨rfl, (okS_idxKey pre2 pre3), (Ex.trans (Ex.trans (Ex.trans (Ex.refl w) hE17) hE23) hE173)⟩
theorem c_i_Table_fillOps {A1 : Option Addr} {c1 : Nat} {A2 : Option Addr} {c2 : Nat} {A5 : Option Addr} {c5 : Nat} {w : World} (p_t : DTable) (pn : Str) (p_r : DRow) (h1 : RdS w (Iv 0 w.heap.size) (RF e_Str) 1 A1 p_t.Cols.length c1 p_t.Cols) (h2 : RdS w (Iv 0 w.heap.size) (RF e_Idx) 3 A2 p_t.Idxs.length c2 p_t.Idxs) (h5 : RdS w (Iv 0 w.heap.size) (RF e_Str) 1 A5 p_r.Vals.length c5 p_r.Vals) (o3 : ok_Table p_t) (o4 : okS pn) (o6 : ok_Row p_r) (pre0 : (0 ≤ i_Table_findIdx p_t pn ∧ i_Table_findIdx p_t pn < (p_t.Idxs.length : Int))) (pre1 : (0 ≤ (i_Table_idx p_t pn).Col ∧ (i_Table_idx p_t pn).Col < (p_r.Vals.length : Int))) (pre2 : (p_t.Name.length ≤ 1 ∧ pn.length ≤ 1)) (pre3 : rowShort p_r) (pre4 : 0 < p_r.Vals.length) (pre5 : p_r.Vals.length ≤ 4) : Cal Tryz.prog 17 #[.agg #[.string (bs (p_t.Name)), .slice A1 p_t.Cols.length c1, .slice A2 p_t.Idxs.length c2], .string (bs (pn)), .agg #[.slice A5 p_r.Vals.length c5]] w fun v w' => ∃ A_1 c_1 lo_1 hi_1, v = .slice A_1 ((i_Table_fillOps p_t pn p_r).length) c_1 ∧ OwnL w' lo_1 hi_1 61 4 (RF e_Op) A_1 ((i_Table_fillOps p_t pn p_r).length) c_1 (i_Table_fillOps p_t pn p_r) ∧ (w.heap.size ≤ lo_1 ∧ lo_1 ≤ hi_1 ∧ hi_1 ≤ w'.heap.size) ∧ Ex w w' := by
 have hol7 : p_t.Name.length ≤ 1073741824 := o3.1
 have hol8 := o3.2.1.1
 have hol9 := o3.2.2.1
 have hol10 : pn.length ≤ 1073741824 := o4
 have hol11 := o6.1
 refine Cal.of func17 rfl ntmps17 rfl (cR (sd rfl (yl_box rfl rfl rfl ?_)))
 intro b12 w13 hs14 hz15 hB16 hE17
 refine sd rfl (yl_box rfl rfl rfl ?_)
 intro b18 w19 hs20 hz21 hB22 hE23
 refine sA rfl (dn (cR ?_))
 have q24 := Box.ex hB16 hE23
 refine sd rfl (yl_loadN ty26 rfl rfl (q24.cells (n := 3) rfl) rfl (sd rfl (yl_loadN ty28 rfl rfl (hB22.cells (n := 1) rfl) rfl ?_)))
 have q26 := RdS.ex gS (RdS.ex gS h1 hE17) hE23
 have q28 := RdS.ex gI (RdS.ex gI h2 hE17) hE23
 have q30 := RdS.ex gS (RdS.ex gS h5 hE17) hE23
 refine sd rfl (yC en37 rfl (oc rfl (oc rfl oz)) (Cal.mono (c_i_Table_rowWrite p_t p_r (RdS.up q26 gS) (RdS.up q28 gI) (RdS.up q30 gS) o3 o6 Bo Bo Bo) ?_))
 rintro v32 w31 ⟨rfl, hE33⟩
 have hE33z := Ex.size hE33
 refine sd rfl (yB ty39 (cs := [.string (bs (([] : Str))), .string (bs (([] : Str))), .bool (false)]) rfl rfl ?_)
 intro b34 w35 hs36 hz37 hB38 hE39
 refine SeqR.u rfl rfl (yl_store (vs := [.string (bs ((i_Table_rowWrite p_t p_r).Key)), .string (bs ((i_Table_rowWrite p_t p_r).Val)), .bool ((i_Table_rowWrite p_t p_r).Gone)]) ty39 rfl rfl rfl rfl rfl rfl hB38 (nb rfl) ?_)
 intro w40 hB41 hO42
 have hB41 : Box w40 b34 39 [.string (bs ((i_Table_rowWrite p_t p_r).Key)), .string (bs ((i_Table_rowWrite p_t p_r).Val)), .bool ((i_Table_rowWrite p_t p_r).Gone)] := hB41
 have hO42z := hO42.size
 refine dn (CW.seq (CW.drawsI 10 (vgetI [DetI (.pointer (some ⟨b34, 0 + 0, none⟩)), DetI (.string (bs ((i_Table_rowWrite p_t p_r).Key))), DetI (.pointer (some ⟨b34, 0 + 1, none⟩)), DetI (.string (bs ((i_Table_rowWrite p_t p_r).Val))), DetI (.agg #[.int .i64 (7), .string (bs ((i_Table_rowWrite p_t p_r).Key)), .string (bs ((i_Table_rowWrite p_t p_r).Val)), .int .i64 (0)]), DetI (.agg #[.string (bs (p_t.Name)), .slice A1 p_t.Cols.length c1, .slice A2 p_t.Idxs.length c2]), DetI (.string (bs (pn))), DetI (.agg #[.slice A5 p_r.Vals.length c5]), fun lo hi v wq => v = .string (bs ((i_Table_idxKey p_t pn p_r))) ∧ okS (i_Table_idxKey p_t pn p_r), DetI (.agg #[.int .i64 (2), .string (bs ((i_Table_idxKey p_t pn p_r))), .string (bs (([] : Str))), .int .i64 (0)])]) Tryz.follows rfl rfl rfl rfl rfl rfl (vgetI_stable ⟨StableI.det _, StableI.det _, StableI.det _, StableI.det _, StableI.det _, StableI.det _, StableI.det _, StableI.det _, (fun _ _ _ _ _ ⟨hv, ho59⟩ e => ⟨hv, ho59⟩), StableI.det _, trivial⟩) ⟨?_, ?_, ?_, ?_, ?_, ?_, ?_, ?_, ?_, ?_, trivial⟩ ?_))
 ·exact oI rfl fun h => yl_fieldAddr fd39_0 rfl (h.old 7 _ rfl rfl) kI
 ·exact oI rfl fun h => yl_load1 ty9 rfl (h.dt 0 11 rfl rfl rfl) (((Box.ex hB41 h.ex).cell 0).trans rfl) kI
 ·exact oI rfl fun h => yl_fieldAddr fd39_1 rfl (h.old 7 _ rfl rfl) kI
 ·exact oI rfl fun h => yl_load1 ty9 rfl (h.dt 2 13 rfl rfl rfl) (((Box.ex hB41 h.ex).cell 1).trans rfl) kI
 ·exact oI rfl fun h => yl_build (cs := [.int .i64 (7), .string (bs ((i_Table_rowWrite p_t p_r).Key)), .string (bs ((i_Table_rowWrite p_t p_r).Val)), .int .i64 (0)]) rfl (oc rfl (oc (h.dt 1 12 rfl rfl rfl) (oc (h.dt 3 14 rfl rfl rfl) oz))) (by kernel_rfl) kI
 ·intro L88 w89 hi90
  have hE91 := hi90.ex
  have hE91z := Ex.size hE91
  exact os rfl ((yl_loadN ty26 rfl (hi90.old 3 _ rfl rfl) ((Box.ex (Box.only (Box.ex (Box.ex q24 hE33) hE39) hO42 oM) hE91).cells (n := 3) rfl) rfl kI))
 ·exact oI rfl fun h => yM rfl (h.old 1 _ rfl rfl) kI
 ·intro L99 w100 hi101
  have hE102 := hi101.ex
  have hE102z := Ex.size hE102
  exact os rfl ((yl_loadN ty28 rfl (hi101.old 5 _ rfl rfl) ((Box.ex (Box.only (Box.ex (Box.ex hB22 hE33) hE39) hO42 oM) hE102).cells (n := 1) rfl) rfl kI))
 ·intro L105 w106 hi107
  have hE108 := hi107.ex
  have hE108z := Ex.size hE108
  refine OpR.op' rfl (yC en38 rfl (oc (hi107.dt 5 16 rfl rfl rfl) (oc (hi107.dt 6 17 rfl rfl rfl) (oc (hi107.dt 7 18 rfl rfl rfl) oz))) (Cal.mono (c_i_Table_idxKey p_t pn p_r (RdS.up (RdS.ex gS (RdS.only gS (RdS.ex gS (RdS.ex gS q26 hE33) hE39) hO42 (by simp only [Iv]; omega)) hE108) gS) (RdS.up (RdS.ex gI (RdS.only gI (RdS.ex gI (RdS.ex gI q28 hE33) hE39) hO42 (by simp only [Iv]; omega)) hE108) gI) (RdS.up (RdS.ex gS (RdS.only gS (RdS.ex gS (RdS.ex gS q30 hE33) hE39) hO42 (by simp only [Iv]; omega)) hE108) gS) o3 o4 o6 Bo Bo Bo Bo) ?_))
  rintro v117 w115 ⟨rfl, ho116, hE118⟩
  exact ⟨⟨rfl, ho116⟩, hE118⟩
 ·intro L119 w120 hi121
  obtain ⟨lo124, hh125, _, hx123, hr126, hr127, hr128, rfl, h129⟩ := hi121.dep 8 19 rfl rfl
  exact os rfl ((yl_build (cs := [.int .i64 (2), .string (bs ((i_Table_idxKey p_t pn p_r))), .string (bs (([] : Str))), .int .i64 (0)]) rfl (oc rfl (oc hx123 oz)) (by kernel_rfl) kI))
 ·intro fl133 fh134 L130 w131 hp132
  have hE135 := hp132.ex
  have hE135z := Ex.size hE135
  refine sd rfl (yl_buildSlice (cs := [.int .i64 (7), .string (bs ((i_Table_rowWrite p_t p_r).Key)), .string (bs ((i_Table_rowWrite p_t p_r).Val)), .int .i64 (0), .int .i64 (2), .string (bs ((i_Table_idxKey p_t pn p_r))), .string (bs (([] : Str))), .int .i64 (0)]) un31 ty61 (by decide) rfl (oc (hp132.nt 4 15 rfl rfl rfl) (oc (hp132.nt 9 20 rfl rfl rfl) oz)) (by kernel_rfl) ?_)
  intro b138 w139 hs140 hz141 hB142 hE143
  have hO144 : OwnL w139 b138 (b138 + 1) 61 4 (RF e_Op) (some ⟨b138, 0, none⟩) 2 2 ([(⟨7, (i_Table_rowWrite p_t p_r).Key, (i_Table_rowWrite p_t p_r).Val, 0⟩ : DOp), (⟨2, (i_Table_idxKey p_t pn p_r), ([] : Str), 0⟩ : DOp)] : List DOp) := OwnL.of_box (S := fun _ => False) hB142 (Nat.le_refl _) (Nat.lt_succ_self _) (EncL.cons (c := [.int .i64 (7), .string (bs ((i_Table_rowWrite p_t p_r).Key)), .string (bs ((i_Table_rowWrite p_t p_r).Val)), .int .i64 (0)]) rfl rfl (EncL.cons (c := [.int .i64 (2), .string (bs ((i_Table_idxKey p_t pn p_r))), .string (bs (([] : Str))), .int .i64 (0)]) rfl rfl EncL.nil)) (nb rfl) (fun h => h) (fun _ h => False.elim h)
  refine sA rfl (dn (CW.sub (sC 6 rfl (Sub.nil _)) (CW.ret (rr rfl (.cons rfl .nil) ?_))))
  have hM145 : (i_Table_fillOps p_t pn p_r) = (([(⟨7, (i_Table_rowWrite p_t p_r).Key, (i_Table_rowWrite p_t p_r).Val, 0⟩ : DOp), (⟨2, (i_Table_idxKey p_t pn p_r), ([] : Str), 0⟩ : DOp)] : List DOp)) := by simp only [i_Table_fillOps, cL]
  have hfx146 := (hO144).1
  rw [hM145]
  exact ⟨(some ⟨b138, 0, none⟩), 2, b138, (b138 + 1), (by first | rfl | (simp only [List.length_replicate, List.length_set]; done) | (simp only [List.length_replicate, List.length_set]; rfl) | rw [hfx146]), (OwnL.fix hO144), oM, (Ex.trans (Ex.trans (Below.only (Ex.trans (Ex.trans (Ex.trans (Ex.trans (Ex.refl w) hE17) hE23) hE33) hE39) hO42 oM) hE135) hE143)⟩
theorem c_i_FillOps {A1 : Option Addr} {c1 : Nat} {A2 : Option Addr} {c2 : Nat} {A5 : Option Addr} {c5 : Nat} {w : World} (p_t : DTable) (pn : Str) (p_r : DRow) (h1 : RdS w (Iv 0 w.heap.size) (RF e_Str) 1 A1 p_t.Cols.length c1 p_t.Cols) (h2 : RdS w (Iv 0 w.heap.size) (RF e_Idx) 3 A2 p_t.Idxs.length c2 p_t.Idxs) (h5 : RdS w (Iv 0 w.heap.size) (RF e_Str) 1 A5 p_r.Vals.length c5 p_r.Vals) (o3 : ok_Table p_t) (o4 : okS pn) (o6 : ok_Row p_r) : Cal Tryz.prog 5 #[.agg #[.string (bs (p_t.Name)), .slice A1 p_t.Cols.length c1, .slice A2 p_t.Idxs.length c2], .string (bs (pn)), .agg #[.slice A5 p_r.Vals.length c5]] w fun v w' => ∃ A_1 c_1 lo_1 hi_1, v = .tuple #[.slice A_1 (((i_FillOps p_t pn p_r).1).length) c_1, .bool ((i_FillOps p_t pn p_r).2)] ∧ OwnL w' lo_1 hi_1 61 4 (RF e_Op) A_1 (((i_FillOps p_t pn p_r).1).length) c_1 ((i_FillOps p_t pn p_r).1) ∧ (w.heap.size ≤ lo_1 ∧ lo_1 ≤ hi_1 ∧ hi_1 ≤ w'.heap.size) ∧ Ex w w' := by
 have hol7 : p_t.Name.length ≤ 1073741824 := o3.1
 have hol8 := o3.2.1.1
 have hol9 := o3.2.2.1
 have hol10 : pn.length ≤ 1073741824 := o4
 have hol11 := o6.1
 refine Cal.of func5 rfl ntmps5 rfl (cR (sd rfl (yl_box rfl rfl rfl ?_)))
 intro b12 w13 hs14 hz15 hB16 hE17
 refine sd rfl (yl_box rfl rfl rfl ?_)
 intro b18 w19 hs20 hz21 hB22 hE23
 refine sA rfl (sA rfl (dn (CW.seq (cR ?_))))
 have q24 := Box.ex hB16 hE23
 refine sd rfl (yl_loadN ty26 rfl rfl (q24.cells (n := 3) rfl) rfl (sd rfl (yl_loadN ty28 rfl rfl (hB22.cells (n := 1) rfl) rfl ?_)))
 have q26 := RdS.ex gS (RdS.ex gS h1 hE17) hE23
 have q28 := RdS.ex gI (RdS.ex gI h2 hE17) hE23
 have q30 := RdS.ex gS (RdS.ex gS h5 hE17) hE23
 refine sd rfl (yC en15 rfl (oc rfl (oc rfl oz)) (Cal.mono (c_i_GoodRow p_t p_r (RdS.up q26 gS) (RdS.up q28 gI) (RdS.up q30 gS) o3 o6) ?_))
 rintro v32 w31 ⟨rfl, hE33⟩
 have hE33z := Ex.size hE33
 refine sd rfl (yl_not rfl rfl (sM rfl (bcase (i_GoodRow p_t p_r) (fun hb34 => ?_) (fun hb34 => ?_))))
 ·obtain ⟨hb34p0, hb34p1, hb34p2⟩ := f_i_GoodRow hb34
  have q35 := Box.ex q24 hE33
  refine sy rfl rfl (not_t hb34) (yl_loadN ty26 rfl rfl (q35.cells (n := 3) rfl) rfl (sy rfl rfl (not_t hb34) (yM rfl rfl ?_)))
  have q36 := RdS.ex gS q26 hE33
  have q37 := RdS.ex gI q28 hE33
  refine sy rfl rfl (not_t hb34) (yC en16 rfl (oc rfl (oc rfl oz)) (Cal.mono (c_i_hasIdx p_t pn (RdS.up q36 gS) (RdS.up q37 gI) o3 o4) ?_))
  rintro v39 w38 ⟨rfl, hE40⟩
  have hE40z := Ex.size hE40
  refine sy rfl rfl (not_t hb34) (yl_not rfl rfl (sd rfl (yl_pick_f rfl rfl (not_t hb34) rfl (dn (bcase (i_hasIdx p_t pn) (fun hb41 => ?_) (fun hb41 => ?_))))))
  ·obtain ⟨hb41p0, hb41p1, hb41p2⟩ := f_i_hasIdx hb41
   refine CW.cond_f rfl (not_t hb41) (CW.skip (tn (cR (sd rfl (yl_loadN ty26 rfl rfl ((Box.ex q35 hE40).cells (n := 3) rfl) rfl (sM rfl (sd rfl (yl_loadN ty28 rfl rfl ((Box.ex (Box.ex hB22 hE33) hE40).cells (n := 1) rfl) rfl (sd rfl (yC en17 rfl (oc rfl (oc rfl (oc rfl oz))) (Cal.mono (c_i_Table_fillOps p_t pn p_r (RdS.up (RdS.ex gS q36 hE40) gS) (RdS.up (RdS.ex gI q37 hE40) gI) (RdS.up (RdS.ex gS (RdS.ex gS q30 hE33) hE40) gS) o3 o4 o6 Bo Bo Bo Bo Bo Bo) ?_)))))))))))
   rintro v51 w49 ⟨A50, c50, lo50, hi50, rfl, h50, hrn53, hE52⟩
   have hE52z := Ex.size hE52
   refine sA rfl (sA rfl (dn (CW.ret (rr rfl (.cons rfl (.cons rfl .nil)) ?_))))
   have hM54 : (i_FillOps p_t pn p_r) = (((i_Table_fillOps p_t pn p_r), true)) := by simp only [i_FillOps, hb34, hb41, cL]
   rw [hM54]
   exact ⟨A50, c50, lo50, hi50, rfl, h50, oM, (Ex.trans (Ex.trans (Ex.trans (Ex.trans (Ex.trans (Ex.refl w) hE17) hE23) hE33) hE40) hE52)⟩
  ·refine CW.cond_t rfl (not_f hb41) (cR (sA rfl (sA rfl (dn (CW.ret (tr ?_))))))
   refine rr rfl (.cons rfl (.cons rfl .nil)) ?_
   have hM60 : (i_FillOps p_t pn p_r) = ((([] : List DOp), false)) := by simp only [i_FillOps, hb34, hb41, cL]
   rw [hM60]
   exact ⟨none, 0, w38.heap.size, w38.heap.size, rfl, (OwnL.nil _ _ _ _ _ _), oM, (Ex.trans (Ex.trans (Ex.trans (Ex.trans (Ex.refl w) hE17) hE23) hE33) hE40)⟩
 ·refine sz rfl rfl (not_f hb34) (sz rfl rfl (not_f hb34) (sz rfl rfl (not_f hb34) (sz rfl rfl (not_f hb34) (sd rfl (yl_pick_t rfl rfl (not_f hb34) rfl (dn (CW.cond_t rfl rfl (CW.seq ?_))))))))
  refine CW.region (sA rfl (sA rfl (dn (CW.ret (tr (rr rfl (.cons rfl (.cons rfl .nil)) ?_))))))
  have hM65 : (i_FillOps p_t pn p_r) = ((([] : List DOp), false)) := by simp only [i_FillOps, hb34, cL]
  rw [hM65]
  exact ⟨none, 0, w31.heap.size, w31.heap.size, rfl, (OwnL.nil _ _ _ _ _ _), oM, (Ex.trans (Ex.trans (Ex.trans (Ex.refl w) hE17) hE23) hE33)⟩
theorem c_s_l24Idx {A1 : Option Addr} {c1 : Nat} {A2 : Option Addr} {c2 : Nat} {w : World} (p_t : DTable) (pn : Str) (h1 : RdS w (Iv 0 w.heap.size) (RF e_Str) 1 A1 p_t.Cols.length c1 p_t.Cols) (h2 : RdS w (Iv 0 w.heap.size) (RF e_Idx) 3 A2 p_t.Idxs.length c2 p_t.Idxs) (o3 : ok_Table p_t) (o4 : okS pn) : Cal Tryz.prog 39 #[.agg #[.string (bs (p_t.Name)), .slice A1 p_t.Cols.length c1, .slice A2 p_t.Idxs.length c2], .string (bs (pn))] w fun v w' => v = .int .i64 ((s_l24Idx p_t pn)) ∧ Ex w w' := by
 have hol5 : p_t.Name.length ≤ 1073741824 := o3.1
 have hol6 := o3.2.1.1
 have hol7 := o3.2.2.1
 have hol8 : pn.length ≤ 1073741824 := o4
 refine Cal.of func39 rfl ntmps39 rfl (cR (sd rfl (yl_box rfl rfl rfl ?_)))
 intro b9 w10 hs11 hz12 hB13 hE14
 refine sA rfl (dn (CW.seq (cR (sd rfl (yl_fieldAddr fd26_2 rfl rfl (sd rfl (yl_load1 ty24 rfl rfl ((hB13.cell 2).trans rfl) (sd rfl (yL un24 rfl rfl ?_)))))))))
 refine sM rfl (dn (CW.block (CW.loop (fun m27 L28 w29 => ∃ (k15 : Nat), m27 = p_t.Idxs.length - k15 ∧ k15 ≤ p_t.Idxs.length ∧ w10.heap.size ≤ w29.heap.size ∧ lkp L28 1 = some (.string (bs (pn))) ∧ lkp L28 8 = some (.slice A2 p_t.Idxs.length c2) ∧ lkp L28 9 = some (.int .i64 ((p_t.Idxs.length : Int))) ∧ lkp L28 10 = some (.int .i64 ((k15 : Int))) ∧ RdS w29 (Iv 0 w.heap.size) (RF e_Idx) 3 A2 p_t.Idxs.length c2 p_t.Idxs ∧ Ex w w29 ∧ loopM (B_s_l24Idx_0 p_t pn) (p_t.Idxs.length - k15) k15 () = loopM (B_s_l24Idx_0 p_t pn) (p_t.Idxs.length - 0) 0 ()) (p_t.Idxs.length - 0) ?_ ?_)))
 ·exact ⟨0, rfl, oM, Nat.le_refl _, rfl, rfl, rfl, rfl, (RdS.ex gI h2 hE14), (Ex.trans (Ex.refl w) hE14), rfl⟩
 ·rintro m32 L33 w34 ⟨k15, rfl, hk35, hsz37, hl38, hl39, hl40, hl41, hf42, hf43, hI36⟩
  refine CW.sub (Sub.cons hl38 (Sub.cons hl39 (Sub.cons hl40 (Sub.cons hl41 (Sub.nil _))))) ?_
  have hf43z := Ex.size hf43
  have hbg44 := RdS.big hf42
  rcases Nat.lt_or_ge k15 p_t.Idxs.length with hlt45 | hlt45
  ·refine cR (sd rfl (yl_lss rfl rfl rfl (dn (CW.seq (CW.cond_t rfl (lt_t hlt45) (CW.skip (tn ?_)))))))
   refine CW.seq (CW.block (cR (sM rfl ?_)))
   obtain ⟨eb46, eo46, _, eA46, _, ebl46, _, eR46, eC46⟩ := RdS.aD hf42 d_Idx (i := k15)
   obtain rfl := eR46
   have eC46 : Cells w34 eb46 (eo46 + k15 * 3) [.string (bs ((p_t.Idxs.getD k15 d_Idx).Name)), .int .i64 ((p_t.Idxs.getD k15 d_Idx).Col), .int .i64 ((p_t.Idxs.getD k15 d_Idx).Stage)] := eC46
   refine sd rfl (yl_ixN un24 ty54 rfl rfl rfl eA46 (sd rfl (yl_loadN ty54 rfl rfl eC46 rfl (sd rfl (yB ty54 (cs := [.string (bs (([] : Str))), .int .i64 (0), .int .i64 (0)]) rfl rfl ?_)))))
   intro b47 w48 hs49 hz50 hB51 hE52
   refine sA rfl (SeqR.u rfl rfl (yl_store (vs := [.string (bs ((p_t.Idxs.getD k15 d_Idx).Name)), .int .i64 ((p_t.Idxs.getD k15 d_Idx).Col), .int .i64 ((p_t.Idxs.getD k15 d_Idx).Stage)]) ty54 rfl rfl rfl rfl rfl rfl hB51 (nb rfl) ?_))
   intro w53 hB54 hO55
   have hB54 : Box w53 b47 54 [.string (bs ((p_t.Idxs.getD k15 d_Idx).Name)), .int .i64 ((p_t.Idxs.getD k15 d_Idx).Col), .int .i64 ((p_t.Idxs.getD k15 d_Idx).Stage)] := hB54
   have hO55z := hO55.size
   refine dn (cR (sd rfl (yl_fieldAddr fd54_0 rfl rfl (sd rfl (yl_load1 ty9 rfl rfl ((hB54.cell 0).trans rfl) (sM rfl (sd rfl (yl_seql (a := ((p_t.Idxs.getD k15 d_Idx).Name)) (b := pn) rfl rfl rfl (SeqR.done ?_)))))))))
   refine tn (bcase (((p_t.Idxs.getD k15 d_Idx).Name) == pn) (fun hb56 => ?_) (fun hb56 => ?_))
   ·refine CW.cond_t rfl hb56 (cR (sM rfl (sA rfl (dn (CW.ret (br ?_))))))
    refine tr (tr ?_)
    have hB58 : B_s_l24Idx_0 p_t pn k15 () = .ret (k15 : Int) := by simp only [B_s_l24Idx_0, hb56, cL]
    have hL57 : loopM (B_s_l24Idx_0 p_t pn) (p_t.Idxs.length - 0) 0 () = .ret (k15 : Int) := hI36.symm.trans (loopM.ret hlt45 hB58)
    refine br (tr (rr rfl (.cons rfl .nil) ?_))
    have hM59 : (s_l24Idx p_t pn) = ((k15 : Int)) := by simp only [s_l24Idx, hb56, hL57, cL]
    rw [hM59]
    exact ⟨rfl, (Below.only (Ex.trans hf43 hE52) hO55 oM)⟩
   ·refine CW.cond_f rfl hb56 (CW.skip (bn (tn (CW.region (sd rfl (yl_inc rfl rfl rfl oM (sM rfl (dn ?_))))))))
    have hB62 : B_s_l24Idx_0 p_t pn k15 () = .cont () := by simp only [B_s_l24Idx_0, hb56, cL]
    exact ⟨p_t.Idxs.length - (k15 + 1), oM, k15 + 1, rfl, hlt45, oM, rfl, rfl, rfl, rfl, (RdS.only gI (RdS.ex gI hf42 hE52) hO55 (by simp only [Iv]; omega)), (Below.only (Ex.trans hf43 hE52) hO55 oM), (loopM.cont hlt45 hB62).symm.trans hI36⟩
  ·refine cR (sd rfl (yl_lss rfl rfl rfl (dn (CW.seq (CW.cond_f rfl (lt_f hlt45) (CW.exit (tx ?_)))))))
   refine tx ?_
   have hL67 : loopM (B_s_l24Idx_0 p_t pn) (p_t.Idxs.length - 0) 0 () = .done () := hI36.symm.trans (loopM.stop hlt45)
   refine bx (tn (cR (sA rfl (dn (CW.ret (rr rfl (.cons rfl .nil) ?_))))))
   have hM68 : (s_l24Idx p_t pn) = (-1) := by simp only [s_l24Idx, hL67, cL]
   rw [hM68]
   exact ⟨rfl, hf43⟩
theorem c_s_l24Letters {w : World} (p_s : Str) (p_most : Int) (o1 : okS p_s) : Cal Tryz.prog 73 #[.string (bs (p_s)), .int .i64 (p_most)] w fun v w' => v = .bool ((s_l24Letters p_s p_most)) ∧ Ex w w' := by
 have hol2 : p_s.length ≤ 1073741824 := o1
 refine Cal.of func73 rfl ntmps73 rfl (cR (sA rfl (dn (CW.seq (cR ?_)))))
 refine sA rfl (dn (CW.block (CW.loop (fun m4 L5 w6 => ∃ (k3 : Nat), m4 = p_s.length - k3 ∧ k3 ≤ p_s.length ∧ w.heap.size ≤ w6.heap.size ∧ lkp L5 0 = some (.string (bs (p_s))) ∧ lkp L5 1 = some (.int .i64 (p_most)) ∧ lkp L5 5 = some (.int .i64 ((k3 : Int))) ∧ Ex w w6 ∧ loopM (B_s_l24Letters_0 p_s p_most) (p_s.length - k3) k3 () = loopM (B_s_l24Letters_0 p_s p_most) (p_s.length - 0) 0 ()) (p_s.length - 0) ?_ ?_)))
 ·exact ⟨0, rfl, oM, Nat.le_refl _, rfl, rfl, rfl, (Ex.refl w), rfl⟩
 ·rintro m7 L8 w9 ⟨k3, rfl, hk10, hsz12, hl13, hl14, hl15, hf16, hI11⟩
  refine CW.sub (Sub.cons hl13 (Sub.cons hl14 (Sub.cons hl15 (Sub.nil _)))) ?_
  have hf16z := Ex.size hf16
  have hbg17 : p_s.length ≤ 1073741824 := o1
  rcases Nat.lt_or_ge k3 p_s.length with hlt18 | hlt18
  ·refine CW.seq (cR (sM rfl (sM rfl (sd rfl (yl_slen un9 (a := p_s) rfl rfl (sd rfl (yl_lss rfl rfl rfl (dn ?_))))))))
   refine CW.cond_t rfl (lt_t hlt18) (CW.skip (tn (CW.seq (CW.block (cR (sM rfl (sM rfl ?_)))))))
   refine sd rfl (yl_sindexN un9 (a := p_s) rfl rfl rfl Bo (sd rfl (yl_lss rfl rfl rfl (sM rfl (bcase (decide (((p_s.getD k3 0).toNat : Int) < 97)) (fun hb19 => ?_) (fun hb19 => ?_))))))
   ·have hb19p := dec_t hb19
    refine sz rfl rfl hb19 (sz rfl rfl hb19 (sz rfl rfl hb19 (sz rfl rfl hb19 (sd rfl (yl_pick_t rfl rfl hb19 rfl (dn (CW.cond_t rfl rfl (CW.seq ?_))))))))
    refine CW.region (sA rfl (dn (CW.ret (br (tr (tr ?_))))))
    have hB21 : B_s_l24Letters_0 p_s p_most k3 () = .ret false := by simp only [B_s_l24Letters_0, hb19, cL]
    have hL20 : loopM (B_s_l24Letters_0 p_s p_most) (p_s.length - 0) 0 () = .ret false := hI11.symm.trans (loopM.ret hlt18 hB21)
    refine br (tr (rr rfl (.cons rfl .nil) ?_))
    have hM22 : (s_l24Letters p_s p_most) = (false) := by simp only [s_l24Letters, hb19, hL20, cL]
    rw [hM22]
    exact ⟨rfl, hf16⟩
   ·have hb19p := dec_f hb19
    refine sy rfl rfl hb19 (yM rfl rfl (sy rfl rfl hb19 (yM rfl rfl (sy rfl rfl hb19 (yl_sindexN un9 (a := p_s) rfl rfl rfl Bo (sy rfl rfl hb19 (yl_gtr rfl rfl rfl (sd rfl (yl_pick_f rfl rfl hb19 rfl (dn (bcase (decide (122 < ((p_s.getD k3 0).toNat : Int))) (fun hb23 => ?_) (fun hb23 => ?_))))))))))))
    ·have hb23p := dec_t hb23
     refine CW.cond_t rfl hb23 (cR (sA rfl (dn (CW.ret (br (tr ?_))))))
     refine tr ?_
     have hB25 : B_s_l24Letters_0 p_s p_most k3 () = .ret false := by simp only [B_s_l24Letters_0, hb19, hb23, cL]
     have hL24 : loopM (B_s_l24Letters_0 p_s p_most) (p_s.length - 0) 0 () = .ret false := hI11.symm.trans (loopM.ret hlt18 hB25)
     refine br (tr (rr rfl (.cons rfl .nil) ?_))
     have hM26 : (s_l24Letters p_s p_most) = (false) := by simp only [s_l24Letters, hb19, hb23, hL24, cL]
     rw [hM26]
     exact ⟨rfl, hf16⟩
    ·have hb23p := dec_f hb23
     refine CW.cond_f rfl hb23 (CW.skip (bn (tn (CW.region (sM rfl (sd rfl (yl_inc rfl rfl rfl oM (sA rfl (SeqR.done ?_)))))))))
     refine tn ?_
     have hB27 : B_s_l24Letters_0 p_s p_most k3 () = .cont () := by simp only [B_s_l24Letters_0, hb19, hb23, cL]
     exact ⟨p_s.length - (k3 + 1), oM, k3 + 1, rfl, hlt18, oM, rfl, rfl, rfl, hf16, (loopM.cont hlt18 hB27).symm.trans hI11⟩
  ·refine CW.seq (cR (sM rfl (sM rfl (sd rfl (yl_slen un9 (a := p_s) rfl rfl (sd rfl (yl_lss rfl rfl rfl (dn ?_))))))))
   refine CW.cond_f rfl (lt_f hlt18) (CW.exit (tx (tx ?_)))
   have hL28 : loopM (B_s_l24Letters_0 p_s p_most) (p_s.length - 0) 0 () = .done () := hI11.symm.trans (loopM.stop hlt18)
   refine bx (tn (cR (sM rfl (sd rfl (yl_slen un9 (a := p_s) rfl rfl (sd rfl (yl_geq rfl rfl rfl (sM rfl (bcase (decide (1 ≤ (p_s.length : Int))) (fun hb29 => ?_) (fun hb29 => ?_))))))))))
   ·have hb29p := dec_t hb29
    refine sy rfl rfl hb29 (yM rfl rfl (sy rfl rfl hb29 (yl_slen un9 (a := p_s) rfl rfl (sy rfl rfl hb29 (yM rfl rfl (sy rfl rfl hb29 (yl_leq rfl rfl rfl (sd rfl (yl_pick_t rfl rfl hb29 rfl (sA rfl (dn (CW.ret ?_))))))))))))
    refine rr rfl (.cons rfl .nil) ?_
    have hM30 : (s_l24Letters p_s p_most) = (decide ((p_s.length : Int) ≤ p_most)) := by simp only [s_l24Letters, hb29, hL28, cL]
    rw [hM30]
    exact ⟨rfl, hf16⟩
   ·have hb29p := dec_f hb29
    refine sz rfl rfl hb29 (sz rfl rfl hb29 (sz rfl rfl hb29 (sz rfl rfl hb29 (sd rfl (yl_pick_f rfl rfl hb29 rfl (sA rfl (dn (CW.ret ?_))))))))
    refine rr rfl (.cons rfl .nil) ?_
    have hM31 : (s_l24Letters p_s p_most) = (false) := by simp only [s_l24Letters, hb29, hL28, cL]
    rw [hM31]
    exact ⟨rfl, hf16⟩
theorem c_s_l1In {w : World} (p_n : Int) (p_lo : Int) (p_hi : Int) : Cal Tryz.prog 75 #[.int .i64 (p_n), .int .i64 (p_lo), .int .i64 (p_hi)] w fun v w' => v = .bool ((s_l1In p_n p_lo p_hi)) ∧ Ex w w' := by
 refine Cal.of func75 rfl ntmps75 rfl (cR (sA rfl (dn (cR (sM rfl ?_)))))
 refine sM rfl (sd rfl (yl_geq rfl rfl rfl (sM rfl (bcase (decide (p_lo ≤ p_n)) (fun hb1 => ?_) (fun hb1 => ?_)))))
 ·have hb1p := dec_t hb1
  refine sy rfl rfl hb1 (yM rfl rfl (sy rfl rfl hb1 (yM rfl rfl (sy rfl rfl hb1 (yl_leq rfl rfl rfl (sd rfl (yl_pick_t rfl rfl hb1 rfl (sA rfl (dn (CW.ret (rr rfl (.cons rfl .nil) ?_)))))))))))
  have hM2 : (s_l1In p_n p_lo p_hi) = (decide (p_n ≤ p_hi)) := by simp only [s_l1In, hb1, cL]
  rw [hM2]
  exact ⟨rfl, (Ex.refl w)⟩
 ·have hb1p := dec_f hb1
  refine sz rfl rfl hb1 (sz rfl rfl hb1 (sz rfl rfl hb1 (sd rfl (yl_pick_f rfl rfl hb1 rfl (sA rfl (dn (CW.ret (rr rfl (.cons rfl .nil) ?_))))))))
  have hM3 : (s_l1In p_n p_lo p_hi) = (false) := by simp only [s_l1In, hb1, cL]
  rw [hM3]
  exact ⟨rfl, (Ex.refl w)⟩
theorem c_s_l24At {A1 : Option Addr} {c1 : Nat} {w : World} (p_l : List Str) (p_s : Str) (h1 : RdS w (Iv 0 w.heap.size) (RF e_Str) 1 A1 p_l.length c1 p_l) (o2 : (okL okS) p_l) (o3 : okS p_s) : Cal Tryz.prog 102 #[.slice A1 p_l.length c1, .string (bs (p_s))] w fun v w' => v = .int .i64 ((s_l24At p_l p_s)) ∧ Ex w w' := by
 have hol4 := o2.1
 have hol5 : p_s.length ≤ 1073741824 := o3
 refine Cal.of func102 rfl ntmps102 rfl (cR (sA rfl (dn (CW.seq (cR ?_)))))
 refine sM rfl (sd rfl (yL un23 rfl rfl (sM rfl (dn (CW.block (CW.loop (fun m7 L8 w9 => ∃ (k6 : Nat), m7 = p_l.length - k6 ∧ k6 ≤ p_l.length ∧ w.heap.size ≤ w9.heap.size ∧ lkp L8 1 = some (.string (bs (p_s))) ∧ lkp L8 7 = some (.slice A1 p_l.length c1) ∧ lkp L8 8 = some (.int .i64 ((p_l.length : Int))) ∧ lkp L8 9 = some (.int .i64 ((k6 : Int))) ∧ RdS w9 (Iv 0 w.heap.size) (RF e_Str) 1 A1 p_l.length c1 p_l ∧ Ex w w9 ∧ loopM (B_s_l24At_0 p_l p_s) (p_l.length - k6) k6 () = loopM (B_s_l24At_0 p_l p_s) (p_l.length - 0) 0 ()) (p_l.length - 0) ?_ ?_))))))
 ·exact ⟨0, rfl, oM, Nat.le_refl _, rfl, rfl, rfl, rfl, h1, (Ex.refl w), rfl⟩
 ·rintro m10 L11 w12 ⟨k6, rfl, hk13, hsz15, hl16, hl17, hl18, hl19, hf20, hf21, hI14⟩
  refine CW.sub (Sub.cons hl16 (Sub.cons hl17 (Sub.cons hl18 (Sub.cons hl19 (Sub.nil _))))) ?_
  have hf21z := Ex.size hf21
  have hbg22 := RdS.big hf20
  rcases Nat.lt_or_ge k6 p_l.length with hlt23 | hlt23
  ·refine cR (sd rfl (yl_lss rfl rfl rfl (dn (CW.seq (CW.cond_t rfl (lt_t hlt23) (CW.skip (tn ?_)))))))
   refine CW.seq (CW.block (cR (sM rfl ?_)))
   obtain ⟨eb24, eo24, _, eA24, _, ebl24, _, eR24, eC24⟩ := RdS.aD hf20 d_Str (i := k6)
   obtain rfl := eR24
   have eC24 : Cells w12 eb24 (eo24 + k6 * 1) [.string (bs ((p_l.getD k6 d_Str)))] := eC24
   refine sd rfl (yl_ixN un23 ty9 rfl rfl rfl eA24 (sd rfl (yl_load1 ty9 rfl rfl (eC24 0 _ rfl) (sA rfl (sA rfl (dn (cR (sM rfl ?_))))))))
   refine sM rfl (sd rfl (yl_seql (a := (p_l.getD k6 d_Str)) (b := p_s) rfl rfl rfl (dn (bcase ((p_l.getD k6 d_Str) == p_s) (fun hb25 => ?_) (fun hb25 => ?_)))))
   ·refine CW.cond_t rfl hb25 (cR (sM rfl (sA rfl (dn (CW.ret (br ?_))))))
    refine tr (tr ?_)
    have hB27 : B_s_l24At_0 p_l p_s k6 () = .ret (k6 : Int) := by simp only [B_s_l24At_0, hb25, cL]
    have hL26 : loopM (B_s_l24At_0 p_l p_s) (p_l.length - 0) 0 () = .ret (k6 : Int) := hI14.symm.trans (loopM.ret hlt23 hB27)
    refine br (tr (rr rfl (.cons rfl .nil) ?_))
    have hM28 : (s_l24At p_l p_s) = ((k6 : Int)) := by simp only [s_l24At, hb25, hL26, cL]
    rw [hM28]
    exact ⟨rfl, hf21⟩
   ·refine CW.cond_f rfl hb25 (CW.skip (bn (tn (CW.region (sd rfl (yl_inc rfl rfl rfl oM (sM rfl (dn ?_))))))))
    have hB29 : B_s_l24At_0 p_l p_s k6 () = .cont () := by simp only [B_s_l24At_0, hb25, cL]
    exact ⟨p_l.length - (k6 + 1), oM, k6 + 1, rfl, hlt23, oM, rfl, rfl, rfl, rfl, hf20, hf21, (loopM.cont hlt23 hB29).symm.trans hI14⟩
  ·refine cR (sd rfl (yl_lss rfl rfl rfl (dn (CW.seq (CW.cond_f rfl (lt_f hlt23) (CW.exit (tx ?_)))))))
   refine tx ?_
   have hL30 : loopM (B_s_l24At_0 p_l p_s) (p_l.length - 0) 0 () = .done () := hI14.symm.trans (loopM.stop hlt23)
   refine bx (tn (cR (sA rfl (dn (CW.ret (rr rfl (.cons rfl .nil) ?_))))))
   have hM31 : (s_l24At p_l p_s) = (-1) := by simp only [s_l24At, hL30, cL]
   rw [hM31]
   exact ⟨rfl, hf21⟩
theorem c_s_l24Cols {A1 : Option Addr} {c1 : Nat} {w : World} (p_l : List Str) (h1 : RdS w (Iv 0 w.heap.size) (RF e_Str) 1 A1 p_l.length c1 p_l) (o2 : (okL okS) p_l) : Cal Tryz.prog 74 #[.slice A1 p_l.length c1] w fun v w' => v = .bool ((s_l24Cols p_l)) ∧ Ex w w' := by
 have hol3 := o2.1
 refine Cal.of func74 rfl ntmps74 rfl (cR (sA rfl (dn (CW.seq (cR ?_)))))
 refine sM rfl (sd rfl (yL un23 rfl rfl (sM rfl (dn (CW.block (CW.loop (fun m5 L6 w7 => ∃ (k4 : Nat), m5 = p_l.length - k4 ∧ k4 ≤ p_l.length ∧ w.heap.size ≤ w7.heap.size ∧ lkp L6 0 = some (.slice A1 p_l.length c1) ∧ lkp L6 5 = some (.slice A1 p_l.length c1) ∧ lkp L6 6 = some (.int .i64 ((p_l.length : Int))) ∧ lkp L6 7 = some (.int .i64 ((k4 : Int))) ∧ RdS w7 (Iv 0 w.heap.size) (RF e_Str) 1 A1 p_l.length c1 p_l ∧ Ex w w7 ∧ loopM (B_s_l24Cols_0 p_l) (p_l.length - k4) k4 () = loopM (B_s_l24Cols_0 p_l) (p_l.length - 0) 0 ()) (p_l.length - 0) ?_ ?_))))))
 ·exact ⟨0, rfl, oM, Nat.le_refl _, rfl, rfl, rfl, rfl, h1, (Ex.refl w), rfl⟩
 ·rintro m8 L9 w10 ⟨k4, rfl, hk11, hsz13, hl14, hl15, hl16, hl17, hf18, hf19, hI12⟩
  refine CW.sub (Sub.cons hl14 (Sub.cons hl15 (Sub.cons hl16 (Sub.cons hl17 (Sub.nil _))))) ?_
  have hf19z := Ex.size hf19
  have hbg20 := RdS.big hf18
  rcases Nat.lt_or_ge k4 p_l.length with hlt21 | hlt21
  ·refine cR (sd rfl (yl_lss rfl rfl rfl (dn (CW.seq (CW.cond_t rfl (lt_t hlt21) (CW.skip (tn ?_)))))))
   refine CW.seq (CW.block (cR (sM rfl ?_)))
   obtain ⟨eb22, eo22, _, eA22, _, ebl22, _, eR22, eC22⟩ := RdS.aD hf18 d_Str (i := k4)
   obtain rfl := eR22
   have eC22 : Cells w10 eb22 (eo22 + k4 * 1) [.string (bs ((p_l.getD k4 d_Str)))] := eC22
   refine sd rfl (yl_ixN un23 ty9 rfl rfl rfl eA22 (sd rfl (yl_load1 ty9 rfl rfl (eC22 0 _ rfl) (sA rfl (sA rfl (dn (cR (sM rfl ?_))))))))
   refine sd rfl (yC en73 rfl (oc rfl (oc rfl oz)) (Cal.mono (c_s_l24Letters (p_l.getD k4 d_Str) 3 (okL.getD o2 ok_d_Str _)) ?_))
   rintro v24 w23 ⟨rfl, hE25⟩
   have hE25z := Ex.size hE25
   refine sd rfl (yl_not rfl rfl (sM rfl (bcase (s_l24Letters (p_l.getD k4 d_Str) 3) (fun hb26 => ?_) (fun hb26 => ?_))))
   ·refine sy rfl rfl (not_t hb26) (yM rfl rfl (sy rfl rfl (not_t hb26) (yM rfl rfl ?_)))
    have q27 := RdS.ex gS hf18 hE25
    obtain ⟨A28, c29, he32, h31⟩ := RdS.sl (RdS.drop (RdS.take q27 (k := k4) oM) (k := 0) oM)
    have hrc33 := (q27).2.1
    refine sy rfl rfl (not_t hb26) (yl_sliceR (kl := .i64) (l := 0) (h := k4) un23 ty9 rfl rfl (.inl ⟨rfl, rfl⟩) (.inr ⟨_, rfl, rfl⟩) oM oM he32 (sy rfl rfl (not_t hb26) (yM rfl rfl (sy rfl rfl (not_t hb26) (yC en102 rfl (oc rfl (oc rfl oz)) (Cal.mono (c_s_l24At (p_l.take k4) (p_l.getD k4 d_Str) (RdS.up h31 gS) (okL.take o2 _) (okL.getD o2 ok_d_Str _)) ?_))))))
    rintro v35 w34 ⟨rfl, hE36⟩
    have hE36z := Ex.size hE36
    refine sy rfl rfl (not_t hb26) (yl_geq rfl rfl rfl (sd rfl (yl_pick_f rfl rfl (not_t hb26) rfl (dn (bcase (decide (0 ≤ (s_l24At (p_l.take k4) (p_l.getD k4 d_Str)))) (fun hb37 => ?_) (fun hb37 => ?_))))))
    ·have hb37p := dec_t hb37
     refine CW.cond_t rfl hb37 (cR (sA rfl (dn (CW.ret (br (tr ?_))))))
     refine tr ?_
     have hB39 : B_s_l24Cols_0 p_l k4 () = .ret false := by simp only [B_s_l24Cols_0, hb26, hb37, cL]
     have hL38 : loopM (B_s_l24Cols_0 p_l) (p_l.length - 0) 0 () = .ret false := hI12.symm.trans (loopM.ret hlt21 hB39)
     refine br (tr (rr rfl (.cons rfl .nil) ?_))
     have hM40 : (s_l24Cols p_l) = (false) := by simp only [s_l24Cols, hb26, hb37, hL38, cL]
     rw [hM40]
     exact ⟨rfl, (Ex.trans (Ex.trans hf19 hE25) hE36)⟩
    ·have hb37p := dec_f hb37
     refine CW.cond_f rfl hb37 (CW.skip (bn (tn (CW.region (sd rfl (yl_inc rfl rfl rfl oM (sM rfl (dn ?_))))))))
     have hB43 : B_s_l24Cols_0 p_l k4 () = .cont () := by simp only [B_s_l24Cols_0, hb26, hb37, cL]
     exact ⟨p_l.length - (k4 + 1), oM, k4 + 1, rfl, hlt21, oM, rfl, rfl, rfl, rfl, (RdS.ex gS q27 hE36), (Ex.trans (Ex.trans hf19 hE25) hE36), (loopM.cont hlt21 hB43).symm.trans hI12⟩
   ·refine sz rfl rfl (not_f hb26) (sz rfl rfl (not_f hb26) (sz rfl rfl (not_f hb26) (sz rfl rfl (not_f hb26) (sz rfl rfl (not_f hb26) (sz rfl rfl (not_f hb26) (sd rfl (yl_pick_t rfl rfl (not_f hb26) rfl (dn ?_))))))))
    refine CW.cond_t rfl rfl (cR (sA rfl (dn (CW.ret (br (tr ?_))))))
    refine tr ?_
    have hB48 : B_s_l24Cols_0 p_l k4 () = .ret false := by simp only [B_s_l24Cols_0, hb26, cL]
    have hL47 : loopM (B_s_l24Cols_0 p_l) (p_l.length - 0) 0 () = .ret false := hI12.symm.trans (loopM.ret hlt21 hB48)
    refine br (tr (rr rfl (.cons rfl .nil) ?_))
    have hM49 : (s_l24Cols p_l) = (false) := by simp only [s_l24Cols, hb26, hL47, cL]
    rw [hM49]
    exact ⟨rfl, (Ex.trans hf19 hE25)⟩
  ·refine cR (sd rfl (yl_lss rfl rfl rfl (dn (CW.seq (CW.cond_f rfl (lt_f hlt21) (CW.exit (tx ?_)))))))
   refine tx ?_
   have hL51 : loopM (B_s_l24Cols_0 p_l) (p_l.length - 0) 0 () = .done () := hI12.symm.trans (loopM.stop hlt21)
   refine bx (tn (cR (sM rfl (sd rfl (yL un23 rfl rfl (sd rfl (yC en75 rfl (oc rfl (oc rfl (oc rfl oz))) (Cal.mono (c_s_l1In (p_l.length : Int) 2 4) ?_))))))))
   rintro v53 w52 ⟨rfl, hE54⟩
   have hE54z := Ex.size hE54
   refine sA rfl (dn (CW.ret (rr rfl (.cons rfl .nil) ?_)))
   have hM55 : (s_l24Cols p_l) = ((s_l1In (p_l.length : Int) 2 4)) := by simp only [s_l24Cols, hL51, cL]
   rw [hM55]
   exact ⟨rfl, (Ex.trans hf19 hE54)⟩
theorem c_s_GoodTable {A1 : Option Addr} {c1 : Nat} {A2 : Option Addr} {c2 : Nat} {w : World} (p_0 : DTable) (h1 : RdS w (Iv 0 w.heap.size) (RF e_Str) 1 A1 p_0.Cols.length c1 p_0.Cols) (h2 : RdS w (Iv 0 w.heap.size) (RF e_Idx) 3 A2 p_0.Idxs.length c2 p_0.Idxs) (o3 : ok_Table p_0) : Cal Tryz.prog 40 #[.agg #[.string (bs (p_0.Name)), .slice A1 p_0.Cols.length c1, .slice A2 p_0.Idxs.length c2]] w fun v w' => v = .bool ((s_GoodTable p_0)) ∧ Ex w w' := by
 have hol4 : p_0.Name.length ≤ 1073741824 := o3.1
 have hol5 := o3.2.1.1
 have hol6 := o3.2.2.1
 refine Cal.of func40 rfl ntmps40 rfl (cR (sd rfl (yl_box rfl rfl rfl ?_)))
 intro b7 w8 hs9 hz10 hB11 hE12
 refine sA rfl (dn (CW.seq (cR (sd rfl (yl_fieldAddr fd26_0 rfl rfl (sd rfl (yl_load1 ty9 rfl rfl ((hB11.cell 0).trans rfl) (sd rfl (yC en73 rfl (oc rfl (oc rfl oz)) (Cal.mono (c_s_l24Letters p_0.Name 1 o3.1) ?_))))))))))
 rintro v14 w13 ⟨rfl, hE15⟩
 have hE15z := Ex.size hE15
 refine sd rfl (yl_not rfl rfl (sM rfl (bcase (s_l24Letters p_0.Name 1) (fun hb16 => ?_) (fun hb16 => ?_))))
 ·refine sy rfl rfl (not_t hb16) (yl_fieldAddr fd26_1 rfl rfl ?_)
  have q17 := Box.ex hB11 hE15
  refine sy rfl rfl (not_t hb16) (yl_load1 ty23 rfl rfl ((q17.cell 1).trans rfl) ?_)
  have q19 := RdS.ex gS (RdS.ex gS h1 hE12) hE15
  refine sy rfl rfl (not_t hb16) (yC en74 rfl (oc rfl oz) (Cal.mono (c_s_l24Cols p_0.Cols (RdS.up q19 gS) o3.2.1) ?_))
  rintro v21 w20 ⟨rfl, hE22⟩
  have hE22z := Ex.size hE22
  refine sy rfl rfl (not_t hb16) (yl_not rfl rfl (sd rfl (yl_pick_f rfl rfl (not_t hb16) rfl (sM rfl (bcase (s_l24Cols p_0.Cols) (fun hb23 => ?_) (fun hb23 => ?_))))))
  ·refine sy rfl rfl (not_t hb23) (yl_fieldAddr fd26_2 rfl rfl ?_)
   have q24 := Box.ex q17 hE22
   refine sy rfl rfl (not_t hb23) (yl_load1 ty24 rfl rfl ((q24.cell 2).trans rfl) (sy rfl rfl (not_t hb23) (yL un24 rfl rfl (sy rfl rfl (not_t hb23) (yl_gtr rfl rfl rfl (sd rfl (yl_pick_f rfl rfl (not_t hb23) rfl (dn (bcase (decide (3 < (p_0.Idxs.length : Int))) (fun hb25 => ?_) (fun hb25 => ?_))))))))))
   ·have hb25p := dec_t hb25
    refine CW.cond_t rfl hb25 (cR (sA rfl (dn (CW.ret (tr (rr rfl (.cons rfl .nil) ?_))))))
    have hM26 : (s_GoodTable p_0) = (false) := by simp only [s_GoodTable, hb16, hb23, hb25, cL]
    rw [hM26]
    exact ⟨rfl, (Ex.trans (Ex.trans (Ex.trans (Ex.refl w) hE12) hE15) hE22)⟩
   ·have hb25p := dec_f hb25
    refine CW.cond_f rfl hb25 (CW.skip (tn (CW.seq (cR (sd rfl (yl_fieldAddr fd26_2 rfl rfl (sd rfl (yl_load1 ty24 rfl rfl ((q24.cell 2).trans rfl) (sd rfl (yL un24 rfl rfl ?_))))))))))
    refine sM rfl (dn (CW.block (CW.loop (fun m68 L69 w70 => ∃ (k30 : Nat), m68 = p_0.Idxs.length - k30 ∧ k30 ≤ p_0.Idxs.length ∧ w20.heap.size ≤ w70.heap.size ∧ lkp L69 1 = some (.pointer (some ⟨b7, 0, none⟩)) ∧ lkp L69 22 = some (.slice A2 p_0.Idxs.length c2) ∧ lkp L69 23 = some (.int .i64 ((p_0.Idxs.length : Int))) ∧ lkp L69 24 = some (.int .i64 ((k30 : Int))) ∧ Box w70 b7 26 [.string (bs (p_0.Name)), .slice A1 p_0.Cols.length c1, .slice A2 p_0.Idxs.length c2] ∧ RdS w70 (Iv 0 w.heap.size) (RF e_Str) 1 A1 p_0.Cols.length c1 p_0.Cols ∧ RdS w70 (Iv 0 w.heap.size) (RF e_Idx) 3 A2 p_0.Idxs.length c2 p_0.Idxs ∧ Ex w w70 ∧ loopM (B_s_GoodTable_0 p_0) (p_0.Idxs.length - k30) k30 () = loopM (B_s_GoodTable_0 p_0) (p_0.Idxs.length - 0) 0 ()) (p_0.Idxs.length - 0) ?_ ?_)))
    ·exact ⟨0, rfl, oM, Nat.le_refl _, rfl, rfl, rfl, rfl, q24, (RdS.ex gS q19 hE22), (RdS.ex gI (RdS.ex gI (RdS.ex gI h2 hE12) hE15) hE22), (Ex.trans (Ex.trans (Ex.trans (Ex.refl w) hE12) hE15) hE22), rfl⟩
    ·rintro m78 L79 w80 ⟨k30, rfl, hk81, hsz83, hl84, hl85, hl86, hl87, hf88, hf89, hf90, hf91, hI82⟩
     refine CW.sub (Sub.cons hl84 (Sub.cons hl85 (Sub.cons hl86 (Sub.cons hl87 (Sub.nil _))))) ?_
     have hf88z := Box.lt hf88
     have hf91z := Ex.size hf91
     have hbg92 := RdS.big hf90
     rcases Nat.lt_or_ge k30 p_0.Idxs.length with hlt93 | hlt93
     ·refine cR (sd rfl (yl_lss rfl rfl rfl (dn (CW.seq (CW.cond_t rfl (lt_t hlt93) (CW.skip (tn ?_)))))))
      refine CW.seq (CW.block (cR (sM rfl ?_)))
      obtain ⟨eb94, eo94, _, eA94, _, ebl94, _, eR94, eC94⟩ := RdS.aD hf90 d_Idx (i := k30)
      obtain rfl := eR94
      have eC94 : Cells w80 eb94 (eo94 + k30 * 3) [.string (bs ((p_0.Idxs.getD k30 d_Idx).Name)), .int .i64 ((p_0.Idxs.getD k30 d_Idx).Col), .int .i64 ((p_0.Idxs.getD k30 d_Idx).Stage)] := eC94
      refine sd rfl (yl_ixN un24 ty54 rfl rfl rfl eA94 (sd rfl (yl_loadN ty54 rfl rfl eC94 rfl (sd rfl (yB ty54 (cs := [.string (bs (([] : Str))), .int .i64 (0), .int .i64 (0)]) rfl rfl ?_)))))
      intro b95 w96 hs97 hz98 hB99 hE100
      refine sA rfl (SeqR.u rfl rfl (yl_store (vs := [.string (bs ((p_0.Idxs.getD k30 d_Idx).Name)), .int .i64 ((p_0.Idxs.getD k30 d_Idx).Col), .int .i64 ((p_0.Idxs.getD k30 d_Idx).Stage)]) ty54 rfl rfl rfl rfl rfl rfl hB99 (nb rfl) ?_))
      intro w101 hB102 hO103
      have hB102 : Box w101 b95 54 [.string (bs ((p_0.Idxs.getD k30 d_Idx).Name)), .int .i64 ((p_0.Idxs.getD k30 d_Idx).Col), .int .i64 ((p_0.Idxs.getD k30 d_Idx).Stage)] := hB102
      have hO103z := hO103.size
      refine dn (CW.seq (bcase (s_l24Letters ((p_0.Idxs.getD k30 d_Idx).Name) 1) (fun hb105 => ?_) (fun hb105 => ?_)))
      ·refine bcase (s_l1In ((p_0.Idxs.getD k30 d_Idx).Col) 1 (IntKind.wrap .i64 ((p_0.Cols.length : Int) - 1))) (fun hb110 => ?_) (fun hb110 => ?_)
       ·have hb110p := f_l1In hb110
        refine bcase (s_l1In ((p_0.Idxs.getD k30 d_Idx).Stage) 0 3) (fun hb116 => ?_) (fun hb116 => ?_)
        ·have hb116p := f_l1In hb116
         refine bcase (decide (0 < (k30 : Int))) (fun hb122 => ?_) (fun hb122 => ?_)
         ·have hb122p := dec_t hb122
          have q125 := Box.only (Box.ex hf88 hE100) hO103 oM
          have q129 := RdS.only gI (RdS.ex gI hf90 hE100) hO103 (by simp only [Iv]; omega)
          obtain ⟨eb130, eo130, _, eA130, _, ebl130, _, eR130, eC130⟩ := RdS.atD q129 d_Idx (i := (IntKind.wrap .i64 ((k30 : Int) - 1)).toNat) Bo
          obtain rfl := eR130
          have eC130 : Cells w101 eb130 (eo130 + ((IntKind.wrap .i64 ((k30 : Int) - 1)).toNat) * 3) [.string (bs ((p_0.Idxs.getD ((IntKind.wrap .i64 ((k30 : Int) - 1)).toNat) d_Idx).Name)), .int .i64 ((p_0.Idxs.getD ((IntKind.wrap .i64 ((k30 : Int) - 1)).toNat) d_Idx).Col), .int .i64 ((p_0.Idxs.getD ((IntKind.wrap .i64 ((k30 : Int) - 1)).toNat) d_Idx).Stage)] := eC130
          refine drI 36 [.pointer (some ⟨b95, 0 + 0, none⟩), .string (bs ((p_0.Idxs.getD k30 d_Idx).Name)), .bool ((s_l24Letters ((p_0.Idxs.getD k30 d_Idx).Name) 1)), .bool (!(s_l24Letters ((p_0.Idxs.getD k30 d_Idx).Name) 1)), .bool (!(s_l24Letters ((p_0.Idxs.getD k30 d_Idx).Name) 1)), .pointer (some ⟨b95, 0 + 1, none⟩), .int .i64 ((p_0.Idxs.getD k30 d_Idx).Col), .pointer (some ⟨b7, 0 + 1, none⟩), .slice A1 p_0.Cols.length c1, .int .i64 ((p_0.Cols.length : Int)), .int .i64 (IntKind.wrap .i64 ((p_0.Cols.length : Int) - 1)), .bool ((s_l1In ((p_0.Idxs.getD k30 d_Idx).Col) 1 (IntKind.wrap .i64 ((p_0.Cols.length : Int) - 1)))), .bool (!(s_l1In ((p_0.Idxs.getD k30 d_Idx).Col) 1 (IntKind.wrap .i64 ((p_0.Cols.length : Int) - 1)))), .bool (!(s_l1In ((p_0.Idxs.getD k30 d_Idx).Col) 1 (IntKind.wrap .i64 ((p_0.Cols.length : Int) - 1)))), .bool (!(s_l1In ((p_0.Idxs.getD k30 d_Idx).Col) 1 (IntKind.wrap .i64 ((p_0.Cols.length : Int) - 1)))), .pointer (some ⟨b95, 0 + 2, none⟩), .int .i64 ((p_0.Idxs.getD k30 d_Idx).Stage), .bool ((s_l1In ((p_0.Idxs.getD k30 d_Idx).Stage) 0 3)), .bool (!(s_l1In ((p_0.Idxs.getD k30 d_Idx).Stage) 0 3)), .bool (!(s_l1In ((p_0.Idxs.getD k30 d_Idx).Stage) 0 3)), .bool (!(s_l1In ((p_0.Idxs.getD k30 d_Idx).Stage) 0 3)), .int .i64 ((k30 : Int)), .bool (decide (0 < (k30 : Int))), .bool (decide (0 < (k30 : Int))), .pointer (some ⟨b7, 0 + 2, none⟩), .slice A2 p_0.Idxs.length c2, .int .i64 ((k30 : Int)), .int .i64 (IntKind.wrap .i64 ((k30 : Int) - 1)), .pointer (some ⟨eb130, eo130 + ((IntKind.wrap .i64 ((k30 : Int) - 1)).toNat) * 3, none⟩), .pointer (some ⟨eb130, eo130 + ((IntKind.wrap .i64 ((k30 : Int) - 1)).toNat) * 3 + 0, none⟩), .string (bs ((p_0.Idxs.getD ((IntKind.wrap .i64 ((k30 : Int) - 1)).toNat) d_Idx).Name)), .pointer (some ⟨b95, 0 + 0, none⟩), .string (bs ((p_0.Idxs.getD k30 d_Idx).Name)), .bool (!(sLt ((p_0.Idxs.getD ((IntKind.wrap .i64 ((k30 : Int) - 1)).toNat) d_Idx).Name) ((p_0.Idxs.getD k30 d_Idx).Name))), .bool (!(sLt ((p_0.Idxs.getD ((IntKind.wrap .i64 ((k30 : Int) - 1)).toNat) d_Idx).Name) ((p_0.Idxs.getD k30 d_Idx).Name))), .bool (!(sLt ((p_0.Idxs.getD ((IntKind.wrap .i64 ((k30 : Int) - 1)).toNat) d_Idx).Name) ((p_0.Idxs.getD k30 d_Idx).Name)))] Tryz.follows rfl ⟨?_, ?_, ?_, ?_, ?_, ?_, ?_, ?_, ?_, ?_, ?_, ?_, ?_, ?_, ?_, ?_, ?_, ?_, ?_, ?_, ?_, ?_, ?_, ?_, ?_, ?_, ?_, ?_, ?_, ?_, ?_, ?_, ?_, ?_, ?_, ?_, trivial⟩ ?_
          ·exact oI rfl fun h => yl_fieldAddr fd54_0 rfl (h.old 4 _ rfl rfl) kI
          ·exact oI rfl fun h => yl_load1 ty9 rfl (h.dt 0 29 rfl rfl rfl) (((Box.ex hB102 h.ex).cell 0).trans rfl) kI
          ·intro L142 w143 hi144
           exact OpR.op' rfl (yC en73 rfl (oc (hi144.dt 1 30 rfl rfl rfl) (oc rfl oz)) (Cal.mono (c_s_l24Letters ((p_0.Idxs.getD k30 d_Idx).Name) 1 (okL.getD o3.2.2 ok_d_Idx _)) fun _ _ h => h))
          ·exact oI rfl fun h => yl_not rfl (h.dt 2 31 rfl rfl rfl) kI
          ·exact oI rfl fun h => yM rfl (h.dt 3 32 rfl rfl rfl) kI
          ·exact oW rfl rfl rfl rfl (not_t hb105) fun h => yl_fieldAddr fd54_1 rfl (h.old 4 _ rfl rfl) kI
          ·exact oW rfl rfl rfl rfl (not_t hb105) fun h => yl_load1 ty3 rfl (h.dt 5 34 rfl rfl rfl) (((Box.ex hB102 h.ex).cell 1).trans rfl) kI
          ·exact oW rfl rfl rfl rfl (not_t hb105) fun h => yl_fieldAddr fd26_1 rfl (h.old 1 _ rfl rfl) kI
          ·exact oW rfl rfl rfl rfl (not_t hb105) fun h => yl_load1 ty23 rfl (h.dt 7 36 rfl rfl rfl) (((Box.ex q125 h.ex).cell 1).trans rfl) kI
          ·exact oW rfl rfl rfl rfl (not_t hb105) fun h => yL un23 rfl (h.dt 8 37 rfl rfl rfl) kI
          ·exact oW rfl rfl rfl rfl (not_t hb105) fun h => yl_sub rfl (h.dt 9 38 rfl rfl rfl) rfl kI
          ·intro L198 w199 hi200
           exact OpR.want rfl rfl (hi200.dt 4 33 rfl rfl rfl) (not_t hb105) (yC en75 rfl (oc (hi200.dt 6 35 rfl rfl rfl) (oc rfl (oc (hi200.dt 10 39 rfl rfl rfl) oz))) (Cal.mono (c_s_l1In ((p_0.Idxs.getD k30 d_Idx).Col) 1 (IntKind.wrap .i64 ((p_0.Cols.length : Int) - 1))) fun _ _ h => h))
          ·exact oW rfl rfl rfl rfl (not_t hb105) fun h => yl_not rfl (h.dt 11 40 rfl rfl rfl) kI
          ·exact oI rfl fun h => yl_pick_f rfl (h.dt 4 33 rfl rfl rfl) (not_t hb105) (h.dt 12 41 rfl rfl rfl) kI
          ·exact oI rfl fun h => yM rfl (h.dt 13 42 rfl rfl rfl) kI
          ·exact oW rfl rfl rfl rfl (not_t hb110) fun h => yl_fieldAddr fd54_2 rfl (h.old 4 _ rfl rfl) kI
          ·exact oW rfl rfl rfl rfl (not_t hb110) fun h => yl_load1 ty3 rfl (h.dt 15 44 rfl rfl rfl) (((Box.ex hB102 h.ex).cell 2).trans rfl) kI
          ·intro L238 w239 hi240
           exact OpR.want rfl rfl (hi240.dt 14 43 rfl rfl rfl) (not_t hb110) (yC en75 rfl (oc (hi240.dt 16 45 rfl rfl rfl) (oc rfl (oc rfl oz))) (Cal.mono (c_s_l1In ((p_0.Idxs.getD k30 d_Idx).Stage) 0 3) fun _ _ h => h))
          ·exact oW rfl rfl rfl rfl (not_t hb110) fun h => yl_not rfl (h.dt 17 46 rfl rfl rfl) kI
          ·exact oI rfl fun h => yl_pick_f rfl (h.dt 14 43 rfl rfl rfl) (not_t hb110) (h.dt 18 47 rfl rfl rfl) kI
          ·exact oI rfl fun h => yM rfl (h.dt 19 48 rfl rfl rfl) kI
          ·exact oW rfl rfl rfl rfl (not_t hb116) fun h => yM rfl (h.old 3 _ rfl rfl) kI
          ·exact oW rfl rfl rfl rfl (not_t hb116) fun h => yl_gtr rfl (h.dt 21 50 rfl rfl rfl) rfl kI
          ·exact oW rfl rfl rfl rfl (not_t hb116) fun h => yM rfl (h.dt 22 51 rfl rfl rfl) kI
          ·exact oW rfl rfl rfl rfl hb122 fun h => yl_fieldAddr fd26_2 rfl (h.old 1 _ rfl rfl) kI
          ·exact oW rfl rfl rfl rfl hb122 fun h => yl_load1 ty24 rfl (h.dt 24 53 rfl rfl rfl) (((Box.ex q125 h.ex).cell 2).trans rfl) kI
          ·exact oW rfl rfl rfl rfl hb122 fun h => yM rfl (h.old 3 _ rfl rfl) kI
          ·exact oW rfl rfl rfl rfl hb122 fun h => yl_sub rfl (h.dt 26 55 rfl rfl rfl) rfl kI
          ·intro L307 w308 hi309
           have hE310 := hi309.ex
           have hE310z := Ex.size hE310
           exact OpR.want rfl rfl (hi309.dt 23 52 rfl rfl rfl) hb122 (Yl.sameI (yl_indexAddr un24 ty54 rfl (hi309.dt 25 54 rfl rfl rfl) (hi309.dt 27 56 rfl rfl rfl) eA130 Bo Bo kI))
          ·exact oW rfl rfl rfl rfl hb122 fun h => yl_fieldAddr fd54_0 rfl (h.dt 28 57 rfl rfl rfl) kI
          ·exact oW rfl rfl rfl rfl hb122 fun h => yl_load1 ty9 rfl (h.dt 29 58 rfl rfl rfl) ((Cells.ex eC130 h.ex) 0 _ rfl) kI
          ·exact oW rfl rfl rfl rfl hb122 fun h => yl_fieldAddr fd54_0 rfl (h.old 4 _ rfl rfl) kI
          ·exact oW rfl rfl rfl rfl hb122 fun h => yl_load1 ty9 rfl (h.dt 31 60 rfl rfl rfl) (((Box.ex hB102 h.ex).cell 0).trans rfl) kI
          ·exact oW rfl rfl rfl rfl hb122 fun h => yl_sgeq (a := ((p_0.Idxs.getD ((IntKind.wrap .i64 ((k30 : Int) - 1)).toNat) d_Idx).Name)) (b := ((p_0.Idxs.getD k30 d_Idx).Name)) rfl (h.dt 30 59 rfl rfl rfl) (h.dt 32 61 rfl rfl rfl) kI
          ·exact oW rfl rfl rfl rfl (not_t hb116) fun h => yl_pick_t rfl (h.dt 23 52 rfl rfl rfl) hb122 (h.dt 33 62 rfl rfl rfl) kI
          ·exact oI rfl fun h => yl_pick_f rfl (h.dt 20 49 rfl rfl rfl) (not_t hb116) (h.dt 34 63 rfl rfl rfl) kI
          ·intro fl363 fh364 L360 w361 hp362
           have hE365 := hp362.ex
           have hE365z := Ex.size hE365
           refine dn (CW.sub (sC 1 (hp362.old 1 _ rfl rfl) (sC 22 (hp362.old 22 _ rfl rfl) (sC 23 (hp362.old 23 _ rfl rfl) (sC 24 (hp362.old 24 _ rfl rfl) (sC 34 (hp362.nt 5 34 rfl rfl rfl) (sC 35 (hp362.nt 6 35 rfl rfl rfl) (sC 36 (hp362.nt 7 36 rfl rfl rfl) (sC 37 (hp362.nt 8 37 rfl rfl rfl) (sC 38 (hp362.nt 9 38 rfl rfl rfl) (sC 39 (hp362.nt 10 39 rfl rfl rfl) (sC 40 (hp362.nt 11 40 rfl rfl rfl) (sC 41 (hp362.nt 12 41 rfl rfl rfl) (sC 44 (hp362.nt 15 44 rfl rfl rfl) (sC 45 (hp362.nt 16 45 rfl rfl rfl) (sC 46 (hp362.nt 17 46 rfl rfl rfl) (sC 47 (hp362.nt 18 47 rfl rfl rfl) (sC 50 (hp362.nt 21 50 rfl rfl rfl) (sC 51 (hp362.nt 22 51 rfl rfl rfl) (sC 52 (hp362.nt 23 52 rfl rfl rfl) (sC 53 (hp362.nt 24 53 rfl rfl rfl) (sC 54 (hp362.nt 25 54 rfl rfl rfl) (sC 55 (hp362.nt 26 55 rfl rfl rfl) (sC 56 (hp362.nt 27 56 rfl rfl rfl) (sC 57 (hp362.nt 28 57 rfl rfl rfl) (sC 58 (hp362.nt 29 58 rfl rfl rfl) (sC 59 (hp362.nt 30 59 rfl rfl rfl) (sC 60 (hp362.nt 31 60 rfl rfl rfl) (sC 61 (hp362.nt 32 61 rfl rfl rfl) (sC 62 (hp362.nt 33 62 rfl rfl rfl) (sC 63 (hp362.nt 34 63 rfl rfl rfl) (sC 64 (hp362.nt 35 64 rfl rfl rfl) (Sub.nil _)))))))))))))))))))))))))))))))) ?_)
           refine bcase (sLt ((p_0.Idxs.getD ((IntKind.wrap .i64 ((k30 : Int) - 1)).toNat) d_Idx).Name) ((p_0.Idxs.getD k30 d_Idx).Name)) (fun hb397 => ?_) (fun hb397 => ?_)
           ·refine CW.cond_f rfl (not_t hb397) (CW.skip (bn (tn (CW.region (sd rfl (yl_inc rfl rfl rfl oM (sM rfl (dn ?_))))))))
            have hB398 : B_s_GoodTable_0 p_0 k30 () = .cont () := by simp only [B_s_GoodTable_0, hb16, hb23, hb25, hb105, hb110, hb116, hb122, hb397, cL]
            exact ⟨p_0.Idxs.length - (k30 + 1), oM, k30 + 1, rfl, hlt93, oM, rfl, rfl, rfl, rfl, (Box.ex q125 hE365), (RdS.ex gS (RdS.only gS (RdS.ex gS hf89 hE100) hO103 (by simp only [Iv]; omega)) hE365), (RdS.ex gI q129 hE365), (Ex.trans (Below.only (Ex.trans hf91 hE100) hO103 oM) hE365), (loopM.cont hlt93 hB398).symm.trans hI82⟩
           ·refine CW.cond_t rfl (not_f hb397) (cR (sA rfl (dn (CW.ret (br (tr ?_))))))
            refine tr ?_
            have hB408 : B_s_GoodTable_0 p_0 k30 () = .ret false := by simp only [B_s_GoodTable_0, hb16, hb23, hb25, hb105, hb110, hb116, hb122, hb397, cL]
            have hL407 : loopM (B_s_GoodTable_0 p_0) (p_0.Idxs.length - 0) 0 () = .ret false := hI82.symm.trans (loopM.ret hlt93 hB408)
            refine br (tr (rr rfl (.cons rfl .nil) ?_))
            have hM409 : (s_GoodTable p_0) = (false) := by simp only [s_GoodTable, hb16, hb23, hb25, hb105, hb110, hb116, hb122, hb397, hL407, cL]
            rw [hM409]
            exact ⟨rfl, (Ex.trans (Below.only (Ex.trans hf91 hE100) hO103 oM) hE365)⟩
         ·have hb122p := dec_f hb122
          have q415 := Box.only (Box.ex hf88 hE100) hO103 oM
          refine drI 36 [.pointer (some ⟨b95, 0 + 0, none⟩), .string (bs ((p_0.Idxs.getD k30 d_Idx).Name)), .bool ((s_l24Letters ((p_0.Idxs.getD k30 d_Idx).Name) 1)), .bool (!(s_l24Letters ((p_0.Idxs.getD k30 d_Idx).Name) 1)), .bool (!(s_l24Letters ((p_0.Idxs.getD k30 d_Idx).Name) 1)), .pointer (some ⟨b95, 0 + 1, none⟩), .int .i64 ((p_0.Idxs.getD k30 d_Idx).Col), .pointer (some ⟨b7, 0 + 1, none⟩), .slice A1 p_0.Cols.length c1, .int .i64 ((p_0.Cols.length : Int)), .int .i64 (IntKind.wrap .i64 ((p_0.Cols.length : Int) - 1)), .bool ((s_l1In ((p_0.Idxs.getD k30 d_Idx).Col) 1 (IntKind.wrap .i64 ((p_0.Cols.length : Int) - 1)))), .bool (!(s_l1In ((p_0.Idxs.getD k30 d_Idx).Col) 1 (IntKind.wrap .i64 ((p_0.Cols.length : Int) - 1)))), .bool (!(s_l1In ((p_0.Idxs.getD k30 d_Idx).Col) 1 (IntKind.wrap .i64 ((p_0.Cols.length : Int) - 1)))), .bool (!(s_l1In ((p_0.Idxs.getD k30 d_Idx).Col) 1 (IntKind.wrap .i64 ((p_0.Cols.length : Int) - 1)))), .pointer (some ⟨b95, 0 + 2, none⟩), .int .i64 ((p_0.Idxs.getD k30 d_Idx).Stage), .bool ((s_l1In ((p_0.Idxs.getD k30 d_Idx).Stage) 0 3)), .bool (!(s_l1In ((p_0.Idxs.getD k30 d_Idx).Stage) 0 3)), .bool (!(s_l1In ((p_0.Idxs.getD k30 d_Idx).Stage) 0 3)), .bool (!(s_l1In ((p_0.Idxs.getD k30 d_Idx).Stage) 0 3)), .int .i64 ((k30 : Int)), .bool (decide (0 < (k30 : Int))), .bool (decide (0 < (k30 : Int))), undef, undef, undef, undef, undef, undef, undef, undef, undef, undef, .bool (false), .bool (false)] Tryz.follows rfl ⟨?_, ?_, ?_, ?_, ?_, ?_, ?_, ?_, ?_, ?_, ?_, ?_, ?_, ?_, ?_, ?_, ?_, ?_, ?_, ?_, ?_, ?_, ?_, ?_, ?_, ?_, ?_, ?_, ?_, ?_, ?_, ?_, ?_, ?_, ?_, ?_, trivial⟩ ?_
          ·exact oI rfl fun h => yl_fieldAddr fd54_0 rfl (h.old 4 _ rfl rfl) kI
          ·exact oI rfl fun h => yl_load1 ty9 rfl (h.dt 0 29 rfl rfl rfl) (((Box.ex hB102 h.ex).cell 0).trans rfl) kI
          ·intro L429 w430 hi431
           exact OpR.op' rfl (yC en73 rfl (oc (hi431.dt 1 30 rfl rfl rfl) (oc rfl oz)) (Cal.mono (c_s_l24Letters ((p_0.Idxs.getD k30 d_Idx).Name) 1 (okL.getD o3.2.2 ok_d_Idx _)) fun _ _ h => h))
          ·exact oI rfl fun h => yl_not rfl (h.dt 2 31 rfl rfl rfl) kI
          ·exact oI rfl fun h => yM rfl (h.dt 3 32 rfl rfl rfl) kI
          ·exact oW rfl rfl rfl rfl (not_t hb105) fun h => yl_fieldAddr fd54_1 rfl (h.old 4 _ rfl rfl) kI
          ·exact oW rfl rfl rfl rfl (not_t hb105) fun h => yl_load1 ty3 rfl (h.dt 5 34 rfl rfl rfl) (((Box.ex hB102 h.ex).cell 1).trans rfl) kI
          ·exact oW rfl rfl rfl rfl (not_t hb105) fun h => yl_fieldAddr fd26_1 rfl (h.old 1 _ rfl rfl) kI
          ·exact oW rfl rfl rfl rfl (not_t hb105) fun h => yl_load1 ty23 rfl (h.dt 7 36 rfl rfl rfl) (((Box.ex q415 h.ex).cell 1).trans rfl) kI
          ·exact oW rfl rfl rfl rfl (not_t hb105) fun h => yL un23 rfl (h.dt 8 37 rfl rfl rfl) kI
          ·exact oW rfl rfl rfl rfl (not_t hb105) fun h => yl_sub rfl (h.dt 9 38 rfl rfl rfl) rfl kI
          ·intro L485 w486 hi487
           exact OpR.want rfl rfl (hi487.dt 4 33 rfl rfl rfl) (not_t hb105) (yC en75 rfl (oc (hi487.dt 6 35 rfl rfl rfl) (oc rfl (oc (hi487.dt 10 39 rfl rfl rfl) oz))) (Cal.mono (c_s_l1In ((p_0.Idxs.getD k30 d_Idx).Col) 1 (IntKind.wrap .i64 ((p_0.Cols.length : Int) - 1))) fun _ _ h => h))
          ·exact oW rfl rfl rfl rfl (not_t hb105) fun h => yl_not rfl (h.dt 11 40 rfl rfl rfl) kI
          ·exact oI rfl fun h => yl_pick_f rfl (h.dt 4 33 rfl rfl rfl) (not_t hb105) (h.dt 12 41 rfl rfl rfl) kI
          ·exact oI rfl fun h => yM rfl (h.dt 13 42 rfl rfl rfl) kI
          ·exact oW rfl rfl rfl rfl (not_t hb110) fun h => yl_fieldAddr fd54_2 rfl (h.old 4 _ rfl rfl) kI
          ·exact oW rfl rfl rfl rfl (not_t hb110) fun h => yl_load1 ty3 rfl (h.dt 15 44 rfl rfl rfl) (((Box.ex hB102 h.ex).cell 2).trans rfl) kI
          ·intro L525 w526 hi527
           exact OpR.want rfl rfl (hi527.dt 14 43 rfl rfl rfl) (not_t hb110) (yC en75 rfl (oc (hi527.dt 16 45 rfl rfl rfl) (oc rfl (oc rfl oz))) (Cal.mono (c_s_l1In ((p_0.Idxs.getD k30 d_Idx).Stage) 0 3) fun _ _ h => h))
          ·exact oW rfl rfl rfl rfl (not_t hb110) fun h => yl_not rfl (h.dt 17 46 rfl rfl rfl) kI
          ·exact oI rfl fun h => yl_pick_f rfl (h.dt 14 43 rfl rfl rfl) (not_t hb110) (h.dt 18 47 rfl rfl rfl) kI
          ·exact oI rfl fun h => yM rfl (h.dt 19 48 rfl rfl rfl) kI
          ·exact oW rfl rfl rfl rfl (not_t hb116) fun h => yM rfl (h.old 3 _ rfl rfl) kI
          ·exact oW rfl rfl rfl rfl (not_t hb116) fun h => yl_gtr rfl (h.dt 21 50 rfl rfl rfl) rfl kI
          ·exact oW rfl rfl rfl rfl (not_t hb116) fun h => yM rfl (h.dt 22 51 rfl rfl rfl) kI
          ·exact oS rfl rfl rfl rfl rfl hb122
          ·exact oS rfl rfl rfl rfl rfl hb122
          ·exact oS rfl rfl rfl rfl rfl hb122
          ·exact oS rfl rfl rfl rfl rfl hb122
          ·exact oS rfl rfl rfl rfl rfl hb122
          ·exact oS rfl rfl rfl rfl rfl hb122
          ·exact oS rfl rfl rfl rfl rfl hb122
          ·exact oS rfl rfl rfl rfl rfl hb122
          ·exact oS rfl rfl rfl rfl rfl hb122
          ·exact oS rfl rfl rfl rfl rfl hb122
          ·exact oW rfl rfl rfl rfl (not_t hb116) fun h => yl_pick_f rfl (h.dt 23 52 rfl rfl rfl) hb122 rfl kI
          ·exact oI rfl fun h => yl_pick_f rfl (h.dt 20 49 rfl rfl rfl) (not_t hb116) (h.dt 34 63 rfl rfl rfl) kI
          ·intro fl635 fh636 L632 w633 hp634
           have hE637 := hp634.ex
           have hE637z := Ex.size hE637
           refine dn (CW.sub (sC 1 (hp634.old 1 _ rfl rfl) (sC 22 (hp634.old 22 _ rfl rfl) (sC 23 (hp634.old 23 _ rfl rfl) (sC 24 (hp634.old 24 _ rfl rfl) (sC 34 (hp634.nt 5 34 rfl rfl rfl) (sC 35 (hp634.nt 6 35 rfl rfl rfl) (sC 36 (hp634.nt 7 36 rfl rfl rfl) (sC 37 (hp634.nt 8 37 rfl rfl rfl) (sC 38 (hp634.nt 9 38 rfl rfl rfl) (sC 39 (hp634.nt 10 39 rfl rfl rfl) (sC 40 (hp634.nt 11 40 rfl rfl rfl) (sC 41 (hp634.nt 12 41 rfl rfl rfl) (sC 44 (hp634.nt 15 44 rfl rfl rfl) (sC 45 (hp634.nt 16 45 rfl rfl rfl) (sC 46 (hp634.nt 17 46 rfl rfl rfl) (sC 47 (hp634.nt 18 47 rfl rfl rfl) (sC 50 (hp634.nt 21 50 rfl rfl rfl) (sC 51 (hp634.nt 22 51 rfl rfl rfl) (sC 52 (hp634.nt 23 52 rfl rfl rfl) (sC 53 (hp634.nt 24 53 rfl rfl rfl) (sC 54 (hp634.nt 25 54 rfl rfl rfl) (sC 55 (hp634.nt 26 55 rfl rfl rfl) (sC 56 (hp634.nt 27 56 rfl rfl rfl) (sC 57 (hp634.nt 28 57 rfl rfl rfl) (sC 58 (hp634.nt 29 58 rfl rfl rfl) (sC 59 (hp634.nt 30 59 rfl rfl rfl) (sC 60 (hp634.nt 31 60 rfl rfl rfl) (sC 61 (hp634.nt 32 61 rfl rfl rfl) (sC 62 (hp634.nt 33 62 rfl rfl rfl) (sC 63 (hp634.nt 34 63 rfl rfl rfl) (sC 64 (hp634.nt 35 64 rfl rfl rfl) (Sub.nil _)))))))))))))))))))))))))))))))) ?_)
           refine CW.cond_f rfl rfl (CW.skip (bn (tn (CW.region (sd rfl (yl_inc rfl rfl rfl oM (sM rfl (dn ?_))))))))
           have hB669 : B_s_GoodTable_0 p_0 k30 () = .cont () := by simp only [B_s_GoodTable_0, hb16, hb23, hb25, hb105, hb110, hb116, hb122, cL]
           exact ⟨p_0.Idxs.length - (k30 + 1), oM, k30 + 1, rfl, hlt93, oM, rfl, rfl, rfl, rfl, (Box.ex q415 hE637), (RdS.ex gS (RdS.only gS (RdS.ex gS hf89 hE100) hO103 (by simp only [Iv]; omega)) hE637), (RdS.ex gI (RdS.only gI (RdS.ex gI hf90 hE100) hO103 (by simp only [Iv]; omega)) hE637), (Ex.trans (Below.only (Ex.trans hf91 hE100) hO103 oM) hE637), (loopM.cont hlt93 hB669).symm.trans hI82⟩
        ·refine drI 36 [.pointer (some ⟨b95, 0 + 0, none⟩), .string (bs ((p_0.Idxs.getD k30 d_Idx).Name)), .bool ((s_l24Letters ((p_0.Idxs.getD k30 d_Idx).Name) 1)), .bool (!(s_l24Letters ((p_0.Idxs.getD k30 d_Idx).Name) 1)), .bool (!(s_l24Letters ((p_0.Idxs.getD k30 d_Idx).Name) 1)), .pointer (some ⟨b95, 0 + 1, none⟩), .int .i64 ((p_0.Idxs.getD k30 d_Idx).Col), .pointer (some ⟨b7, 0 + 1, none⟩), .slice A1 p_0.Cols.length c1, .int .i64 ((p_0.Cols.length : Int)), .int .i64 (IntKind.wrap .i64 ((p_0.Cols.length : Int) - 1)), .bool ((s_l1In ((p_0.Idxs.getD k30 d_Idx).Col) 1 (IntKind.wrap .i64 ((p_0.Cols.length : Int) - 1)))), .bool (!(s_l1In ((p_0.Idxs.getD k30 d_Idx).Col) 1 (IntKind.wrap .i64 ((p_0.Cols.length : Int) - 1)))), .bool (!(s_l1In ((p_0.Idxs.getD k30 d_Idx).Col) 1 (IntKind.wrap .i64 ((p_0.Cols.length : Int) - 1)))), .bool (!(s_l1In ((p_0.Idxs.getD k30 d_Idx).Col) 1 (IntKind.wrap .i64 ((p_0.Cols.length : Int) - 1)))), .pointer (some ⟨b95, 0 + 2, none⟩), .int .i64 ((p_0.Idxs.getD k30 d_Idx).Stage), .bool ((s_l1In ((p_0.Idxs.getD k30 d_Idx).Stage) 0 3)), .bool (!(s_l1In ((p_0.Idxs.getD k30 d_Idx).Stage) 0 3)), .bool (!(s_l1In ((p_0.Idxs.getD k30 d_Idx).Stage) 0 3)), .bool (!(s_l1In ((p_0.Idxs.getD k30 d_Idx).Stage) 0 3)), undef, undef, undef, undef, undef, undef, undef, undef, undef, undef, undef, undef, undef, undef, .bool (true)] Tryz.follows rfl ⟨?_, ?_, ?_, ?_, ?_, ?_, ?_, ?_, ?_, ?_, ?_, ?_, ?_, ?_, ?_, ?_, ?_, ?_, ?_, ?_, ?_, ?_, ?_, ?_, ?_, ?_, ?_, ?_, ?_, ?_, ?_, ?_, ?_, ?_, ?_, ?_, trivial⟩ ?_
         ·exact oI rfl fun h => yl_fieldAddr fd54_0 rfl (h.old 4 _ rfl rfl) kI
         ·exact oI rfl fun h => yl_load1 ty9 rfl (h.dt 0 29 rfl rfl rfl) (((Box.ex hB102 h.ex).cell 0).trans rfl) kI
         ·intro L696 w697 hi698
          exact OpR.op' rfl (yC en73 rfl (oc (hi698.dt 1 30 rfl rfl rfl) (oc rfl oz)) (Cal.mono (c_s_l24Letters ((p_0.Idxs.getD k30 d_Idx).Name) 1 (okL.getD o3.2.2 ok_d_Idx _)) fun _ _ h => h))
         ·exact oI rfl fun h => yl_not rfl (h.dt 2 31 rfl rfl rfl) kI
         ·exact oI rfl fun h => yM rfl (h.dt 3 32 rfl rfl rfl) kI
         ·exact oW rfl rfl rfl rfl (not_t hb105) fun h => yl_fieldAddr fd54_1 rfl (h.old 4 _ rfl rfl) kI
         ·exact oW rfl rfl rfl rfl (not_t hb105) fun h => yl_load1 ty3 rfl (h.dt 5 34 rfl rfl rfl) (((Box.ex hB102 h.ex).cell 1).trans rfl) kI
         ·exact oW rfl rfl rfl rfl (not_t hb105) fun h => yl_fieldAddr fd26_1 rfl (h.old 1 _ rfl rfl) kI
         ·intro L733 w734 hi735
          have hE736 := hi735.ex
          have hE736z := Ex.size hE736
          exact OpR.want rfl rfl (hi735.dt 4 33 rfl rfl rfl) (not_t hb105) (Yl.sameI (yl_load1 ty23 rfl (hi735.dt 7 36 rfl rfl rfl) (((Box.ex (Box.only (Box.ex hf88 hE100) hO103 oM) hE736).cell 1).trans rfl) kI))
         ·exact oW rfl rfl rfl rfl (not_t hb105) fun h => yL un23 rfl (h.dt 8 37 rfl rfl rfl) kI
         ·exact oW rfl rfl rfl rfl (not_t hb105) fun h => yl_sub rfl (h.dt 9 38 rfl rfl rfl) rfl kI
         ·intro L752 w753 hi754
          exact OpR.want rfl rfl (hi754.dt 4 33 rfl rfl rfl) (not_t hb105) (yC en75 rfl (oc (hi754.dt 6 35 rfl rfl rfl) (oc rfl (oc (hi754.dt 10 39 rfl rfl rfl) oz))) (Cal.mono (c_s_l1In ((p_0.Idxs.getD k30 d_Idx).Col) 1 (IntKind.wrap .i64 ((p_0.Cols.length : Int) - 1))) fun _ _ h => h))
         ·exact oW rfl rfl rfl rfl (not_t hb105) fun h => yl_not rfl (h.dt 11 40 rfl rfl rfl) kI
         ·exact oI rfl fun h => yl_pick_f rfl (h.dt 4 33 rfl rfl rfl) (not_t hb105) (h.dt 12 41 rfl rfl rfl) kI
         ·exact oI rfl fun h => yM rfl (h.dt 13 42 rfl rfl rfl) kI
         ·exact oW rfl rfl rfl rfl (not_t hb110) fun h => yl_fieldAddr fd54_2 rfl (h.old 4 _ rfl rfl) kI
         ·exact oW rfl rfl rfl rfl (not_t hb110) fun h => yl_load1 ty3 rfl (h.dt 15 44 rfl rfl rfl) (((Box.ex hB102 h.ex).cell 2).trans rfl) kI
         ·intro L792 w793 hi794
          exact OpR.want rfl rfl (hi794.dt 14 43 rfl rfl rfl) (not_t hb110) (yC en75 rfl (oc (hi794.dt 16 45 rfl rfl rfl) (oc rfl (oc rfl oz))) (Cal.mono (c_s_l1In ((p_0.Idxs.getD k30 d_Idx).Stage) 0 3) fun _ _ h => h))
         ·exact oW rfl rfl rfl rfl (not_t hb110) fun h => yl_not rfl (h.dt 17 46 rfl rfl rfl) kI
         ·exact oI rfl fun h => yl_pick_f rfl (h.dt 14 43 rfl rfl rfl) (not_t hb110) (h.dt 18 47 rfl rfl rfl) kI
         ·exact oI rfl fun h => yM rfl (h.dt 19 48 rfl rfl rfl) kI
         ·exact oS rfl rfl rfl rfl rfl (not_f hb116)
         ·exact oS rfl rfl rfl rfl rfl (not_f hb116)
         ·exact oS rfl rfl rfl rfl rfl (not_f hb116)
         ·exact oU rfl rfl rfl rfl rfl
         ·exact oU rfl rfl rfl rfl rfl
         ·exact oU rfl rfl rfl rfl rfl
         ·exact oU rfl rfl rfl rfl rfl
         ·exact oU rfl rfl rfl rfl rfl
         ·exact oU rfl rfl rfl rfl rfl
         ·exact oU rfl rfl rfl rfl rfl
         ·exact oU rfl rfl rfl rfl rfl
         ·exact oU rfl rfl rfl rfl rfl
         ·exact oU rfl rfl rfl rfl rfl
         ·exact oS rfl rfl rfl rfl rfl (not_f hb116)
         ·exact oI rfl fun h => yl_pick_t rfl (h.dt 20 49 rfl rfl rfl) (not_f hb116) rfl kI
         ·intro fl897 fh898 L894 w895 hp896
          have hE899 := hp896.ex
          have hE899z := Ex.size hE899
          refine dn (CW.sub (sC 1 (hp896.old 1 _ rfl rfl) (sC 22 (hp896.old 22 _ rfl rfl) (sC 23 (hp896.old 23 _ rfl rfl) (sC 24 (hp896.old 24 _ rfl rfl) (sC 34 (hp896.nt 5 34 rfl rfl rfl) (sC 35 (hp896.nt 6 35 rfl rfl rfl) (sC 36 (hp896.nt 7 36 rfl rfl rfl) (sC 37 (hp896.nt 8 37 rfl rfl rfl) (sC 38 (hp896.nt 9 38 rfl rfl rfl) (sC 39 (hp896.nt 10 39 rfl rfl rfl) (sC 40 (hp896.nt 11 40 rfl rfl rfl) (sC 41 (hp896.nt 12 41 rfl rfl rfl) (sC 44 (hp896.nt 15 44 rfl rfl rfl) (sC 45 (hp896.nt 16 45 rfl rfl rfl) (sC 46 (hp896.nt 17 46 rfl rfl rfl) (sC 47 (hp896.nt 18 47 rfl rfl rfl) (sC 50 (hp896.nt 21 50 rfl rfl rfl) (sC 51 (hp896.nt 22 51 rfl rfl rfl) (sC 52 (hp896.nt 23 52 rfl rfl rfl) (sC 53 (hp896.nt 24 53 rfl rfl rfl) (sC 54 (hp896.nt 25 54 rfl rfl rfl) (sC 55 (hp896.nt 26 55 rfl rfl rfl) (sC 56 (hp896.nt 27 56 rfl rfl rfl) (sC 57 (hp896.nt 28 57 rfl rfl rfl) (sC 58 (hp896.nt 29 58 rfl rfl rfl) (sC 59 (hp896.nt 30 59 rfl rfl rfl) (sC 60 (hp896.nt 31 60 rfl rfl rfl) (sC 61 (hp896.nt 32 61 rfl rfl rfl) (sC 62 (hp896.nt 33 62 rfl rfl rfl) (sC 63 (hp896.nt 34 63 rfl rfl rfl) (sC 64 (hp896.nt 35 64 rfl rfl rfl) (Sub.nil _)))))))))))))))))))))))))))))))) ?_)
          refine CW.cond_t rfl rfl (cR (sA rfl (dn (CW.ret (br (tr ?_))))))
          refine tr ?_
          have hB932 : B_s_GoodTable_0 p_0 k30 () = .ret false := by simp only [B_s_GoodTable_0, hb16, hb23, hb25, hb105, hb110, hb116, cL]
          have hL931 : loopM (B_s_GoodTable_0 p_0) (p_0.Idxs.length - 0) 0 () = .ret false := hI82.symm.trans (loopM.ret hlt93 hB932)
          refine br (tr (rr rfl (.cons rfl .nil) ?_))
          have hM933 : (s_GoodTable p_0) = (false) := by simp only [s_GoodTable, hb16, hb23, hb25, hb105, hb110, hb116, hL931, cL]
          rw [hM933]
          exact ⟨rfl, (Ex.trans (Below.only (Ex.trans hf91 hE100) hO103 oM) hE899)⟩
       ·refine drI 36 [.pointer (some ⟨b95, 0 + 0, none⟩), .string (bs ((p_0.Idxs.getD k30 d_Idx).Name)), .bool ((s_l24Letters ((p_0.Idxs.getD k30 d_Idx).Name) 1)), .bool (!(s_l24Letters ((p_0.Idxs.getD k30 d_Idx).Name) 1)), .bool (!(s_l24Letters ((p_0.Idxs.getD k30 d_Idx).Name) 1)), .pointer (some ⟨b95, 0 + 1, none⟩), .int .i64 ((p_0.Idxs.getD k30 d_Idx).Col), .pointer (some ⟨b7, 0 + 1, none⟩), .slice A1 p_0.Cols.length c1, .int .i64 ((p_0.Cols.length : Int)), .int .i64 (IntKind.wrap .i64 ((p_0.Cols.length : Int) - 1)), .bool ((s_l1In ((p_0.Idxs.getD k30 d_Idx).Col) 1 (IntKind.wrap .i64 ((p_0.Cols.length : Int) - 1)))), .bool (!(s_l1In ((p_0.Idxs.getD k30 d_Idx).Col) 1 (IntKind.wrap .i64 ((p_0.Cols.length : Int) - 1)))), .bool (!(s_l1In ((p_0.Idxs.getD k30 d_Idx).Col) 1 (IntKind.wrap .i64 ((p_0.Cols.length : Int) - 1)))), .bool (!(s_l1In ((p_0.Idxs.getD k30 d_Idx).Col) 1 (IntKind.wrap .i64 ((p_0.Cols.length : Int) - 1)))), undef, undef, undef, undef, .bool (true), .bool (true), undef, undef, undef, undef, undef, undef, undef, undef, undef, undef, undef, undef, undef, undef, .bool (true)] Tryz.follows rfl ⟨?_, ?_, ?_, ?_, ?_, ?_, ?_, ?_, ?_, ?_, ?_, ?_, ?_, ?_, ?_, ?_, ?_, ?_, ?_, ?_, ?_, ?_, ?_, ?_, ?_, ?_, ?_, ?_, ?_, ?_, ?_, ?_, ?_, ?_, ?_, ?_, trivial⟩ ?_
        ·exact oI rfl fun h => yl_fieldAddr fd54_0 rfl (h.old 4 _ rfl rfl) kI
        ·exact oI rfl fun h => yl_load1 ty9 rfl (h.dt 0 29 rfl rfl rfl) (((Box.ex hB102 h.ex).cell 0).trans rfl) kI
        ·intro L952 w953 hi954
         exact OpR.op' rfl (yC en73 rfl (oc (hi954.dt 1 30 rfl rfl rfl) (oc rfl oz)) (Cal.mono (c_s_l24Letters ((p_0.Idxs.getD k30 d_Idx).Name) 1 (okL.getD o3.2.2 ok_d_Idx _)) fun _ _ h => h))
        ·exact oI rfl fun h => yl_not rfl (h.dt 2 31 rfl rfl rfl) kI
        ·exact oI rfl fun h => yM rfl (h.dt 3 32 rfl rfl rfl) kI
        ·exact oW rfl rfl rfl rfl (not_t hb105) fun h => yl_fieldAddr fd54_1 rfl (h.old 4 _ rfl rfl) kI
        ·exact oW rfl rfl rfl rfl (not_t hb105) fun h => yl_load1 ty3 rfl (h.dt 5 34 rfl rfl rfl) (((Box.ex hB102 h.ex).cell 1).trans rfl) kI
        ·exact oW rfl rfl rfl rfl (not_t hb105) fun h => yl_fieldAddr fd26_1 rfl (h.old 1 _ rfl rfl) kI
        ·intro L989 w990 hi991
         have hE992 := hi991.ex
         have hE992z := Ex.size hE992
         exact OpR.want rfl rfl (hi991.dt 4 33 rfl rfl rfl) (not_t hb105) (Yl.sameI (yl_load1 ty23 rfl (hi991.dt 7 36 rfl rfl rfl) (((Box.ex (Box.only (Box.ex hf88 hE100) hO103 oM) hE992).cell 1).trans rfl) kI))
        ·exact oW rfl rfl rfl rfl (not_t hb105) fun h => yL un23 rfl (h.dt 8 37 rfl rfl rfl) kI
        ·exact oW rfl rfl rfl rfl (not_t hb105) fun h => yl_sub rfl (h.dt 9 38 rfl rfl rfl) rfl kI
        ·intro L1008 w1009 hi1010
         exact OpR.want rfl rfl (hi1010.dt 4 33 rfl rfl rfl) (not_t hb105) (yC en75 rfl (oc (hi1010.dt 6 35 rfl rfl rfl) (oc rfl (oc (hi1010.dt 10 39 rfl rfl rfl) oz))) (Cal.mono (c_s_l1In ((p_0.Idxs.getD k30 d_Idx).Col) 1 (IntKind.wrap .i64 ((p_0.Cols.length : Int) - 1))) fun _ _ h => h))
        ·exact oW rfl rfl rfl rfl (not_t hb105) fun h => yl_not rfl (h.dt 11 40 rfl rfl rfl) kI
        ·exact oI rfl fun h => yl_pick_f rfl (h.dt 4 33 rfl rfl rfl) (not_t hb105) (h.dt 12 41 rfl rfl rfl) kI
        ·exact oI rfl fun h => yM rfl (h.dt 13 42 rfl rfl rfl) kI
        ·exact oS rfl rfl rfl rfl rfl (not_f hb110)
        ·exact oS rfl rfl rfl rfl rfl (not_f hb110)
        ·exact oS rfl rfl rfl rfl rfl (not_f hb110)
        ·exact oS rfl rfl rfl rfl rfl (not_f hb110)
        ·exact oI rfl fun h => yl_pick_t rfl (h.dt 14 43 rfl rfl rfl) (not_f hb110) rfl kI
        ·exact oI rfl fun h => yM rfl (h.dt 19 48 rfl rfl rfl) kI
        ·exact oS rfl rfl rfl rfl rfl rfl
        ·exact oS rfl rfl rfl rfl rfl rfl
        ·exact oS rfl rfl rfl rfl rfl rfl
        ·exact oU rfl rfl rfl rfl rfl
        ·exact oU rfl rfl rfl rfl rfl
        ·exact oU rfl rfl rfl rfl rfl
        ·exact oU rfl rfl rfl rfl rfl
        ·exact oU rfl rfl rfl rfl rfl
        ·exact oU rfl rfl rfl rfl rfl
        ·exact oU rfl rfl rfl rfl rfl
        ·exact oU rfl rfl rfl rfl rfl
        ·exact oU rfl rfl rfl rfl rfl
        ·exact oU rfl rfl rfl rfl rfl
        ·exact oS rfl rfl rfl rfl rfl rfl
        ·exact oI rfl fun h => yl_pick_t rfl (h.dt 20 49 rfl rfl rfl) rfl rfl kI
        ·intro fl1145 fh1146 L1142 w1143 hp1144
         have hE1147 := hp1144.ex
         have hE1147z := Ex.size hE1147
         refine dn (CW.sub (sC 1 (hp1144.old 1 _ rfl rfl) (sC 22 (hp1144.old 22 _ rfl rfl) (sC 23 (hp1144.old 23 _ rfl rfl) (sC 24 (hp1144.old 24 _ rfl rfl) (sC 34 (hp1144.nt 5 34 rfl rfl rfl) (sC 35 (hp1144.nt 6 35 rfl rfl rfl) (sC 36 (hp1144.nt 7 36 rfl rfl rfl) (sC 37 (hp1144.nt 8 37 rfl rfl rfl) (sC 38 (hp1144.nt 9 38 rfl rfl rfl) (sC 39 (hp1144.nt 10 39 rfl rfl rfl) (sC 40 (hp1144.nt 11 40 rfl rfl rfl) (sC 41 (hp1144.nt 12 41 rfl rfl rfl) (sC 44 (hp1144.nt 15 44 rfl rfl rfl) (sC 45 (hp1144.nt 16 45 rfl rfl rfl) (sC 46 (hp1144.nt 17 46 rfl rfl rfl) (sC 47 (hp1144.nt 18 47 rfl rfl rfl) (sC 50 (hp1144.nt 21 50 rfl rfl rfl) (sC 51 (hp1144.nt 22 51 rfl rfl rfl) (sC 52 (hp1144.nt 23 52 rfl rfl rfl) (sC 53 (hp1144.nt 24 53 rfl rfl rfl) (sC 54 (hp1144.nt 25 54 rfl rfl rfl) (sC 55 (hp1144.nt 26 55 rfl rfl rfl) (sC 56 (hp1144.nt 27 56 rfl rfl rfl) (sC 57 (hp1144.nt 28 57 rfl rfl rfl) (sC 58 (hp1144.nt 29 58 rfl rfl rfl) (sC 59 (hp1144.nt 30 59 rfl rfl rfl) (sC 60 (hp1144.nt 31 60 rfl rfl rfl) (sC 61 (hp1144.nt 32 61 rfl rfl rfl) (sC 62 (hp1144.nt 33 62 rfl rfl rfl) (sC 63 (hp1144.nt 34 63 rfl rfl rfl) (sC 64 (hp1144.nt 35 64 rfl rfl rfl) (Sub.nil _)))))))))))))))))))))))))))))))) ?_)
         refine CW.cond_t rfl rfl (cR (sA rfl (dn (CW.ret (br (tr ?_))))))
         refine tr ?_
         have hB1180 : B_s_GoodTable_0 p_0 k30 () = .ret false := by simp only [B_s_GoodTable_0, hb16, hb23, hb25, hb105, hb110, cL]
         have hL1179 : loopM (B_s_GoodTable_0 p_0) (p_0.Idxs.length - 0) 0 () = .ret false := hI82.symm.trans (loopM.ret hlt93 hB1180)
         refine br (tr (rr rfl (.cons rfl .nil) ?_))
         have hM1181 : (s_GoodTable p_0) = (false) := by simp only [s_GoodTable, hb16, hb23, hb25, hb105, hb110, hL1179, cL]
         rw [hM1181]
         exact ⟨rfl, (Ex.trans (Below.only (Ex.trans hf91 hE100) hO103 oM) hE1147)⟩
      ·refine drI 36 [.pointer (some ⟨b95, 0 + 0, none⟩), .string (bs ((p_0.Idxs.getD k30 d_Idx).Name)), .bool ((s_l24Letters ((p_0.Idxs.getD k30 d_Idx).Name) 1)), .bool (!(s_l24Letters ((p_0.Idxs.getD k30 d_Idx).Name) 1)), .bool (!(s_l24Letters ((p_0.Idxs.getD k30 d_Idx).Name) 1)), undef, undef, undef, undef, undef, undef, undef, undef, .bool (true), .bool (true), undef, undef, undef, undef, .bool (true), .bool (true), undef, undef, undef, undef, undef, undef, undef, undef, undef, undef, undef, undef, undef, undef, .bool (true)] Tryz.follows rfl ⟨?_, ?_, ?_, ?_, ?_, ?_, ?_, ?_, ?_, ?_, ?_, ?_, ?_, ?_, ?_, ?_, ?_, ?_, ?_, ?_, ?_, ?_, ?_, ?_, ?_, ?_, ?_, ?_, ?_, ?_, ?_, ?_, ?_, ?_, ?_, ?_, trivial⟩ ?_
       ·exact oI rfl fun h => yl_fieldAddr fd54_0 rfl (h.old 4 _ rfl rfl) kI
       ·exact oI rfl fun h => yl_load1 ty9 rfl (h.dt 0 29 rfl rfl rfl) (((Box.ex hB102 h.ex).cell 0).trans rfl) kI
       ·intro L1197 w1198 hi1199
        exact OpR.op' rfl (yC en73 rfl (oc (hi1199.dt 1 30 rfl rfl rfl) (oc rfl oz)) (Cal.mono (c_s_l24Letters ((p_0.Idxs.getD k30 d_Idx).Name) 1 (okL.getD o3.2.2 ok_d_Idx _)) fun _ _ h => h))
       ·exact oI rfl fun h => yl_not rfl (h.dt 2 31 rfl rfl rfl) kI
       ·exact oI rfl fun h => yM rfl (h.dt 3 32 rfl rfl rfl) kI
       ·exact oS rfl rfl rfl rfl rfl (not_f hb105)
       ·exact oS rfl rfl rfl rfl rfl (not_f hb105)
       ·exact oS rfl rfl rfl rfl rfl (not_f hb105)
       ·exact oS rfl rfl rfl rfl rfl (not_f hb105)
       ·exact oS rfl rfl rfl rfl rfl (not_f hb105)
       ·exact oS rfl rfl rfl rfl rfl (not_f hb105)
       ·exact oS rfl rfl rfl rfl rfl (not_f hb105)
       ·exact oS rfl rfl rfl rfl rfl (not_f hb105)
       ·exact oI rfl fun h => yl_pick_t rfl (h.dt 4 33 rfl rfl rfl) (not_f hb105) rfl kI
       ·exact oI rfl fun h => yM rfl (h.dt 13 42 rfl rfl rfl) kI
       ·exact oS rfl rfl rfl rfl rfl rfl
       ·exact oS rfl rfl rfl rfl rfl rfl
       ·exact oS rfl rfl rfl rfl rfl rfl
       ·exact oS rfl rfl rfl rfl rfl rfl
       ·exact oI rfl fun h => yl_pick_t rfl (h.dt 14 43 rfl rfl rfl) rfl rfl kI
       ·exact oI rfl fun h => yM rfl (h.dt 19 48 rfl rfl rfl) kI
       ·exact oS rfl rfl rfl rfl rfl rfl
       ·exact oS rfl rfl rfl rfl rfl rfl
       ·exact oS rfl rfl rfl rfl rfl rfl
       ·exact oU rfl rfl rfl rfl rfl
       ·exact oU rfl rfl rfl rfl rfl
       ·exact oU rfl rfl rfl rfl rfl
       ·exact oU rfl rfl rfl rfl rfl
       ·exact oU rfl rfl rfl rfl rfl
       ·exact oU rfl rfl rfl rfl rfl
       ·exact oU rfl rfl rfl rfl rfl
       ·exact oU rfl rfl rfl rfl rfl
       ·exact oU rfl rfl rfl rfl rfl
       ·exact oU rfl rfl rfl rfl rfl
       ·exact oS rfl rfl rfl rfl rfl rfl
       ·exact oI rfl fun h => yl_pick_t rfl (h.dt 20 49 rfl rfl rfl) rfl rfl kI
       ·intro fl1376 fh1377 L1373 w1374 hp1375
        have hE1378 := hp1375.ex
        have hE1378z := Ex.size hE1378
        refine dn (CW.sub (sC 1 (hp1375.old 1 _ rfl rfl) (sC 22 (hp1375.old 22 _ rfl rfl) (sC 23 (hp1375.old 23 _ rfl rfl) (sC 24 (hp1375.old 24 _ rfl rfl) (sC 34 (hp1375.nt 5 34 rfl rfl rfl) (sC 35 (hp1375.nt 6 35 rfl rfl rfl) (sC 36 (hp1375.nt 7 36 rfl rfl rfl) (sC 37 (hp1375.nt 8 37 rfl rfl rfl) (sC 38 (hp1375.nt 9 38 rfl rfl rfl) (sC 39 (hp1375.nt 10 39 rfl rfl rfl) (sC 40 (hp1375.nt 11 40 rfl rfl rfl) (sC 41 (hp1375.nt 12 41 rfl rfl rfl) (sC 44 (hp1375.nt 15 44 rfl rfl rfl) (sC 45 (hp1375.nt 16 45 rfl rfl rfl) (sC 46 (hp1375.nt 17 46 rfl rfl rfl) (sC 47 (hp1375.nt 18 47 rfl rfl rfl) (sC 50 (hp1375.nt 21 50 rfl rfl rfl) (sC 51 (hp1375.nt 22 51 rfl rfl rfl) (sC 52 (hp1375.nt 23 52 rfl rfl rfl) (sC 53 (hp1375.nt 24 53 rfl rfl rfl) (sC 54 (hp1375.nt 25 54 rfl rfl rfl) (sC 55 (hp1375.nt 26 55 rfl rfl rfl) (sC 56 (hp1375.nt 27 56 rfl rfl rfl) (sC 57 (hp1375.nt 28 57 rfl rfl rfl) (sC 58 (hp1375.nt 29 58 rfl rfl rfl) (sC 59 (hp1375.nt 30 59 rfl rfl rfl) (sC 60 (hp1375.nt 31 60 rfl rfl rfl) (sC 61 (hp1375.nt 32 61 rfl rfl rfl) (sC 62 (hp1375.nt 33 62 rfl rfl rfl) (sC 63 (hp1375.nt 34 63 rfl rfl rfl) (sC 64 (hp1375.nt 35 64 rfl rfl rfl) (Sub.nil _)))))))))))))))))))))))))))))))) ?_)
        refine CW.cond_t rfl rfl (cR (sA rfl (dn (CW.ret (br (tr ?_))))))
        refine tr ?_
        have hB1411 : B_s_GoodTable_0 p_0 k30 () = .ret false := by simp only [B_s_GoodTable_0, hb16, hb23, hb25, hb105, cL]
        have hL1410 : loopM (B_s_GoodTable_0 p_0) (p_0.Idxs.length - 0) 0 () = .ret false := hI82.symm.trans (loopM.ret hlt93 hB1411)
        refine br (tr (rr rfl (.cons rfl .nil) ?_))
        have hM1412 : (s_GoodTable p_0) = (false) := by simp only [s_GoodTable, hb16, hb23, hb25, hb105, hL1410, cL]
        rw [hM1412]
        exact ⟨rfl, (Ex.trans (Below.only (Ex.trans hf91 hE100) hO103 oM) hE1378)⟩
     ·refine cR (sd rfl (yl_lss rfl rfl rfl (dn (CW.seq (CW.cond_f rfl (lt_f hlt93) (CW.exit (tx ?_)))))))
      refine tx ?_
      have hL1416 : loopM (B_s_GoodTable_0 p_0) (p_0.Idxs.length - 0) 0 () = .done () := hI82.symm.trans (loopM.stop hlt93)
      refine bx (tn (cR (sA rfl (dn (CW.ret (rr rfl (.cons rfl .nil) ?_))))))
      have hM1417 : (s_GoodTable p_0) = (true) := by simp only [s_GoodTable, hb16, hb23, hb25, hL1416, cL]
      rw [hM1417]
      exact ⟨rfl, hf91⟩
  ·refine sz rfl rfl (not_f hb23) (sz rfl rfl (not_f hb23) (sz rfl rfl (not_f hb23) (sz rfl rfl (not_f hb23) (sd rfl (yl_pick_t rfl rfl (not_f hb23) rfl (dn (CW.cond_t rfl rfl (CW.seq ?_))))))))
   refine CW.region (sA rfl (dn (CW.ret (tr (rr rfl (.cons rfl .nil) ?_)))))
   have hM1418 : (s_GoodTable p_0) = (false) := by simp only [s_GoodTable, hb16, hb23, cL]
   rw [hM1418]
   exact ⟨rfl, (Ex.trans (Ex.trans (Ex.trans (Ex.refl w) hE12) hE15) hE22)⟩
 ·refine sz rfl rfl (not_f hb16) (sz rfl rfl (not_f hb16) (sz rfl rfl (not_f hb16) (sz rfl rfl (not_f hb16) (sd rfl (yl_pick_t rfl rfl (not_f hb16) rfl (sM rfl (sz rfl rfl rfl (sz rfl rfl rfl (sz rfl rfl rfl ?_)))))))))
  refine sz rfl rfl rfl (sd rfl (yl_pick_t rfl rfl rfl rfl (dn (CW.cond_t rfl rfl (cR (sA rfl (SeqR.done ?_)))))))
  refine tn (CW.ret (tr (rr rfl (.cons rfl .nil) ?_)))
  have hM1422 : (s_GoodTable p_0) = (false) := by simp only [s_GoodTable, hb16, cL]
  rw [hM1422]
  exact ⟨rfl, (Ex.trans (Ex.trans (Ex.refl w) hE12) hE15)⟩
theorem c_s_IdxAt {A1 : Option Addr} {c1 : Nat} {A2 : Option Addr} {c2 : Nat} {w : World} (p_t : DTable) (pn : Str) (h1 : RdS w (Iv 0 w.heap.size) (RF e_Str) 1 A1 p_t.Cols.length c1 p_t.Cols) (h2 : RdS w (Iv 0 w.heap.size) (RF e_Idx) 3 A2 p_t.Idxs.length c2 p_t.Idxs) (o3 : ok_Table p_t) (o4 : okS pn) : Cal Tryz.prog 18 #[.agg #[.string (bs (p_t.Name)), .slice A1 p_t.Cols.length c1, .slice A2 p_t.Idxs.length c2], .string (bs (pn))] w fun v w' => v = .tuple #[.agg #[.string (bs ((s_IdxAt p_t pn).1.Name)), .int .i64 ((s_IdxAt p_t pn).1.Col), .int .i64 ((s_IdxAt p_t pn).1.Stage)], .bool ((s_IdxAt p_t pn).2)] ∧ ok_Idx ((s_IdxAt p_t pn).1) ∧ Ex w w' := by
 have hol5 : p_t.Name.length ≤ 1073741824 := o3.1
 have hol6 := o3.2.1.1
 have hol7 := o3.2.2.1
 have hol8 : pn.length ≤ 1073741824 := o4
 refine Cal.of func18 rfl ntmps18 rfl (cR (sd rfl (yl_box rfl rfl rfl ?_)))
 intro b9 w10 hs11 hz12 hB13 hE14
 refine sd rfl (yB ty54 (cs := [.string (bs (([] : Str))), .int .i64 (0), .int .i64 (0)]) rfl rfl ?_)
 intro b15 w16 hs17 hz18 hB19 hE20
 refine sA rfl (dn (cR ?_))
 have q21 := Box.ex hB13 hE20
 refine sd rfl (yl_loadN ty26 rfl rfl (q21.cells (n := 3) rfl) rfl (sM rfl ?_))
 have q23 := RdS.ex gS (RdS.ex gS h1 hE14) hE20
 have q25 := RdS.ex gI (RdS.ex gI h2 hE14) hE20
 refine sd rfl (yC en39 rfl (oc rfl (oc rfl oz)) (Cal.mono (c_s_l24Idx p_t pn (RdS.up q23 gS) (RdS.up q25 gI) o3 o4) ?_))
 rintro v27 w26 ⟨rfl, hE28⟩
 have hE28z := Ex.size hE28
 have hrf29 := rf_s_l24Idx p_t pn
 refine sA rfl (dn (CW.seq (cR ?_)))
 have q30 := Box.ex q21 hE28
 refine sd rfl (yl_loadN ty26 rfl rfl (q30.cells (n := 3) rfl) rfl ?_)
 have q32 := RdS.ex gI q25 hE28
 refine sd rfl (yC en40 rfl (oc rfl oz) (Cal.mono (c_s_GoodTable p_t (RdS.up (RdS.ex gS q23 hE28) gS) (RdS.up q32 gI) o3) ?_))
 rintro v34 w33 ⟨rfl, hE35⟩
 have hE35z := Ex.size hE35
 have y0 := Ex.trans (Ex.trans (Ex.trans (Ex.trans (Ex.refl w) hE14) hE20) hE28) hE35
 refine sd rfl (yl_not rfl rfl (sM rfl (bcase (s_GoodTable p_t) (fun hb36 => ?_) (fun hb36 => ?_))))
 ·have hb36p := f_s_GoodTable hb36
  refine sy rfl rfl (not_t hb36) (yM rfl rfl (sy rfl rfl (not_t hb36) (yl_lss rfl rfl rfl (sd rfl (yl_pick_f rfl rfl (not_t hb36) rfl (dn (bcase (decide ((s_l24Idx p_t pn) < 0)) (fun hb37 => ?_) (fun hb37 => ?_))))))))
  ·have hb37p := dec_t hb37
   refine CW.cond_t rfl hb37 (cR (sd rfl (yl_build (cs := [.string (bs (([] : Str))), .int .i64 (0), .int .i64 (0)]) rfl opvs_nil (by kernel_rfl) (SeqR.u rfl rfl (yl_store (vs := [.string (bs (([] : Str))), .int .i64 (0), .int .i64 (0)]) ty54 rfl rfl rfl rfl rfl rfl (Box.ex (Box.ex hB19 hE28) hE35) (nb rfl) ?_)))))
   intro w40 hB41 hO42
   have hB41 : Box w40 b15 54 [.string (bs (([] : Str))), .int .i64 (0), .int .i64 (0)] := hB41
   have hO42z := hO42.size
   refine sA rfl (dn (CW.ret (tr (rr rfl (.cons ⟨_, rfl, run_loadN ty54 (cs := [.string (bs (([] : Str))), .int .i64 (0), .int .i64 (0)]) rfl (hB41.cells (n := 3) rfl)⟩ (.cons rfl .nil)) ?_))))
   have hM43 : (s_IdxAt p_t pn) = (((⟨([] : Str), 0, 0⟩ : DIdx), false)) := by simp only [s_IdxAt, hb36, hb37, cL]
   rw [hM43]
   exact ⟨rfl, (okS.lit rfl), (Below.only y0 hO42 oM)⟩
  ·have hb37p := dec_f hb37
   refine CW.cond_f rfl hb37 (CW.skip (tn (cR (sd rfl (yl_fieldAddr fd26_2 rfl rfl (sd rfl (yl_load1 ty24 rfl rfl (((Box.ex q30 hE35).cell 2).trans rfl) (sM rfl ?_))))))))
   obtain ⟨eb51, eo51, _, eA51, _, ebl51, _, eR51, eC51⟩ := RdS.atD (RdS.ex gI q32 hE35) d_Idx (i := ((s_l24Idx p_t pn)).toNat) Bo
   obtain rfl := eR51
   have eC51 : Cells w33 eb51 (eo51 + (((s_l24Idx p_t pn)).toNat) * 3) [.string (bs ((p_t.Idxs.getD (((s_l24Idx p_t pn)).toNat) d_Idx).Name)), .int .i64 ((p_t.Idxs.getD (((s_l24Idx p_t pn)).toNat) d_Idx).Col), .int .i64 ((p_t.Idxs.getD (((s_l24Idx p_t pn)).toNat) d_Idx).Stage)] := eC51
   refine sd rfl (yl_indexAddr un24 ty54 rfl rfl rfl eA51 Bo Bo (sd rfl (yl_loadN ty54 rfl rfl eC51 rfl (SeqR.u rfl rfl (yl_store (vs := [.string (bs ((p_t.Idxs.getD (((s_l24Idx p_t pn)).toNat) d_Idx).Name)), .int .i64 ((p_t.Idxs.getD (((s_l24Idx p_t pn)).toNat) d_Idx).Col), .int .i64 ((p_t.Idxs.getD (((s_l24Idx p_t pn)).toNat) d_Idx).Stage)]) ty54 rfl rfl rfl rfl rfl rfl (Box.ex (Box.ex hB19 hE28) hE35) (nb rfl) ?_)))))
   intro w54 hB55 hO56
   have hB55 : Box w54 b15 54 [.string (bs ((p_t.Idxs.getD (((s_l24Idx p_t pn)).toNat) d_Idx).Name)), .int .i64 ((p_t.Idxs.getD (((s_l24Idx p_t pn)).toNat) d_Idx).Col), .int .i64 ((p_t.Idxs.getD (((s_l24Idx p_t pn)).toNat) d_Idx).Stage)] := hB55
   have hO56z := hO56.size
   refine sA rfl (dn (CW.ret (rr rfl (.cons ⟨_, rfl, run_loadN ty54 (cs := [.string (bs ((p_t.Idxs.getD (((s_l24Idx p_t pn)).toNat) d_Idx).Name)), .int .i64 ((p_t.Idxs.getD (((s_l24Idx p_t pn)).toNat) d_Idx).Col), .int .i64 ((p_t.Idxs.getD (((s_l24Idx p_t pn)).toNat) d_Idx).Stage)]) rfl (hB55.cells (n := 3) rfl)⟩ (.cons rfl .nil)) ?_)))
   have hM57 : (s_IdxAt p_t pn) = (((p_t.Idxs.getD (((s_l24Idx p_t pn)).toNat) d_Idx), true)) := by simp only [s_IdxAt, hb36, hb37, cL]
   rw [hM57]
   exact ⟨rfl, (okL.getD o3.2.2 ok_d_Idx _), (Below.only y0 hO56 oM)⟩
 ·refine sz rfl rfl (not_f hb36) (sz rfl rfl (not_f hb36) (sd rfl (yl_pick_t rfl rfl (not_f hb36) rfl (dn (CW.cond_t rfl rfl (cR (sd rfl (yl_build (cs := [.string (bs (([] : Str))), .int .i64 (0), .int .i64 (0)]) rfl opvs_nil (by kernel_rfl) ?_))))))))
  refine SeqR.u rfl rfl (yl_store (vs := [.string (bs (([] : Str))), .int .i64 (0), .int .i64 (0)]) ty54 rfl rfl rfl rfl rfl rfl (Box.ex (Box.ex hB19 hE28) hE35) (nb rfl) ?_)
  intro w65 hB66 hO67
  have hB66 : Box w65 b15 54 [.string (bs (([] : Str))), .int .i64 (0), .int .i64 (0)] := hB66
  have hO67z := hO67.size
  refine sA rfl (dn (CW.ret (tr (rr rfl (.cons ⟨_, rfl, run_loadN ty54 (cs := [.string (bs (([] : Str))), .int .i64 (0), .int .i64 (0)]) rfl (hB66.cells (n := 3) rfl)⟩ (.cons rfl .nil)) ?_))))
  have hM68 : (s_IdxAt p_t pn) = (((⟨([] : Str), 0, 0⟩ : DIdx), false)) := by simp only [s_IdxAt, hb36, cL]
  rw [hM68]
  exact ⟨rfl, (okS.lit rfl), (Below.only y0 hO67 oM)⟩
theorem c_s_l3Bytes {w : World} (p_s : Str) (p_more : Str) (o1 : okS p_s) (o2 : okS p_more) : Cal Tryz.prog 76 #[.string (bs (p_s)), .string (bs (p_more))] w fun v w' => v = .bool ((s_l3Bytes p_s p_more)) ∧ Ex w w' := by
 have hol3 : p_s.length ≤ 1073741824 := o1
 have hol4 : p_more.length ≤ 1073741824 := o2
 refine Cal.of func76 rfl ntmps76 rfl (cR (sA rfl (dn (CW.seq (cR ?_)))))
 refine sA rfl (dn (CW.block (CW.loop (fun m6 L7 w8 => ∃ (k5 : Nat), m6 = p_s.length - k5 ∧ k5 ≤ p_s.length ∧ w.heap.size ≤ w8.heap.size ∧ lkp L7 0 = some (.string (bs (p_s))) ∧ lkp L7 1 = some (.string (bs (p_more))) ∧ lkp L7 5 = some (.int .i64 ((k5 : Int))) ∧ Ex w w8 ∧ loopM (B_s_l3Bytes_0 p_s p_more) (p_s.length - k5) k5 () = loopM (B_s_l3Bytes_0 p_s p_more) (p_s.length - 0) 0 ()) (p_s.length - 0) ?_ ?_)))
 ·exact ⟨0, rfl, oM, Nat.le_refl _, rfl, rfl, rfl, (Ex.refl w), rfl⟩
 ·rintro m9 L10 w11 ⟨k5, rfl, hk12, hsz14, hl15, hl16, hl17, hf18, hI13⟩
  refine CW.sub (Sub.cons hl15 (Sub.cons hl16 (Sub.cons hl17 (Sub.nil _)))) ?_
  have hf18z := Ex.size hf18
  have hbg19 : p_s.length ≤ 1073741824 := o1
  rcases Nat.lt_or_ge k5 p_s.length with hlt20 | hlt20
  ·refine CW.seq (cR (sM rfl (sM rfl (sd rfl (yl_slen un9 (a := p_s) rfl rfl (sd rfl (yl_lss rfl rfl rfl (dn ?_))))))))
   refine CW.cond_t rfl (lt_t hlt20) (CW.skip (tn (CW.seq (CW.block (cR (sM rfl (sM rfl ?_)))))))
   refine sd rfl (yl_sindexN un9 (a := p_s) rfl rfl rfl Bo (sd rfl (yl_geq rfl rfl rfl (sM rfl (bcase (decide (97 ≤ ((p_s.getD k5 0).toNat : Int))) (fun hb21 => ?_) (fun hb21 => ?_))))))
   ·have hb21p := dec_t hb21
    refine sy rfl rfl hb21 (yM rfl rfl (sy rfl rfl hb21 (yM rfl rfl (sy rfl rfl hb21 (yl_sindexN un9 (a := p_s) rfl rfl rfl Bo (sy rfl rfl hb21 (yl_leq rfl rfl rfl (sd rfl (yl_pick_t rfl rfl hb21 rfl (sM rfl (bcase (decide (((p_s.getD k5 0).toNat : Int) ≤ 122)) (fun hb22 => ?_) (fun hb22 => ?_))))))))))))
    ·have hb22p := dec_t hb22
     refine sz rfl rfl hb22 (sz rfl rfl hb22 (sz rfl rfl hb22 (sz rfl rfl hb22 (sz rfl rfl hb22 (sq rfl rfl (sq rfl rfl (sq rfl rfl (sq rfl rfl ?_))))))))
     refine sz rfl rfl hb22 (sd rfl (yl_pick_t rfl rfl hb22 rfl (sA rfl (dn (CW.seq (cR (sA rfl ?_)))))))
     refine dn (CW.block (CW.loop (fun m25 L26 w27 => ∃ (k23 : Nat) (x24 : Bool), m25 = p_more.length - k23 ∧ k23 ≤ p_more.length ∧ w11.heap.size ≤ w27.heap.size ∧ lkp L26 0 = some (.string (bs (p_s))) ∧ lkp L26 1 = some (.string (bs (p_more))) ∧ lkp L26 5 = some (.int .i64 ((k5 : Int))) ∧ lkp L26 6 = some (.bool (x24)) ∧ lkp L26 7 = some (.int .i64 ((k23 : Int))) ∧ lkp L26 19 = some (.string (bs (p_s))) ∧ lkp L26 20 = some (.int .i64 ((k5 : Int))) ∧ lkp L26 21 = some (.int .u8 (((p_s.getD k5 0).toNat : Int))) ∧ lkp L26 22 = some (.bool (decide (((p_s.getD k5 0).toNat : Int) ≤ 122))) ∧ lkp L26 25 = some (undef) ∧ lkp L26 26 = some (undef) ∧ lkp L26 27 = some (undef) ∧ lkp L26 28 = some (undef) ∧ lkp L26 29 = some (undef) ∧ lkp L26 30 = some (undef) ∧ lkp L26 31 = some (undef) ∧ lkp L26 32 = some (undef) ∧ lkp L26 33 = some (undef) ∧ lkp L26 34 = some (undef) ∧ Ex w w27 ∧ loopM (B_s_l3Bytes_1 p_s p_more k5) (p_more.length - k23) k23 (x24) = loopM (B_s_l3Bytes_1 p_s p_more k5) (p_more.length - 0) 0 (true)) (p_more.length - 0) ?_ ?_))
     ·exact ⟨0, true, rfl, oM, Nat.le_refl _, rfl, rfl, rfl, rfl, rfl, rfl, rfl, rfl, rfl, rfl, rfl, rfl, rfl, rfl, rfl, rfl, rfl, rfl, rfl, hf18, rfl⟩
     ·rintro m28 L29 w30 ⟨k23, x24, rfl, hk31, hsz33, hl34, hl35, hl36, hl37, hl38, hl39, hl40, hl41, hl42, hl43, hl44, hl45, hl46, hl47, hl48, hl49, hl50, hl51, hl52, hf53, hI32⟩
      refine CW.sub (Sub.cons hl34 (Sub.cons hl35 (Sub.cons hl36 (Sub.cons hl37 (Sub.cons hl38 (Sub.cons hl39 (Sub.cons hl40 (Sub.cons hl41 (Sub.cons hl42 (Sub.cons hl43 (Sub.cons hl44 (Sub.cons hl45 (Sub.cons hl46 (Sub.cons hl47 (Sub.cons hl48 (Sub.cons hl49 (Sub.cons hl50 (Sub.cons hl51 (Sub.cons hl52 (Sub.nil _)))))))))))))))))))) ?_
      have hf53z := Ex.size hf53
      have hbg54 : p_more.length ≤ 1073741824 := o2
      rcases Nat.lt_or_ge k23 p_more.length with hlt55 | hlt55
      ·refine CW.seq (cR (sM rfl (sM rfl (sd rfl (yl_slen un9 (a := p_more) rfl rfl (sd rfl (yl_lss rfl rfl rfl (dn ?_))))))))
       refine CW.cond_t rfl (lt_t hlt55) (CW.skip (tn (CW.seq (CW.block (bcase (x24) (fun hb56 => ?_) (fun hb56 => ?_))))))
       ·refine drI 11 [.bool (x24), .bool (x24), undef, undef, undef, undef, undef, undef, undef, .bool (true), .bool (true)] Tryz.follows rfl ⟨?_, ?_, ?_, ?_, ?_, ?_, ?_, ?_, ?_, ?_, ?_, trivial⟩ ?_
        ·exact oI rfl fun h => yM rfl (h.old 6 _ rfl rfl) kI
        ·exact oI rfl fun h => yM rfl (h.dt 0 42 rfl rfl rfl) kI
        ·exact oS rfl rfl rfl rfl rfl hb56
        ·exact oS rfl rfl rfl rfl rfl hb56
        ·exact oS rfl rfl rfl rfl rfl hb56
        ·exact oS rfl rfl rfl rfl rfl hb56
        ·exact oS rfl rfl rfl rfl rfl hb56
        ·exact oS rfl rfl rfl rfl rfl hb56
        ·exact oS rfl rfl rfl rfl rfl hb56
        ·exact oI rfl fun h => yl_pick_t rfl (h.dt 1 43 rfl rfl rfl) hb56 rfl kI
        ·exact oI rfl fun h => yA rfl (h.dt 9 51 rfl rfl rfl) kI
        ·intro fl116 fh117 L113 w114 hp115
         have hE118 := hp115.ex
         have hE118z := Ex.size hE118
         refine SeqR.done (bn (tn (CW.sub (sC 0 (hp115.old 0 _ rfl rfl) (sC 1 (hp115.old 1 _ rfl rfl) (sC 5 (hp115.old 5 _ rfl rfl) (sC 6 (hp115.nt 10 6 rfl rfl rfl) (sC 7 (hp115.old 7 _ rfl rfl) (sC 19 (hp115.old 19 _ rfl rfl) (sC 20 (hp115.old 20 _ rfl rfl) (sC 21 (hp115.old 21 _ rfl rfl) (sC 22 (hp115.old 22 _ rfl rfl) (sC 25 (hp115.old 25 _ rfl rfl) (sC 26 (hp115.old 26 _ rfl rfl) (sC 27 (hp115.old 27 _ rfl rfl) (sC 28 (hp115.old 28 _ rfl rfl) (sC 29 (hp115.old 29 _ rfl rfl) (sC 30 (hp115.old 30 _ rfl rfl) (sC 31 (hp115.old 31 _ rfl rfl) (sC 32 (hp115.old 32 _ rfl rfl) (sC 33 (hp115.old 33 _ rfl rfl) (sC 34 (hp115.old 34 _ rfl rfl) (sC 44 (hp115.nt 2 44 rfl rfl rfl) (sC 45 (hp115.nt 3 45 rfl rfl rfl) (sC 46 (hp115.nt 4 46 rfl rfl rfl) (sC 47 (hp115.nt 5 47 rfl rfl rfl) (sC 48 (hp115.nt 6 48 rfl rfl rfl) (sC 49 (hp115.nt 7 49 rfl rfl rfl) (sC 50 (hp115.nt 8 50 rfl rfl rfl) (Sub.nil _))))))))))))))))))))))))))) (CW.region (sM rfl (sd rfl (yl_inc rfl rfl rfl oM (sA rfl (SeqR.done ?_)))))))))
         refine tn ?_
         have hB145 : B_s_l3Bytes_1 p_s p_more k5 k23 (x24) = .cont (true) := by simp only [B_s_l3Bytes_1, hb21, hb22, hb56, cL]
         exact ⟨p_more.length - (k23 + 1), oM, k23 + 1, true, rfl, hlt55, oM, rfl, rfl, rfl, rfl, rfl, rfl, rfl, rfl, rfl, rfl, rfl, rfl, rfl, rfl, rfl, rfl, rfl, rfl, rfl, (Ex.trans hf53 hE118), (loopM.cont hlt55 hB145).symm.trans hI32⟩
       ·refine drI 11 [.bool (x24), .bool (x24), .string (bs (p_s)), .int .i64 ((k5 : Int)), .int .u8 (((p_s.getD k5 0).toNat : Int)), .string (bs (p_more)), .int .i64 ((k23 : Int)), .int .u8 (((p_more.getD k23 0).toNat : Int)), .bool (decide (((p_s.getD k5 0).toNat : Int) = ((p_more.getD k23 0).toNat : Int))), .bool (decide (((p_s.getD k5 0).toNat : Int) = ((p_more.getD k23 0).toNat : Int))), .bool (decide (((p_s.getD k5 0).toNat : Int) = ((p_more.getD k23 0).toNat : Int)))] Tryz.follows rfl ⟨?_, ?_, ?_, ?_, ?_, ?_, ?_, ?_, ?_, ?_, ?_, trivial⟩ ?_
        ·exact oI rfl fun h => yM rfl (h.old 6 _ rfl rfl) kI
        ·exact oI rfl fun h => yM rfl (h.dt 0 42 rfl rfl rfl) kI
        ·exact oW rfl rfl rfl rfl hb56 fun h => yM rfl (h.old 0 _ rfl rfl) kI
        ·exact oW rfl rfl rfl rfl hb56 fun h => yM rfl (h.old 5 _ rfl rfl) kI
        ·intro L169 w170 hi171
         have hE172 := hi171.ex
         have hE172z := Ex.size hE172
         exact OpR.want rfl rfl (hi171.dt 1 43 rfl rfl rfl) hb56 (Yl.sameI (yl_sindexN un9 (a := p_s) rfl (hi171.dt 2 44 rfl rfl rfl) (hi171.dt 3 45 rfl rfl rfl) Bo kI))
        ·exact oW rfl rfl rfl rfl hb56 fun h => yM rfl (h.old 1 _ rfl rfl) kI
        ·exact oW rfl rfl rfl rfl hb56 fun h => yM rfl (h.old 7 _ rfl rfl) kI
        ·intro L188 w189 hi190
         have hE191 := hi190.ex
         have hE191z := Ex.size hE191
         exact OpR.want rfl rfl (hi190.dt 1 43 rfl rfl rfl) hb56 (Yl.sameI (yl_sindexN un9 (a := p_more) rfl (hi190.dt 5 47 rfl rfl rfl) (hi190.dt 6 48 rfl rfl rfl) Bo kI))
        ·exact oW rfl rfl rfl rfl hb56 fun h => yl_eql rfl (h.dt 4 46 rfl rfl rfl) (h.dt 7 49 rfl rfl rfl) kI
        ·exact oI rfl fun h => yl_pick_f rfl (h.dt 1 43 rfl rfl rfl) hb56 (h.dt 8 50 rfl rfl rfl) kI
        ·exact oI rfl fun h => yA rfl (h.dt 9 51 rfl rfl rfl) kI
        ·intro fl216 fh217 L213 w214 hp215
         have hE218 := hp215.ex
         have hE218z := Ex.size hE218
         refine SeqR.done (bn (tn (CW.sub (sC 0 (hp215.old 0 _ rfl rfl) (sC 1 (hp215.old 1 _ rfl rfl) (sC 5 (hp215.old 5 _ rfl rfl) (sC 6 (hp215.nt 10 6 rfl rfl rfl) (sC 7 (hp215.old 7 _ rfl rfl) (sC 19 (hp215.old 19 _ rfl rfl) (sC 20 (hp215.old 20 _ rfl rfl) (sC 21 (hp215.old 21 _ rfl rfl) (sC 22 (hp215.old 22 _ rfl rfl) (sC 25 (hp215.old 25 _ rfl rfl) (sC 26 (hp215.old 26 _ rfl rfl) (sC 27 (hp215.old 27 _ rfl rfl) (sC 28 (hp215.old 28 _ rfl rfl) (sC 29 (hp215.old 29 _ rfl rfl) (sC 30 (hp215.old 30 _ rfl rfl) (sC 31 (hp215.old 31 _ rfl rfl) (sC 32 (hp215.old 32 _ rfl rfl) (sC 33 (hp215.old 33 _ rfl rfl) (sC 34 (hp215.old 34 _ rfl rfl) (sC 44 (hp215.nt 2 44 rfl rfl rfl) (sC 45 (hp215.nt 3 45 rfl rfl rfl) (sC 46 (hp215.nt 4 46 rfl rfl rfl) (sC 47 (hp215.nt 5 47 rfl rfl rfl) (sC 48 (hp215.nt 6 48 rfl rfl rfl) (sC 49 (hp215.nt 7 49 rfl rfl rfl) (sC 50 (hp215.nt 8 50 rfl rfl rfl) (Sub.nil _))))))))))))))))))))))))))) (CW.region (sM rfl (sd rfl (yl_inc rfl rfl rfl oM (sA rfl (SeqR.done ?_)))))))))
         refine tn ?_
         have hB245 : B_s_l3Bytes_1 p_s p_more k5 k23 (x24) = .cont (decide (((p_s.getD k5 0).toNat : Int) = ((p_more.getD k23 0).toNat : Int))) := by simp only [B_s_l3Bytes_1, hb21, hb22, hb56, cL]
         exact ⟨p_more.length - (k23 + 1), oM, k23 + 1, decide (((p_s.getD k5 0).toNat : Int) = ((p_more.getD k23 0).toNat : Int)), rfl, hlt55, oM, rfl, rfl, rfl, rfl, rfl, rfl, rfl, rfl, rfl, rfl, rfl, rfl, rfl, rfl, rfl, rfl, rfl, rfl, rfl, (Ex.trans hf53 hE218), (loopM.cont hlt55 hB245).symm.trans hI32⟩
      ·refine CW.seq (cR (sM rfl (sM rfl (sd rfl (yl_slen un9 (a := p_more) rfl rfl (sd rfl (yl_lss rfl rfl rfl (dn ?_))))))))
       refine CW.cond_f rfl (lt_f hlt55) (CW.exit (tx (tx ?_)))
       have hL247 : loopM (B_s_l3Bytes_1 p_s p_more k5) (p_more.length - 0) 0 (true) = .done (x24) := hI32.symm.trans (loopM.stop hlt55)
       refine bx (tn (cR (sM rfl (sd rfl (yl_not rfl rfl (dn (bcase (x24) (fun hb248 => ?_) (fun hb248 => ?_))))))))
       ·refine CW.cond_f rfl (not_t hb248) (CW.skip (bn (tn (CW.region (sM rfl (sd rfl (yl_inc rfl rfl rfl oM (sA rfl (SeqR.done ?_)))))))))
        refine tn ?_
        have hB249 : B_s_l3Bytes_0 p_s p_more k5 () = .cont () := by simp only [B_s_l3Bytes_0, hb21, hb22, hb248, hL247, cL]
        exact ⟨p_s.length - (k5 + 1), oM, k5 + 1, rfl, hlt20, oM, rfl, rfl, rfl, hf53, (loopM.cont hlt20 hB249).symm.trans hI13⟩
       ·refine CW.cond_t rfl (not_f hb248) (cR (sA rfl (dn (CW.ret (br (tr ?_))))))
        refine tr ?_
        have hB251 : B_s_l3Bytes_0 p_s p_more k5 () = .ret false := by simp only [B_s_l3Bytes_0, hb21, hb22, hb248, hL247, cL]
        have hL250 : loopM (B_s_l3Bytes_0 p_s p_more) (p_s.length - 0) 0 () = .ret false := hI13.symm.trans (loopM.ret hlt20 hB251)
        refine br (tr (rr rfl (.cons rfl .nil) ?_))
        have hM252 : (s_l3Bytes p_s p_more) = (false) := by simp only [s_l3Bytes, hb21, hb22, hb248, hL247, hL250, cL]
        rw [hM252]
        exact ⟨rfl, hf53⟩
    ·have hb22p := dec_f hb22
     refine sy rfl rfl hb22 (yM rfl rfl (sy rfl rfl hb22 (yM rfl rfl (sy rfl rfl hb22 (yl_sindexN un9 (a := p_s) rfl rfl rfl Bo (sy rfl rfl hb22 (yl_geq rfl rfl rfl (sy rfl rfl hb22 (yM rfl rfl (bcase (decide (48 ≤ ((p_s.getD k5 0).toNat : Int))) (fun hb253 => ?_) (fun hb253 => ?_)))))))))))
     ·have hb253p := dec_t hb253
      refine sy rfl rfl hb253 (yM rfl rfl (sy rfl rfl hb253 (yM rfl rfl (sy rfl rfl hb253 (yl_sindexN un9 (a := p_s) rfl rfl rfl Bo (sy rfl rfl hb253 (yl_leq rfl rfl rfl (sy rfl rfl hb22 (yl_pick_t rfl rfl hb253 rfl (sd rfl (yl_pick_f rfl rfl hb22 rfl (sA rfl (dn ?_)))))))))))))
      refine CW.seq (cR (sA rfl (dn (CW.block (CW.loop (fun m256 L257 w258 => ∃ (k254 : Nat) (x255 : Bool), m256 = p_more.length - k254 ∧ k254 ≤ p_more.length ∧ w11.heap.size ≤ w258.heap.size ∧ lkp L257 0 = some (.string (bs (p_s))) ∧ lkp L257 1 = some (.string (bs (p_more))) ∧ lkp L257 5 = some (.int .i64 ((k5 : Int))) ∧ lkp L257 6 = some (.bool (x255)) ∧ lkp L257 7 = some (.int .i64 ((k254 : Int))) ∧ lkp L257 19 = some (.string (bs (p_s))) ∧ lkp L257 20 = some (.int .i64 ((k5 : Int))) ∧ lkp L257 21 = some (.int .u8 (((p_s.getD k5 0).toNat : Int))) ∧ lkp L257 22 = some (.bool (decide (((p_s.getD k5 0).toNat : Int) ≤ 122))) ∧ lkp L257 25 = some (.string (bs (p_s))) ∧ lkp L257 26 = some (.int .i64 ((k5 : Int))) ∧ lkp L257 27 = some (.int .u8 (((p_s.getD k5 0).toNat : Int))) ∧ lkp L257 28 = some (.bool (decide (48 ≤ ((p_s.getD k5 0).toNat : Int)))) ∧ lkp L257 29 = some (.bool (decide (48 ≤ ((p_s.getD k5 0).toNat : Int)))) ∧ lkp L257 30 = some (.string (bs (p_s))) ∧ lkp L257 31 = some (.int .i64 ((k5 : Int))) ∧ lkp L257 32 = some (.int .u8 (((p_s.getD k5 0).toNat : Int))) ∧ lkp L257 33 = some (.bool (decide (((p_s.getD k5 0).toNat : Int) ≤ 57))) ∧ lkp L257 34 = some (.bool (decide (((p_s.getD k5 0).toNat : Int) ≤ 57))) ∧ Ex w w258 ∧ loopM (B_s_l3Bytes_1 p_s p_more k5) (p_more.length - k254) k254 (x255) = loopM (B_s_l3Bytes_1 p_s p_more k5) (p_more.length - 0) 0 (decide (((p_s.getD k5 0).toNat : Int) ≤ 57))) (p_more.length - 0) ?_ ?_)))))
      ·exact ⟨0, decide (((p_s.getD k5 0).toNat : Int) ≤ 57), rfl, oM, Nat.le_refl _, rfl, rfl, rfl, rfl, rfl, rfl, rfl, rfl, rfl, rfl, rfl, rfl, rfl, rfl, rfl, rfl, rfl, rfl, rfl, hf18, rfl⟩
      ·rintro m259 L260 w261 ⟨k254, x255, rfl, hk262, hsz264, hl265, hl266, hl267, hl268, hl269, hl270, hl271, hl272, hl273, hl274, hl275, hl276, hl277, hl278, hl279, hl280, hl281, hl282, hl283, hf284, hI263⟩
       refine CW.sub (Sub.cons hl265 (Sub.cons hl266 (Sub.cons hl267 (Sub.cons hl268 (Sub.cons hl269 (Sub.cons hl270 (Sub.cons hl271 (Sub.cons hl272 (Sub.cons hl273 (Sub.cons hl274 (Sub.cons hl275 (Sub.cons hl276 (Sub.cons hl277 (Sub.cons hl278 (Sub.cons hl279 (Sub.cons hl280 (Sub.cons hl281 (Sub.cons hl282 (Sub.cons hl283 (Sub.nil _)))))))))))))))))))) ?_
       have hf284z := Ex.size hf284
       have hbg285 : p_more.length ≤ 1073741824 := o2
       rcases Nat.lt_or_ge k254 p_more.length with hlt286 | hlt286
       ·refine CW.seq (cR (sM rfl (sM rfl (sd rfl (yl_slen un9 (a := p_more) rfl rfl (sd rfl (yl_lss rfl rfl rfl (dn ?_))))))))
        refine CW.cond_t rfl (lt_t hlt286) (CW.skip (tn (CW.seq (CW.block (bcase (x255) (fun hb287 => ?_) (fun hb287 => ?_))))))
        ·refine drI 11 [.bool (x255), .bool (x255), undef, undef, undef, undef, undef, undef, undef, .bool (true), .bool (true)] Tryz.follows rfl ⟨?_, ?_, ?_, ?_, ?_, ?_, ?_, ?_, ?_, ?_, ?_, trivial⟩ ?_
         ·exact oI rfl fun h => yM rfl (h.old 6 _ rfl rfl) kI
         ·exact oI rfl fun h => yM rfl (h.dt 0 42 rfl rfl rfl) kI
         ·exact oS rfl rfl rfl rfl rfl hb287
         ·exact oS rfl rfl rfl rfl rfl hb287
         ·exact oS rfl rfl rfl rfl rfl hb287
         ·exact oS rfl rfl rfl rfl rfl hb287
         ·exact oS rfl rfl rfl rfl rfl hb287
         ·exact oS rfl rfl rfl rfl rfl hb287
         ·exact oS rfl rfl rfl rfl rfl hb287
         ·exact oI rfl fun h => yl_pick_t rfl (h.dt 1 43 rfl rfl rfl) hb287 rfl kI
         ·exact oI rfl fun h => yA rfl (h.dt 9 51 rfl rfl rfl) kI
         ·intro fl347 fh348 L344 w345 hp346
          have hE349 := hp346.ex
          have hE349z := Ex.size hE349
          refine SeqR.done (bn (tn (CW.sub (sC 0 (hp346.old 0 _ rfl rfl) (sC 1 (hp346.old 1 _ rfl rfl) (sC 5 (hp346.old 5 _ rfl rfl) (sC 6 (hp346.nt 10 6 rfl rfl rfl) (sC 7 (hp346.old 7 _ rfl rfl) (sC 19 (hp346.old 19 _ rfl rfl) (sC 20 (hp346.old 20 _ rfl rfl) (sC 21 (hp346.old 21 _ rfl rfl) (sC 22 (hp346.old 22 _ rfl rfl) (sC 25 (hp346.old 25 _ rfl rfl) (sC 26 (hp346.old 26 _ rfl rfl) (sC 27 (hp346.old 27 _ rfl rfl) (sC 28 (hp346.old 28 _ rfl rfl) (sC 29 (hp346.old 29 _ rfl rfl) (sC 30 (hp346.old 30 _ rfl rfl) (sC 31 (hp346.old 31 _ rfl rfl) (sC 32 (hp346.old 32 _ rfl rfl) (sC 33 (hp346.old 33 _ rfl rfl) (sC 34 (hp346.old 34 _ rfl rfl) (sC 44 (hp346.nt 2 44 rfl rfl rfl) (sC 45 (hp346.nt 3 45 rfl rfl rfl) (sC 46 (hp346.nt 4 46 rfl rfl rfl) (sC 47 (hp346.nt 5 47 rfl rfl rfl) (sC 48 (hp346.nt 6 48 rfl rfl rfl) (sC 49 (hp346.nt 7 49 rfl rfl rfl) (sC 50 (hp346.nt 8 50 rfl rfl rfl) (Sub.nil _))))))))))))))))))))))))))) (CW.region (sM rfl (sd rfl (yl_inc rfl rfl rfl oM (sA rfl (SeqR.done ?_)))))))))
          refine tn ?_
          have hB376 : B_s_l3Bytes_1 p_s p_more k5 k254 (x255) = .cont (true) := by simp only [B_s_l3Bytes_1, hb21, hb22, hb253, hb287, cL]
          exact ⟨p_more.length - (k254 + 1), oM, k254 + 1, true, rfl, hlt286, oM, rfl, rfl, rfl, rfl, rfl, rfl, rfl, rfl, rfl, rfl, rfl, rfl, rfl, rfl, rfl, rfl, rfl, rfl, rfl, (Ex.trans hf284 hE349), (loopM.cont hlt286 hB376).symm.trans hI263⟩
        ·refine drI 11 [.bool (x255), .bool (x255), .string (bs (p_s)), .int .i64 ((k5 : Int)), .int .u8 (((p_s.getD k5 0).toNat : Int)), .string (bs (p_more)), .int .i64 ((k254 : Int)), .int .u8 (((p_more.getD k254 0).toNat : Int)), .bool (decide (((p_s.getD k5 0).toNat : Int) = ((p_more.getD k254 0).toNat : Int))), .bool (decide (((p_s.getD k5 0).toNat : Int) = ((p_more.getD k254 0).toNat : Int))), .bool (decide (((p_s.getD k5 0).toNat : Int) = ((p_more.getD k254 0).toNat : Int)))] Tryz.follows rfl ⟨?_, ?_, ?_, ?_, ?_, ?_, ?_, ?_, ?_, ?_, ?_, trivial⟩ ?_
         ·exact oI rfl fun h => yM rfl (h.old 6 _ rfl rfl) kI
         ·exact oI rfl fun h => yM rfl (h.dt 0 42 rfl rfl rfl) kI
         ·exact oW rfl rfl rfl rfl hb287 fun h => yM rfl (h.old 0 _ rfl rfl) kI
         ·exact oW rfl rfl rfl rfl hb287 fun h => yM rfl (h.old 5 _ rfl rfl) kI
         ·intro L400 w401 hi402
          have hE403 := hi402.ex
          have hE403z := Ex.size hE403
          exact OpR.want rfl rfl (hi402.dt 1 43 rfl rfl rfl) hb287 (Yl.sameI (yl_sindexN un9 (a := p_s) rfl (hi402.dt 2 44 rfl rfl rfl) (hi402.dt 3 45 rfl rfl rfl) Bo kI))
         ·exact oW rfl rfl rfl rfl hb287 fun h => yM rfl (h.old 1 _ rfl rfl) kI
         ·exact oW rfl rfl rfl rfl hb287 fun h => yM rfl (h.old 7 _ rfl rfl) kI
         ·intro L419 w420 hi421
          have hE422 := hi421.ex
          have hE422z := Ex.size hE422
          exact OpR.want rfl rfl (hi421.dt 1 43 rfl rfl rfl) hb287 (Yl.sameI (yl_sindexN un9 (a := p_more) rfl (hi421.dt 5 47 rfl rfl rfl) (hi421.dt 6 48 rfl rfl rfl) Bo kI))
         ·exact oW rfl rfl rfl rfl hb287 fun h => yl_eql rfl (h.dt 4 46 rfl rfl rfl) (h.dt 7 49 rfl rfl rfl) kI
         ·exact oI rfl fun h => yl_pick_f rfl (h.dt 1 43 rfl rfl rfl) hb287 (h.dt 8 50 rfl rfl rfl) kI
         ·exact oI rfl fun h => yA rfl (h.dt 9 51 rfl rfl rfl) kI
         ·intro fl447 fh448 L444 w445 hp446
          have hE449 := hp446.ex
          have hE449z := Ex.size hE449
          refine SeqR.done (bn (tn (CW.sub (sC 0 (hp446.old 0 _ rfl rfl) (sC 1 (hp446.old 1 _ rfl rfl) (sC 5 (hp446.old 5 _ rfl rfl) (sC 6 (hp446.nt 10 6 rfl rfl rfl) (sC 7 (hp446.old 7 _ rfl rfl) (sC 19 (hp446.old 19 _ rfl rfl) (sC 20 (hp446.old 20 _ rfl rfl) (sC 21 (hp446.old 21 _ rfl rfl) (sC 22 (hp446.old 22 _ rfl rfl) (sC 25 (hp446.old 25 _ rfl rfl) (sC 26 (hp446.old 26 _ rfl rfl) (sC 27 (hp446.old 27 _ rfl rfl) (sC 28 (hp446.old 28 _ rfl rfl) (sC 29 (hp446.old 29 _ rfl rfl) (sC 30 (hp446.old 30 _ rfl rfl) (sC 31 (hp446.old 31 _ rfl rfl) (sC 32 (hp446.old 32 _ rfl rfl) (sC 33 (hp446.old 33 _ rfl rfl) (sC 34 (hp446.old 34 _ rfl rfl) (sC 44 (hp446.nt 2 44 rfl rfl rfl) (sC 45 (hp446.nt 3 45 rfl rfl rfl) (sC 46 (hp446.nt 4 46 rfl rfl rfl) (sC 47 (hp446.nt 5 47 rfl rfl rfl) (sC 48 (hp446.nt 6 48 rfl rfl rfl) (sC 49 (hp446.nt 7 49 rfl rfl rfl) (sC 50 (hp446.nt 8 50 rfl rfl rfl) (Sub.nil _))))))))))))))))))))))))))) (CW.region (sM rfl (sd rfl (yl_inc rfl rfl rfl oM (sA rfl (SeqR.done ?_)))))))))
          refine tn ?_
          have hB476 : B_s_l3Bytes_1 p_s p_more k5 k254 (x255) = .cont (decide (((p_s.getD k5 0).toNat : Int) = ((p_more.getD k254 0).toNat : Int))) := by simp only [B_s_l3Bytes_1, hb21, hb22, hb253, hb287, cL]
          exact ⟨p_more.length - (k254 + 1), oM, k254 + 1, decide (((p_s.getD k5 0).toNat : Int) = ((p_more.getD k254 0).toNat : Int)), rfl, hlt286, oM, rfl, rfl, rfl, rfl, rfl, rfl, rfl, rfl, rfl, rfl, rfl, rfl, rfl, rfl, rfl, rfl, rfl, rfl, rfl, (Ex.trans hf284 hE449), (loopM.cont hlt286 hB476).symm.trans hI263⟩
       ·refine CW.seq (cR (sM rfl (sM rfl (sd rfl (yl_slen un9 (a := p_more) rfl rfl (sd rfl (yl_lss rfl rfl rfl (dn ?_))))))))
        refine CW.cond_f rfl (lt_f hlt286) (CW.exit (tx (tx ?_)))
        have hL478 : loopM (B_s_l3Bytes_1 p_s p_more k5) (p_more.length - 0) 0 (decide (((p_s.getD k5 0).toNat : Int) ≤ 57)) = .done (x255) := hI263.symm.trans (loopM.stop hlt286)
        refine bx (tn (cR (sM rfl (sd rfl (yl_not rfl rfl (dn (bcase (x255) (fun hb479 => ?_) (fun hb479 => ?_))))))))
        ·refine CW.cond_f rfl (not_t hb479) (CW.skip (bn (tn (CW.region (sM rfl (sd rfl (yl_inc rfl rfl rfl oM (sA rfl (SeqR.done ?_)))))))))
         refine tn ?_
         have hB480 : B_s_l3Bytes_0 p_s p_more k5 () = .cont () := by simp only [B_s_l3Bytes_0, hb21, hb22, hb253, hb479, hL478, cL]
         exact ⟨p_s.length - (k5 + 1), oM, k5 + 1, rfl, hlt20, oM, rfl, rfl, rfl, hf284, (loopM.cont hlt20 hB480).symm.trans hI13⟩
        ·refine CW.cond_t rfl (not_f hb479) (cR (sA rfl (dn (CW.ret (br (tr ?_))))))
         refine tr ?_
         have hB482 : B_s_l3Bytes_0 p_s p_more k5 () = .ret false := by simp only [B_s_l3Bytes_0, hb21, hb22, hb253, hb479, hL478, cL]
         have hL481 : loopM (B_s_l3Bytes_0 p_s p_more) (p_s.length - 0) 0 () = .ret false := hI13.symm.trans (loopM.ret hlt20 hB482)
         refine br (tr (rr rfl (.cons rfl .nil) ?_))
         have hM483 : (s_l3Bytes p_s p_more) = (false) := by simp only [s_l3Bytes, hb21, hb22, hb253, hb479, hL478, hL481, cL]
         rw [hM483]
         exact ⟨rfl, hf284⟩
     ·have hb253p := dec_f hb253
      refine sz rfl rfl hb253 (sz rfl rfl hb253 (sz rfl rfl hb253 (sz rfl rfl hb253 (sy rfl rfl hb22 (yl_pick_f rfl rfl hb253 rfl (sd rfl (yl_pick_f rfl rfl hb22 rfl (sA rfl (dn ?_)))))))))
      refine CW.seq (cR (sA rfl (dn (CW.block (CW.loop (fun m486 L487 w488 => ∃ (k484 : Nat) (x485 : Bool), m486 = p_more.length - k484 ∧ k484 ≤ p_more.length ∧ w11.heap.size ≤ w488.heap.size ∧ lkp L487 0 = some (.string (bs (p_s))) ∧ lkp L487 1 = some (.string (bs (p_more))) ∧ lkp L487 5 = some (.int .i64 ((k5 : Int))) ∧ lkp L487 6 = some (.bool (x485)) ∧ lkp L487 7 = some (.int .i64 ((k484 : Int))) ∧ lkp L487 19 = some (.string (bs (p_s))) ∧ lkp L487 20 = some (.int .i64 ((k5 : Int))) ∧ lkp L487 21 = some (.int .u8 (((p_s.getD k5 0).toNat : Int))) ∧ lkp L487 22 = some (.bool (decide (((p_s.getD k5 0).toNat : Int) ≤ 122))) ∧ lkp L487 25 = some (.string (bs (p_s))) ∧ lkp L487 26 = some (.int .i64 ((k5 : Int))) ∧ lkp L487 27 = some (.int .u8 (((p_s.getD k5 0).toNat : Int))) ∧ lkp L487 28 = some (.bool (decide (48 ≤ ((p_s.getD k5 0).toNat : Int)))) ∧ lkp L487 29 = some (.bool (decide (48 ≤ ((p_s.getD k5 0).toNat : Int)))) ∧ lkp L487 30 = some (undef) ∧ lkp L487 31 = some (undef) ∧ lkp L487 32 = some (undef) ∧ lkp L487 33 = some (undef) ∧ lkp L487 34 = some (.bool (false)) ∧ Ex w w488 ∧ loopM (B_s_l3Bytes_1 p_s p_more k5) (p_more.length - k484) k484 (x485) = loopM (B_s_l3Bytes_1 p_s p_more k5) (p_more.length - 0) 0 (false)) (p_more.length - 0) ?_ ?_)))))
      ·exact ⟨0, false, rfl, oM, Nat.le_refl _, rfl, rfl, rfl, rfl, rfl, rfl, rfl, rfl, rfl, rfl, rfl, rfl, rfl, rfl, rfl, rfl, rfl, rfl, rfl, hf18, rfl⟩
      ·rintro m489 L490 w491 ⟨k484, x485, rfl, hk492, hsz494, hl495, hl496, hl497, hl498, hl499, hl500, hl501, hl502, hl503, hl504, hl505, hl506, hl507, hl508, hl509, hl510, hl511, hl512, hl513, hf514, hI493⟩
       refine CW.sub (Sub.cons hl495 (Sub.cons hl496 (Sub.cons hl497 (Sub.cons hl498 (Sub.cons hl499 (Sub.cons hl500 (Sub.cons hl501 (Sub.cons hl502 (Sub.cons hl503 (Sub.cons hl504 (Sub.cons hl505 (Sub.cons hl506 (Sub.cons hl507 (Sub.cons hl508 (Sub.cons hl509 (Sub.cons hl510 (Sub.cons hl511 (Sub.cons hl512 (Sub.cons hl513 (Sub.nil _)))))))))))))))))))) ?_
       have hf514z := Ex.size hf514
       have hbg515 : p_more.length ≤ 1073741824 := o2
       rcases Nat.lt_or_ge k484 p_more.length with hlt516 | hlt516
       ·refine CW.seq (cR (sM rfl (sM rfl (sd rfl (yl_slen un9 (a := p_more) rfl rfl (sd rfl (yl_lss rfl rfl rfl (dn ?_))))))))
        refine CW.cond_t rfl (lt_t hlt516) (CW.skip (tn (CW.seq (CW.block (bcase (x485) (fun hb517 => ?_) (fun hb517 => ?_))))))
        ·refine drI 11 [.bool (x485), .bool (x485), undef, undef, undef, undef, undef, undef, undef, .bool (true), .bool (true)] Tryz.follows rfl ⟨?_, ?_, ?_, ?_, ?_, ?_, ?_, ?_, ?_, ?_, ?_, trivial⟩ ?_
         ·exact oI rfl fun h => yM rfl (h.old 6 _ rfl rfl) kI
         ·exact oI rfl fun h => yM rfl (h.dt 0 42 rfl rfl rfl) kI
         ·exact oS rfl rfl rfl rfl rfl hb517
         ·exact oS rfl rfl rfl rfl rfl hb517
         ·exact oS rfl rfl rfl rfl rfl hb517
         ·exact oS rfl rfl rfl rfl rfl hb517
         ·exact oS rfl rfl rfl rfl rfl hb517
         ·exact oS rfl rfl rfl rfl rfl hb517
         ·exact oS rfl rfl rfl rfl rfl hb517
         ·exact oI rfl fun h => yl_pick_t rfl (h.dt 1 43 rfl rfl rfl) hb517 rfl kI
         ·exact oI rfl fun h => yA rfl (h.dt 9 51 rfl rfl rfl) kI
         ·intro fl577 fh578 L574 w575 hp576
          have hE579 := hp576.ex
          have hE579z := Ex.size hE579
          refine SeqR.done (bn (tn (CW.sub (sC 0 (hp576.old 0 _ rfl rfl) (sC 1 (hp576.old 1 _ rfl rfl) (sC 5 (hp576.old 5 _ rfl rfl) (sC 6 (hp576.nt 10 6 rfl rfl rfl) (sC 7 (hp576.old 7 _ rfl rfl) (sC 19 (hp576.old 19 _ rfl rfl) (sC 20 (hp576.old 20 _ rfl rfl) (sC 21 (hp576.old 21 _ rfl rfl) (sC 22 (hp576.old 22 _ rfl rfl) (sC 25 (hp576.old 25 _ rfl rfl) (sC 26 (hp576.old 26 _ rfl rfl) (sC 27 (hp576.old 27 _ rfl rfl) (sC 28 (hp576.old 28 _ rfl rfl) (sC 29 (hp576.old 29 _ rfl rfl) (sC 30 (hp576.old 30 _ rfl rfl) (sC 31 (hp576.old 31 _ rfl rfl) (sC 32 (hp576.old 32 _ rfl rfl) (sC 33 (hp576.old 33 _ rfl rfl) (sC 34 (hp576.old 34 _ rfl rfl) (sC 44 (hp576.nt 2 44 rfl rfl rfl) (sC 45 (hp576.nt 3 45 rfl rfl rfl) (sC 46 (hp576.nt 4 46 rfl rfl rfl) (sC 47 (hp576.nt 5 47 rfl rfl rfl) (sC 48 (hp576.nt 6 48 rfl rfl rfl) (sC 49 (hp576.nt 7 49 rfl rfl rfl) (sC 50 (hp576.nt 8 50 rfl rfl rfl) (Sub.nil _))))))))))))))))))))))))))) (CW.region (sM rfl (sd rfl (yl_inc rfl rfl rfl oM (sA rfl (SeqR.done ?_)))))))))
          refine tn ?_
          have hB606 : B_s_l3Bytes_1 p_s p_more k5 k484 (x485) = .cont (true) := by simp only [B_s_l3Bytes_1, hb21, hb22, hb253, hb517, cL]
          exact ⟨p_more.length - (k484 + 1), oM, k484 + 1, true, rfl, hlt516, oM, rfl, rfl, rfl, rfl, rfl, rfl, rfl, rfl, rfl, rfl, rfl, rfl, rfl, rfl, rfl, rfl, rfl, rfl, rfl, (Ex.trans hf514 hE579), (loopM.cont hlt516 hB606).symm.trans hI493⟩
        ·refine drI 11 [.bool (x485), .bool (x485), .string (bs (p_s)), .int .i64 ((k5 : Int)), .int .u8 (((p_s.getD k5 0).toNat : Int)), .string (bs (p_more)), .int .i64 ((k484 : Int)), .int .u8 (((p_more.getD k484 0).toNat : Int)), .bool (decide (((p_s.getD k5 0).toNat : Int) = ((p_more.getD k484 0).toNat : Int))), .bool (decide (((p_s.getD k5 0).toNat : Int) = ((p_more.getD k484 0).toNat : Int))), .bool (decide (((p_s.getD k5 0).toNat : Int) = ((p_more.getD k484 0).toNat : Int)))] Tryz.follows rfl ⟨?_, ?_, ?_, ?_, ?_, ?_, ?_, ?_, ?_, ?_, ?_, trivial⟩ ?_
         ·exact oI rfl fun h => yM rfl (h.old 6 _ rfl rfl) kI
         ·exact oI rfl fun h => yM rfl (h.dt 0 42 rfl rfl rfl) kI
         ·exact oW rfl rfl rfl rfl hb517 fun h => yM rfl (h.old 0 _ rfl rfl) kI
         ·exact oW rfl rfl rfl rfl hb517 fun h => yM rfl (h.old 5 _ rfl rfl) kI
         ·intro L630 w631 hi632
          have hE633 := hi632.ex
          have hE633z := Ex.size hE633
          exact OpR.want rfl rfl (hi632.dt 1 43 rfl rfl rfl) hb517 (Yl.sameI (yl_sindexN un9 (a := p_s) rfl (hi632.dt 2 44 rfl rfl rfl) (hi632.dt 3 45 rfl rfl rfl) Bo kI))
         ·exact oW rfl rfl rfl rfl hb517 fun h => yM rfl (h.old 1 _ rfl rfl) kI
         ·exact oW rfl rfl rfl rfl hb517 fun h => yM rfl (h.old 7 _ rfl rfl) kI
         ·intro L649 w650 hi651
          have hE652 := hi651.ex
          have hE652z := Ex.size hE652
          exact OpR.want rfl rfl (hi651.dt 1 43 rfl rfl rfl) hb517 (Yl.sameI (yl_sindexN un9 (a := p_more) rfl (hi651.dt 5 47 rfl rfl rfl) (hi651.dt 6 48 rfl rfl rfl) Bo kI))
         ·exact oW rfl rfl rfl rfl hb517 fun h => yl_eql rfl (h.dt 4 46 rfl rfl rfl) (h.dt 7 49 rfl rfl rfl) kI
         ·exact oI rfl fun h => yl_pick_f rfl (h.dt 1 43 rfl rfl rfl) hb517 (h.dt 8 50 rfl rfl rfl) kI
         ·exact oI rfl fun h => yA rfl (h.dt 9 51 rfl rfl rfl) kI
         ·intro fl677 fh678 L674 w675 hp676
          have hE679 := hp676.ex
          have hE679z := Ex.size hE679
          refine SeqR.done (bn (tn (CW.sub (sC 0 (hp676.old 0 _ rfl rfl) (sC 1 (hp676.old 1 _ rfl rfl) (sC 5 (hp676.old 5 _ rfl rfl) (sC 6 (hp676.nt 10 6 rfl rfl rfl) (sC 7 (hp676.old 7 _ rfl rfl) (sC 19 (hp676.old 19 _ rfl rfl) (sC 20 (hp676.old 20 _ rfl rfl) (sC 21 (hp676.old 21 _ rfl rfl) (sC 22 (hp676.old 22 _ rfl rfl) (sC 25 (hp676.old 25 _ rfl rfl) (sC 26 (hp676.old 26 _ rfl rfl) (sC 27 (hp676.old 27 _ rfl rfl) (sC 28 (hp676.old 28 _ rfl rfl) (sC 29 (hp676.old 29 _ rfl rfl) (sC 30 (hp676.old 30 _ rfl rfl) (sC 31 (hp676.old 31 _ rfl rfl) (sC 32 (hp676.old 32 _ rfl rfl) (sC 33 (hp676.old 33 _ rfl rfl) (sC 34 (hp676.old 34 _ rfl rfl) (sC 44 (hp676.nt 2 44 rfl rfl rfl) (sC 45 (hp676.nt 3 45 rfl rfl rfl) (sC 46 (hp676.nt 4 46 rfl rfl rfl) (sC 47 (hp676.nt 5 47 rfl rfl rfl) (sC 48 (hp676.nt 6 48 rfl rfl rfl) (sC 49 (hp676.nt 7 49 rfl rfl rfl) (sC 50 (hp676.nt 8 50 rfl rfl rfl) (Sub.nil _))))))))))))))))))))))))))) (CW.region (sM rfl (sd rfl (yl_inc rfl rfl rfl oM (sA rfl (SeqR.done ?_)))))))))
          refine tn ?_
          have hB706 : B_s_l3Bytes_1 p_s p_more k5 k484 (x485) = .cont (decide (((p_s.getD k5 0).toNat : Int) = ((p_more.getD k484 0).toNat : Int))) := by simp only [B_s_l3Bytes_1, hb21, hb22, hb253, hb517, cL]
          exact ⟨p_more.length - (k484 + 1), oM, k484 + 1, decide (((p_s.getD k5 0).toNat : Int) = ((p_more.getD k484 0).toNat : Int)), rfl, hlt516, oM, rfl, rfl, rfl, rfl, rfl, rfl, rfl, rfl, rfl, rfl, rfl, rfl, rfl, rfl, rfl, rfl, rfl, rfl, rfl, (Ex.trans hf514 hE679), (loopM.cont hlt516 hB706).symm.trans hI493⟩
       ·refine CW.seq (cR (sM rfl (sM rfl (sd rfl (yl_slen un9 (a := p_more) rfl rfl (sd rfl (yl_lss rfl rfl rfl (dn ?_))))))))
        refine CW.cond_f rfl (lt_f hlt516) (CW.exit (tx (tx ?_)))
        have hL708 : loopM (B_s_l3Bytes_1 p_s p_more k5) (p_more.length - 0) 0 (false) = .done (x485) := hI493.symm.trans (loopM.stop hlt516)
        refine bx (tn (cR (sM rfl (sd rfl (yl_not rfl rfl (dn (bcase (x485) (fun hb709 => ?_) (fun hb709 => ?_))))))))
        ·refine CW.cond_f rfl (not_t hb709) (CW.skip (bn (tn (CW.region (sM rfl (sd rfl (yl_inc rfl rfl rfl oM (sA rfl (SeqR.done ?_)))))))))
         refine tn ?_
         have hB710 : B_s_l3Bytes_0 p_s p_more k5 () = .cont () := by simp only [B_s_l3Bytes_0, hb21, hb22, hb253, hb709, hL708, cL]
         exact ⟨p_s.length - (k5 + 1), oM, k5 + 1, rfl, hlt20, oM, rfl, rfl, rfl, hf514, (loopM.cont hlt20 hB710).symm.trans hI13⟩
        ·refine CW.cond_t rfl (not_f hb709) (cR (sA rfl (dn (CW.ret (br (tr ?_))))))
         refine tr ?_
         have hB712 : B_s_l3Bytes_0 p_s p_more k5 () = .ret false := by simp only [B_s_l3Bytes_0, hb21, hb22, hb253, hb709, hL708, cL]
         have hL711 : loopM (B_s_l3Bytes_0 p_s p_more) (p_s.length - 0) 0 () = .ret false := hI13.symm.trans (loopM.ret hlt20 hB712)
         refine br (tr (rr rfl (.cons rfl .nil) ?_))
         have hM713 : (s_l3Bytes p_s p_more) = (false) := by simp only [s_l3Bytes, hb21, hb22, hb253, hb709, hL708, hL711, cL]
         rw [hM713]
         exact ⟨rfl, hf514⟩
   ·have hb21p := dec_f hb21
    refine sz rfl rfl hb21 (sz rfl rfl hb21 (sz rfl rfl hb21 (sz rfl rfl hb21 (sd rfl (yl_pick_f rfl rfl hb21 rfl (sM rfl (sy rfl rfl rfl (yM rfl rfl (sy rfl rfl rfl (yM rfl rfl (sy rfl rfl rfl (yl_sindexN un9 (a := p_s) rfl rfl rfl Bo ?_))))))))))))
    refine sy rfl rfl rfl (yl_geq rfl rfl rfl (sy rfl rfl rfl (yM rfl rfl (bcase (decide (48 ≤ ((p_s.getD k5 0).toNat : Int))) (fun hb714 => ?_) (fun hb714 => ?_)))))
    ·have hb714p := dec_t hb714
     refine sy rfl rfl hb714 (yM rfl rfl (sy rfl rfl hb714 (yM rfl rfl (sy rfl rfl hb714 (yl_sindexN un9 (a := p_s) rfl rfl rfl Bo (sy rfl rfl hb714 (yl_leq rfl rfl rfl (sy rfl rfl rfl (yl_pick_t rfl rfl hb714 rfl (sd rfl (yl_pick_f rfl rfl rfl rfl (sA rfl (dn ?_)))))))))))))
     refine CW.seq (cR (sA rfl (dn (CW.block (CW.loop (fun m717 L718 w719 => ∃ (k715 : Nat) (x716 : Bool), m717 = p_more.length - k715 ∧ k715 ≤ p_more.length ∧ w11.heap.size ≤ w719.heap.size ∧ lkp L718 0 = some (.string (bs (p_s))) ∧ lkp L718 1 = some (.string (bs (p_more))) ∧ lkp L718 5 = some (.int .i64 ((k5 : Int))) ∧ lkp L718 6 = some (.bool (x716)) ∧ lkp L718 7 = some (.int .i64 ((k715 : Int))) ∧ lkp L718 19 = some (undef) ∧ lkp L718 20 = some (undef) ∧ lkp L718 21 = some (undef) ∧ lkp L718 22 = some (undef) ∧ lkp L718 25 = some (.string (bs (p_s))) ∧ lkp L718 26 = some (.int .i64 ((k5 : Int))) ∧ lkp L718 27 = some (.int .u8 (((p_s.getD k5 0).toNat : Int))) ∧ lkp L718 28 = some (.bool (decide (48 ≤ ((p_s.getD k5 0).toNat : Int)))) ∧ lkp L718 29 = some (.bool (decide (48 ≤ ((p_s.getD k5 0).toNat : Int)))) ∧ lkp L718 30 = some (.string (bs (p_s))) ∧ lkp L718 31 = some (.int .i64 ((k5 : Int))) ∧ lkp L718 32 = some (.int .u8 (((p_s.getD k5 0).toNat : Int))) ∧ lkp L718 33 = some (.bool (decide (((p_s.getD k5 0).toNat : Int) ≤ 57))) ∧ lkp L718 34 = some (.bool (decide (((p_s.getD k5 0).toNat : Int) ≤ 57))) ∧ Ex w w719 ∧ loopM (B_s_l3Bytes_1 p_s p_more k5) (p_more.length - k715) k715 (x716) = loopM (B_s_l3Bytes_1 p_s p_more k5) (p_more.length - 0) 0 (decide (((p_s.getD k5 0).toNat : Int) ≤ 57))) (p_more.length - 0) ?_ ?_)))))
     ·exact ⟨0, decide (((p_s.getD k5 0).toNat : Int) ≤ 57), rfl, oM, Nat.le_refl _, rfl, rfl, rfl, rfl, rfl, rfl, rfl, rfl, rfl, rfl, rfl, rfl, rfl, rfl, rfl, rfl, rfl, rfl, rfl, hf18, rfl⟩
     ·rintro m720 L721 w722 ⟨k715, x716, rfl, hk723, hsz725, hl726, hl727, hl728, hl729, hl730, hl731, hl732, hl733, hl734, hl735, hl736, hl737, hl738, hl739, hl740, hl741, hl742, hl743, hl744, hf745, hI724⟩
      refine CW.sub (Sub.cons hl726 (Sub.cons hl727 (Sub.cons hl728 (Sub.cons hl729 (Sub.cons hl730 (Sub.cons hl731 (Sub.cons hl732 (Sub.cons hl733 (Sub.cons hl734 (Sub.cons hl735 (Sub.cons hl736 (Sub.cons hl737 (Sub.cons hl738 (Sub.cons hl739 (Sub.cons hl740 (Sub.cons hl741 (Sub.cons hl742 (Sub.cons hl743 (Sub.cons hl744 (Sub.nil _)))))))))))))))))))) ?_
      have hf745z := Ex.size hf745
      have hbg746 : p_more.length ≤ 1073741824 := o2
      rcases Nat.lt_or_ge k715 p_more.length with hlt747 | hlt747
      ·refine CW.seq (cR (sM rfl (sM rfl (sd rfl (yl_slen un9 (a := p_more) rfl rfl (sd rfl (yl_lss rfl rfl rfl (dn ?_))))))))
       refine CW.cond_t rfl (lt_t hlt747) (CW.skip (tn (CW.seq (CW.block (bcase (x716) (fun hb748 => ?_) (fun hb748 => ?_))))))
       ·refine drI 11 [.bool (x716), .bool (x716), undef, undef, undef, undef, undef, undef, undef, .bool (true), .bool (true)] Tryz.follows rfl ⟨?_, ?_, ?_, ?_, ?_, ?_, ?_, ?_, ?_, ?_, ?_, trivial⟩ ?_
        ·exact oI rfl fun h => yM rfl (h.old 6 _ rfl rfl) kI
        ·exact oI rfl fun h => yM rfl (h.dt 0 42 rfl rfl rfl) kI
        ·exact oS rfl rfl rfl rfl rfl hb748
        ·exact oS rfl rfl rfl rfl rfl hb748
        ·exact oS rfl rfl rfl rfl rfl hb748
        ·exact oS rfl rfl rfl rfl rfl hb748
        ·exact oS rfl rfl rfl rfl rfl hb748
        ·exact oS rfl rfl rfl rfl rfl hb748
        ·exact oS rfl rfl rfl rfl rfl hb748
        ·exact oI rfl fun h => yl_pick_t rfl (h.dt 1 43 rfl rfl rfl) hb748 rfl kI
        ·exact oI rfl fun h => yA rfl (h.dt 9 51 rfl rfl rfl) kI
        ·intro fl808 fh809 L805 w806 hp807
         have hE810 := hp807.ex
         have hE810z := Ex.size hE810
         refine SeqR.done (bn (tn (CW.sub (sC 0 (hp807.old 0 _ rfl rfl) (sC 1 (hp807.old 1 _ rfl rfl) (sC 5 (hp807.old 5 _ rfl rfl) (sC 6 (hp807.nt 10 6 rfl rfl rfl) (sC 7 (hp807.old 7 _ rfl rfl) (sC 19 (hp807.old 19 _ rfl rfl) (sC 20 (hp807.old 20 _ rfl rfl) (sC 21 (hp807.old 21 _ rfl rfl) (sC 22 (hp807.old 22 _ rfl rfl) (sC 25 (hp807.old 25 _ rfl rfl) (sC 26 (hp807.old 26 _ rfl rfl) (sC 27 (hp807.old 27 _ rfl rfl) (sC 28 (hp807.old 28 _ rfl rfl) (sC 29 (hp807.old 29 _ rfl rfl) (sC 30 (hp807.old 30 _ rfl rfl) (sC 31 (hp807.old 31 _ rfl rfl) (sC 32 (hp807.old 32 _ rfl rfl) (sC 33 (hp807.old 33 _ rfl rfl) (sC 34 (hp807.old 34 _ rfl rfl) (sC 44 (hp807.nt 2 44 rfl rfl rfl) (sC 45 (hp807.nt 3 45 rfl rfl rfl) (sC 46 (hp807.nt 4 46 rfl rfl rfl) (sC 47 (hp807.nt 5 47 rfl rfl rfl) (sC 48 (hp807.nt 6 48 rfl rfl rfl) (sC 49 (hp807.nt 7 49 rfl rfl rfl) (sC 50 (hp807.nt 8 50 rfl rfl rfl) (Sub.nil _))))))))))))))))))))))))))) (CW.region (sM rfl (sd rfl (yl_inc rfl rfl rfl oM (sA rfl (SeqR.done ?_)))))))))
         refine tn ?_
         have hB837 : B_s_l3Bytes_1 p_s p_more k5 k715 (x716) = .cont (true) := by simp only [B_s_l3Bytes_1, hb21, hb714, hb748, cL]
         exact ⟨p_more.length - (k715 + 1), oM, k715 + 1, true, rfl, hlt747, oM, rfl, rfl, rfl, rfl, rfl, rfl, rfl, rfl, rfl, rfl, rfl, rfl, rfl, rfl, rfl, rfl, rfl, rfl, rfl, (Ex.trans hf745 hE810), (loopM.cont hlt747 hB837).symm.trans hI724⟩
       ·refine drI 11 [.bool (x716), .bool (x716), .string (bs (p_s)), .int .i64 ((k5 : Int)), .int .u8 (((p_s.getD k5 0).toNat : Int)), .string (bs (p_more)), .int .i64 ((k715 : Int)), .int .u8 (((p_more.getD k715 0).toNat : Int)), .bool (decide (((p_s.getD k5 0).toNat : Int) = ((p_more.getD k715 0).toNat : Int))), .bool (decide (((p_s.getD k5 0).toNat : Int) = ((p_more.getD k715 0).toNat : Int))), .bool (decide (((p_s.getD k5 0).toNat : Int) = ((p_more.getD k715 0).toNat : Int)))] Tryz.follows rfl ⟨?_, ?_, ?_, ?_, ?_, ?_, ?_, ?_, ?_, ?_, ?_, trivial⟩ ?_
        ·exact oI rfl fun h => yM rfl (h.old 6 _ rfl rfl) kI
        ·exact oI rfl fun h => yM rfl (h.dt 0 42 rfl rfl rfl) kI
        ·exact oW rfl rfl rfl rfl hb748 fun h => yM rfl (h.old 0 _ rfl rfl) kI
        ·exact oW rfl rfl rfl rfl hb748 fun h => yM rfl (h.old 5 _ rfl rfl) kI
        ·intro L861 w862 hi863
         have hE864 := hi863.ex
         have hE864z := Ex.size hE864
         exact OpR.want rfl rfl (hi863.dt 1 43 rfl rfl rfl) hb748 (Yl.sameI (yl_sindexN un9 (a := p_s) rfl (hi863.dt 2 44 rfl rfl rfl) (hi863.dt 3 45 rfl rfl rfl) Bo kI))
        ·exact oW rfl rfl rfl rfl hb748 fun h => yM rfl (h.old 1 _ rfl rfl) kI
        ·exact oW rfl rfl rfl rfl hb748 fun h => yM rfl (h.old 7 _ rfl rfl) kI
        ·intro L880 w881 hi882
         have hE883 := hi882.ex
         have hE883z := Ex.size hE883
         exact OpR.want rfl rfl (hi882.dt 1 43 rfl rfl rfl) hb748 (Yl.sameI (yl_sindexN un9 (a := p_more) rfl (hi882.dt 5 47 rfl rfl rfl) (hi882.dt 6 48 rfl rfl rfl) Bo kI))
        ·exact oW rfl rfl rfl rfl hb748 fun h => yl_eql rfl (h.dt 4 46 rfl rfl rfl) (h.dt 7 49 rfl rfl rfl) kI
        ·exact oI rfl fun h => yl_pick_f rfl (h.dt 1 43 rfl rfl rfl) hb748 (h.dt 8 50 rfl rfl rfl) kI
        ·exact oI rfl fun h => yA rfl (h.dt 9 51 rfl rfl rfl) kI
        ·intro fl908 fh909 L905 w906 hp907
         have hE910 := hp907.ex
         have hE910z := Ex.size hE910
         refine SeqR.done (bn (tn (CW.sub (sC 0 (hp907.old 0 _ rfl rfl) (sC 1 (hp907.old 1 _ rfl rfl) (sC 5 (hp907.old 5 _ rfl rfl) (sC 6 (hp907.nt 10 6 rfl rfl rfl) (sC 7 (hp907.old 7 _ rfl rfl) (sC 19 (hp907.old 19 _ rfl rfl) (sC 20 (hp907.old 20 _ rfl rfl) (sC 21 (hp907.old 21 _ rfl rfl) (sC 22 (hp907.old 22 _ rfl rfl) (sC 25 (hp907.old 25 _ rfl rfl) (sC 26 (hp907.old 26 _ rfl rfl) (sC 27 (hp907.old 27 _ rfl rfl) (sC 28 (hp907.old 28 _ rfl rfl) (sC 29 (hp907.old 29 _ rfl rfl) (sC 30 (hp907.old 30 _ rfl rfl) (sC 31 (hp907.old 31 _ rfl rfl) (sC 32 (hp907.old 32 _ rfl rfl) (sC 33 (hp907.old 33 _ rfl rfl) (sC 34 (hp907.old 34 _ rfl rfl) (sC 44 (hp907.nt 2 44 rfl rfl rfl) (sC 45 (hp907.nt 3 45 rfl rfl rfl) (sC 46 (hp907.nt 4 46 rfl rfl rfl) (sC 47 (hp907.nt 5 47 rfl rfl rfl) (sC 48 (hp907.nt 6 48 rfl rfl rfl) (sC 49 (hp907.nt 7 49 rfl rfl rfl) (sC 50 (hp907.nt 8 50 rfl rfl rfl) (Sub.nil _))))))))))))))))))))))))))) (CW.region (sM rfl (sd rfl (yl_inc rfl rfl rfl oM (sA rfl (SeqR.done ?_)))))))))
         refine tn ?_
         have hB937 : B_s_l3Bytes_1 p_s p_more k5 k715 (x716) = .cont (decide (((p_s.getD k5 0).toNat : Int) = ((p_more.getD k715 0).toNat : Int))) := by simp only [B_s_l3Bytes_1, hb21, hb714, hb748, cL]
         exact ⟨p_more.length - (k715 + 1), oM, k715 + 1, decide (((p_s.getD k5 0).toNat : Int) = ((p_more.getD k715 0).toNat : Int)), rfl, hlt747, oM, rfl, rfl, rfl, rfl, rfl, rfl, rfl, rfl, rfl, rfl, rfl, rfl, rfl, rfl, rfl, rfl, rfl, rfl, rfl, (Ex.trans hf745 hE910), (loopM.cont hlt747 hB937).symm.trans hI724⟩
      ·refine CW.seq (cR (sM rfl (sM rfl (sd rfl (yl_slen un9 (a := p_more) rfl rfl (sd rfl (yl_lss rfl rfl rfl (dn ?_))))))))
       refine CW.cond_f rfl (lt_f hlt747) (CW.exit (tx (tx ?_)))
       have hL939 : loopM (B_s_l3Bytes_1 p_s p_more k5) (p_more.length - 0) 0 (decide (((p_s.getD k5 0).toNat : Int) ≤ 57)) = .done (x716) := hI724.symm.trans (loopM.stop hlt747)
       refine bx (tn (cR (sM rfl (sd rfl (yl_not rfl rfl (dn (bcase (x716) (fun hb940 => ?_) (fun hb940 => ?_))))))))
       ·refine CW.cond_f rfl (not_t hb940) (CW.skip (bn (tn (CW.region (sM rfl (sd rfl (yl_inc rfl rfl rfl oM (sA rfl (SeqR.done ?_)))))))))
        refine tn ?_
        have hB941 : B_s_l3Bytes_0 p_s p_more k5 () = .cont () := by simp only [B_s_l3Bytes_0, hb21, hb714, hb940, hL939, cL]
        exact ⟨p_s.length - (k5 + 1), oM, k5 + 1, rfl, hlt20, oM, rfl, rfl, rfl, hf745, (loopM.cont hlt20 hB941).symm.trans hI13⟩
       ·refine CW.cond_t rfl (not_f hb940) (cR (sA rfl (dn (CW.ret (br (tr ?_))))))
        refine tr ?_
        have hB943 : B_s_l3Bytes_0 p_s p_more k5 () = .ret false := by simp only [B_s_l3Bytes_0, hb21, hb714, hb940, hL939, cL]
        have hL942 : loopM (B_s_l3Bytes_0 p_s p_more) (p_s.length - 0) 0 () = .ret false := hI13.symm.trans (loopM.ret hlt20 hB943)
        refine br (tr (rr rfl (.cons rfl .nil) ?_))
        have hM944 : (s_l3Bytes p_s p_more) = (false) := by simp only [s_l3Bytes, hb21, hb714, hb940, hL939, hL942, cL]
        rw [hM944]
        exact ⟨rfl, hf745⟩
    ·have hb714p := dec_f hb714
     refine sz rfl rfl hb714 (sz rfl rfl hb714 (sz rfl rfl hb714 (sz rfl rfl hb714 (sy rfl rfl rfl (yl_pick_f rfl rfl hb714 rfl (sd rfl (yl_pick_f rfl rfl rfl rfl (sA rfl (dn ?_)))))))))
     refine CW.seq (cR (sA rfl (dn (CW.block (CW.loop (fun m947 L948 w949 => ∃ (k945 : Nat) (x946 : Bool), m947 = p_more.length - k945 ∧ k945 ≤ p_more.length ∧ w11.heap.size ≤ w949.heap.size ∧ lkp L948 0 = some (.string (bs (p_s))) ∧ lkp L948 1 = some (.string (bs (p_more))) ∧ lkp L948 5 = some (.int .i64 ((k5 : Int))) ∧ lkp L948 6 = some (.bool (x946)) ∧ lkp L948 7 = some (.int .i64 ((k945 : Int))) ∧ lkp L948 19 = some (undef) ∧ lkp L948 20 = some (undef) ∧ lkp L948 21 = some (undef) ∧ lkp L948 22 = some (undef) ∧ lkp L948 25 = some (.string (bs (p_s))) ∧ lkp L948 26 = some (.int .i64 ((k5 : Int))) ∧ lkp L948 27 = some (.int .u8 (((p_s.getD k5 0).toNat : Int))) ∧ lkp L948 28 = some (.bool (decide (48 ≤ ((p_s.getD k5 0).toNat : Int)))) ∧ lkp L948 29 = some (.bool (decide (48 ≤ ((p_s.getD k5 0).toNat : Int)))) ∧ lkp L948 30 = some (undef) ∧ lkp L948 31 = some (undef) ∧ lkp L948 32 = some (undef) ∧ lkp L948 33 = some (undef) ∧ lkp L948 34 = some (.bool (false)) ∧ Ex w w949 ∧ loopM (B_s_l3Bytes_1 p_s p_more k5) (p_more.length - k945) k945 (x946) = loopM (B_s_l3Bytes_1 p_s p_more k5) (p_more.length - 0) 0 (false)) (p_more.length - 0) ?_ ?_)))))
     ·exact ⟨0, false, rfl, oM, Nat.le_refl _, rfl, rfl, rfl, rfl, rfl, rfl, rfl, rfl, rfl, rfl, rfl, rfl, rfl, rfl, rfl, rfl, rfl, rfl, rfl, hf18, rfl⟩
     ·rintro m950 L951 w952 ⟨k945, x946, rfl, hk953, hsz955, hl956, hl957, hl958, hl959, hl960, hl961, hl962, hl963, hl964, hl965, hl966, hl967, hl968, hl969, hl970, hl971, hl972, hl973, hl974, hf975, hI954⟩
      refine CW.sub (Sub.cons hl956 (Sub.cons hl957 (Sub.cons hl958 (Sub.cons hl959 (Sub.cons hl960 (Sub.cons hl961 (Sub.cons hl962 (Sub.cons hl963 (Sub.cons hl964 (Sub.cons hl965 (Sub.cons hl966 (Sub.cons hl967 (Sub.cons hl968 (Sub.cons hl969 (Sub.cons hl970 (Sub.cons hl971 (Sub.cons hl972 (Sub.cons hl973 (Sub.cons hl974 (Sub.nil _)))))))))))))))))))) ?_
      have hf975z := Ex.size hf975
      have hbg976 : p_more.length ≤ 1073741824 := o2
      rcases Nat.lt_or_ge k945 p_more.length with hlt977 | hlt977
      ·refine CW.seq (cR (sM rfl (sM rfl (sd rfl (yl_slen un9 (a := p_more) rfl rfl (sd rfl (yl_lss rfl rfl rfl (dn ?_))))))))
       refine CW.cond_t rfl (lt_t hlt977) (CW.skip (tn (CW.seq (CW.block (bcase (x946) (fun hb978 => ?_) (fun hb978 => ?_))))))
       ·refine drI 11 [.bool (x946), .bool (x946), undef, undef, undef, undef, undef, undef, undef, .bool (true), .bool (true)] Tryz.follows rfl ⟨?_, ?_, ?_, ?_, ?_, ?_, ?_, ?_, ?_, ?_, ?_, trivial⟩ ?_
        ·exact oI rfl fun h => yM rfl (h.old 6 _ rfl rfl) kI
        ·exact oI rfl fun h => yM rfl (h.dt 0 42 rfl rfl rfl) kI
        ·exact oS rfl rfl rfl rfl rfl hb978
        ·exact oS rfl rfl rfl rfl rfl hb978
        ·exact oS rfl rfl rfl rfl rfl hb978
        ·exact oS rfl rfl rfl rfl rfl hb978
        ·exact oS rfl rfl rfl rfl rfl hb978
        ·exact oS rfl rfl rfl rfl rfl hb978
        ·exact oS rfl rfl rfl rfl rfl hb978
        ·exact oI rfl fun h => yl_pick_t rfl (h.dt 1 43 rfl rfl rfl) hb978 rfl kI
        ·exact oI rfl fun h => yA rfl (h.dt 9 51 rfl rfl rfl) kI
        ·intro fl1038 fh1039 L1035 w1036 hp1037
         have hE1040 := hp1037.ex
         have hE1040z := Ex.size hE1040
         refine SeqR.done (bn (tn (CW.sub (sC 0 (hp1037.old 0 _ rfl rfl) (sC 1 (hp1037.old 1 _ rfl rfl) (sC 5 (hp1037.old 5 _ rfl rfl) (sC 6 (hp1037.nt 10 6 rfl rfl rfl) (sC 7 (hp1037.old 7 _ rfl rfl) (sC 19 (hp1037.old 19 _ rfl rfl) (sC 20 (hp1037.old 20 _ rfl rfl) (sC 21 (hp1037.old 21 _ rfl rfl) (sC 22 (hp1037.old 22 _ rfl rfl) (sC 25 (hp1037.old 25 _ rfl rfl) (sC 26 (hp1037.old 26 _ rfl rfl) (sC 27 (hp1037.old 27 _ rfl rfl) (sC 28 (hp1037.old 28 _ rfl rfl) (sC 29 (hp1037.old 29 _ rfl rfl) (sC 30 (hp1037.old 30 _ rfl rfl) (sC 31 (hp1037.old 31 _ rfl rfl) (sC 32 (hp1037.old 32 _ rfl rfl) (sC 33 (hp1037.old 33 _ rfl rfl) (sC 34 (hp1037.old 34 _ rfl rfl) (sC 44 (hp1037.nt 2 44 rfl rfl rfl) (sC 45 (hp1037.nt 3 45 rfl rfl rfl) (sC 46 (hp1037.nt 4 46 rfl rfl rfl) (sC 47 (hp1037.nt 5 47 rfl rfl rfl) (sC 48 (hp1037.nt 6 48 rfl rfl rfl) (sC 49 (hp1037.nt 7 49 rfl rfl rfl) (sC 50 (hp1037.nt 8 50 rfl rfl rfl) (Sub.nil _))))))))))))))))))))))))))) (CW.region (sM rfl (sd rfl (yl_inc rfl rfl rfl oM (sA rfl (SeqR.done ?_)))))))))
         refine tn ?_
         have hB1067 : B_s_l3Bytes_1 p_s p_more k5 k945 (x946) = .cont (true) := by simp only [B_s_l3Bytes_1, hb21, hb714, hb978, cL]
         exact ⟨p_more.length - (k945 + 1), oM, k945 + 1, true, rfl, hlt977, oM, rfl, rfl, rfl, rfl, rfl, rfl, rfl, rfl, rfl, rfl, rfl, rfl, rfl, rfl, rfl, rfl, rfl, rfl, rfl, (Ex.trans hf975 hE1040), (loopM.cont hlt977 hB1067).symm.trans hI954⟩
       ·refine drI 11 [.bool (x946), .bool (x946), .string (bs (p_s)), .int .i64 ((k5 : Int)), .int .u8 (((p_s.getD k5 0).toNat : Int)), .string (bs (p_more)), .int .i64 ((k945 : Int)), .int .u8 (((p_more.getD k945 0).toNat : Int)), .bool (decide (((p_s.getD k5 0).toNat : Int) = ((p_more.getD k945 0).toNat : Int))), .bool (decide (((p_s.getD k5 0).toNat : Int) = ((p_more.getD k945 0).toNat : Int))), .bool (decide (((p_s.getD k5 0).toNat : Int) = ((p_more.getD k945 0).toNat : Int)))] Tryz.follows rfl ⟨?_, ?_, ?_, ?_, ?_, ?_, ?_, ?_, ?_, ?_, ?_, trivial⟩ ?_
        ·exact oI rfl fun h => yM rfl (h.old 6 _ rfl rfl) kI
        ·exact oI rfl fun h => yM rfl (h.dt 0 42 rfl rfl rfl) kI
        ·exact oW rfl rfl rfl rfl hb978 fun h => yM rfl (h.old 0 _ rfl rfl) kI
        ·exact oW rfl rfl rfl rfl hb978 fun h => yM rfl (h.old 5 _ rfl rfl) kI
        ·intro L1091 w1092 hi1093
         have hE1094 := hi1093.ex
         have hE1094z := Ex.size hE1094
         exact OpR.want rfl rfl (hi1093.dt 1 43 rfl rfl rfl) hb978 (Yl.sameI (yl_sindexN un9 (a := p_s) rfl (hi1093.dt 2 44 rfl rfl rfl) (hi1093.dt 3 45 rfl rfl rfl) Bo kI))
        ·exact oW rfl rfl rfl rfl hb978 fun h => yM rfl (h.old 1 _ rfl rfl) kI
        ·exact oW rfl rfl rfl rfl hb978 fun h => yM rfl (h.old 7 _ rfl rfl) kI
        ·intro L1110 w1111 hi1112
         have hE1113 := hi1112.ex
         have hE1113z := Ex.size hE1113
         exact OpR.want rfl rfl (hi1112.dt 1 43 rfl rfl rfl) hb978 (Yl.sameI (yl_sindexN un9 (a := p_more) rfl (hi1112.dt 5 47 rfl rfl rfl) (hi1112.dt 6 48 rfl rfl rfl) Bo kI))
        ·exact oW rfl rfl rfl rfl hb978 fun h => yl_eql rfl (h.dt 4 46 rfl rfl rfl) (h.dt 7 49 rfl rfl rfl) kI
        ·exact oI rfl fun h => yl_pick_f rfl (h.dt 1 43 rfl rfl rfl) hb978 (h.dt 8 50 rfl rfl rfl) kI
        ·exact oI rfl fun h => yA rfl (h.dt 9 51 rfl rfl rfl) kI
        ·intro fl1138 fh1139 L1135 w1136 hp1137
         have hE1140 := hp1137.ex
         have hE1140z := Ex.size hE1140
         refine SeqR.done (bn (tn (CW.sub (sC 0 (hp1137.old 0 _ rfl rfl) (sC 1 (hp1137.old 1 _ rfl rfl) (sC 5 (hp1137.old 5 _ rfl rfl) (sC 6 (hp1137.nt 10 6 rfl rfl rfl) (sC 7 (hp1137.old 7 _ rfl rfl) (sC 19 (hp1137.old 19 _ rfl rfl) (sC 20 (hp1137.old 20 _ rfl rfl) (sC 21 (hp1137.old 21 _ rfl rfl) (sC 22 (hp1137.old 22 _ rfl rfl) (sC 25 (hp1137.old 25 _ rfl rfl) (sC 26 (hp1137.old 26 _ rfl rfl) (sC 27 (hp1137.old 27 _ rfl rfl) (sC 28 (hp1137.old 28 _ rfl rfl) (sC 29 (hp1137.old 29 _ rfl rfl) (sC 30 (hp1137.old 30 _ rfl rfl) (sC 31 (hp1137.old 31 _ rfl rfl) (sC 32 (hp1137.old 32 _ rfl rfl) (sC 33 (hp1137.old 33 _ rfl rfl) (sC 34 (hp1137.old 34 _ rfl rfl) (sC 44 (hp1137.nt 2 44 rfl rfl rfl) (sC 45 (hp1137.nt 3 45 rfl rfl rfl) (sC 46 (hp1137.nt 4 46 rfl rfl rfl) (sC 47 (hp1137.nt 5 47 rfl rfl rfl) (sC 48 (hp1137.nt 6 48 rfl rfl rfl) (sC 49 (hp1137.nt 7 49 rfl rfl rfl) (sC 50 (hp1137.nt 8 50 rfl rfl rfl) (Sub.nil _))))))))))))))))))))))))))) (CW.region (sM rfl (sd rfl (yl_inc rfl rfl rfl oM (sA rfl (SeqR.done ?_)))))))))
         refine tn ?_
         have hB1167 : B_s_l3Bytes_1 p_s p_more k5 k945 (x946) = .cont (decide (((p_s.getD k5 0).toNat : Int) = ((p_more.getD k945 0).toNat : Int))) := by simp only [B_s_l3Bytes_1, hb21, hb714, hb978, cL]
         exact ⟨p_more.length - (k945 + 1), oM, k945 + 1, decide (((p_s.getD k5 0).toNat : Int) = ((p_more.getD k945 0).toNat : Int)), rfl, hlt977, oM, rfl, rfl, rfl, rfl, rfl, rfl, rfl, rfl, rfl, rfl, rfl, rfl, rfl, rfl, rfl, rfl, rfl, rfl, rfl, (Ex.trans hf975 hE1140), (loopM.cont hlt977 hB1167).symm.trans hI954⟩
      ·refine CW.seq (cR (sM rfl (sM rfl (sd rfl (yl_slen un9 (a := p_more) rfl rfl (sd rfl (yl_lss rfl rfl rfl (dn ?_))))))))
       refine CW.cond_f rfl (lt_f hlt977) (CW.exit (tx (tx ?_)))
       have hL1169 : loopM (B_s_l3Bytes_1 p_s p_more k5) (p_more.length - 0) 0 (false) = .done (x946) := hI954.symm.trans (loopM.stop hlt977)
       refine bx (tn (cR (sM rfl (sd rfl (yl_not rfl rfl (dn (bcase (x946) (fun hb1170 => ?_) (fun hb1170 => ?_))))))))
       ·refine CW.cond_f rfl (not_t hb1170) (CW.skip (bn (tn (CW.region (sM rfl (sd rfl (yl_inc rfl rfl rfl oM (sA rfl (SeqR.done ?_)))))))))
        refine tn ?_
        have hB1171 : B_s_l3Bytes_0 p_s p_more k5 () = .cont () := by simp only [B_s_l3Bytes_0, hb21, hb714, hb1170, hL1169, cL]
        exact ⟨p_s.length - (k5 + 1), oM, k5 + 1, rfl, hlt20, oM, rfl, rfl, rfl, hf975, (loopM.cont hlt20 hB1171).symm.trans hI13⟩
       ·refine CW.cond_t rfl (not_f hb1170) (cR (sA rfl (dn (CW.ret (br (tr ?_))))))
        refine tr ?_
        have hB1173 : B_s_l3Bytes_0 p_s p_more k5 () = .ret false := by simp only [B_s_l3Bytes_0, hb21, hb714, hb1170, hL1169, cL]
        have hL1172 : loopM (B_s_l3Bytes_0 p_s p_more) (p_s.length - 0) 0 () = .ret false := hI13.symm.trans (loopM.ret hlt20 hB1173)
        refine br (tr (rr rfl (.cons rfl .nil) ?_))
        have hM1174 : (s_l3Bytes p_s p_more) = (false) := by simp only [s_l3Bytes, hb21, hb714, hb1170, hL1169, hL1172, cL]
        rw [hM1174]
        exact ⟨rfl, hf975⟩
  ·refine CW.seq (cR (sM rfl (sM rfl (sd rfl (yl_slen un9 (a := p_s) rfl rfl (sd rfl (yl_lss rfl rfl rfl (dn ?_))))))))
   refine CW.cond_f rfl (lt_f hlt20) (CW.exit (tx (tx ?_)))
   have hL1175 : loopM (B_s_l3Bytes_0 p_s p_more) (p_s.length - 0) 0 () = .done () := hI13.symm.trans (loopM.stop hlt20)
   refine bx (tn (cR (sA rfl (dn (CW.ret (rr rfl (.cons rfl .nil) ?_))))))
   have hM1176 : (s_l3Bytes p_s p_more) = (true) := by simp only [s_l3Bytes, hL1175, cL]
   rw [hM1176]
   exact ⟨rfl, hf18⟩
theorem c_s_l25Field {w : World} (p_s : Str) (o1 : okS p_s) : Cal Tryz.prog 41 #[.string (bs (p_s))] w fun v w' => v = .bool ((s_l25Field p_s)) ∧ Ex w w' := by
 refine Cal.of func41 rfl ntmps41 rfl (cR (sA rfl (dn (cR (sM rfl ?_)))))
 refine sd rfl (yl_slen un9 (a := p_s) rfl rfl (sd rfl (yC en75 rfl (oc rfl (oc rfl (oc rfl oz))) (Cal.mono (c_s_l1In (p_s.length : Int) 1 3) ?_))))
 rintro v4 w3 ⟨rfl, hE5⟩
 refine sM rfl (bcase (s_l1In (p_s.length : Int) 1 3) (fun hb6 => ?_) (fun hb6 => ?_))
 ·have hb6p := f_l1In hb6
  refine sy rfl rfl hb6 (yM rfl rfl (sy rfl rfl hb6 (yC en76 rfl (oc rfl (oc rfl oz)) (Cal.mono (c_s_l3Bytes p_s ([] : Str) o1 (okS.lit rfl)) ?_))))
  rintro v8 w7 ⟨rfl, hE9⟩
  refine sd rfl (yl_pick_t rfl rfl hb6 rfl (sA rfl (dn (CW.ret (rr rfl (.cons rfl .nil) ?_)))))
  have hM10 : (s_l25Field p_s) = ((s_l3Bytes p_s ([] : Str))) := by simp only [s_l25Field, hb6, cL]
  rw [hM10]
  exact ⟨rfl, (Ex.trans (Ex.trans (Ex.refl w) hE5) hE9)⟩
 ·refine sz rfl rfl hb6 (sz rfl rfl hb6 (sd rfl (yl_pick_f rfl rfl hb6 rfl (sA rfl (dn (CW.ret (rr rfl (.cons rfl .nil) ?_)))))))
  have hM13 : (s_l25Field p_s) = (false) := by simp only [s_l25Field, hb6, cL]
  rw [hM13]
  exact ⟨rfl, (Ex.trans (Ex.refl w) hE5)⟩
theorem c_s_l25Good {A1 : Option Addr} {c1 : Nat} {A2 : Option Addr} {c2 : Nat} {A4 : Option Addr} {c4 : Nat} {w : World} (p_t : DTable) (p_r : DRow) (h1 : RdS w (Iv 0 w.heap.size) (RF e_Str) 1 A1 p_t.Cols.length c1 p_t.Cols) (h2 : RdS w (Iv 0 w.heap.size) (RF e_Idx) 3 A2 p_t.Idxs.length c2 p_t.Idxs) (h4 : RdS w (Iv 0 w.heap.size) (RF e_Str) 1 A4 p_r.Vals.length c4 p_r.Vals) (o3 : ok_Table p_t) (o5 : ok_Row p_r) : Cal Tryz.prog 19 #[.agg #[.string (bs (p_t.Name)), .slice A1 p_t.Cols.length c1, .slice A2 p_t.Idxs.length c2], .agg #[.slice A4 p_r.Vals.length c4]] w fun v w' => v = .bool ((s_l25Good p_t p_r)) ∧ Ex w w' := by
 have hol6 : p_t.Name.length ≤ 1073741824 := o3.1
 have hol7 := o3.2.1.1
 have hol8 := o3.2.2.1
 have hol9 := o5.1
 refine Cal.of func19 rfl ntmps19 rfl (cR (sd rfl (yl_box rfl rfl rfl ?_)))
 intro b10 w11 hs12 hz13 hB14 hE15
 refine sd rfl (yl_box rfl rfl rfl ?_)
 intro b16 w17 hs18 hz19 hB20 hE21
 refine sA rfl (dn (CW.seq (cR (sd rfl (yl_fieldAddr fd28_0 rfl rfl (sd rfl (yl_load1 ty23 rfl rfl ((hB20.cell 0).trans rfl) (sd rfl (yL un23 rfl rfl ?_)))))))))
 refine sM rfl (dn (CW.block (CW.loop (fun m23 L24 w25 => ∃ (k22 : Nat), m23 = p_r.Vals.length - k22 ∧ k22 ≤ p_r.Vals.length ∧ w17.heap.size ≤ w25.heap.size ∧ lkp L24 2 = some (.pointer (some ⟨b10, 0, none⟩)) ∧ lkp L24 3 = some (.pointer (some ⟨b16, 0, none⟩)) ∧ lkp L24 8 = some (.slice A4 p_r.Vals.length c4) ∧ lkp L24 9 = some (.int .i64 ((p_r.Vals.length : Int))) ∧ lkp L24 10 = some (.int .i64 ((k22 : Int))) ∧ Box w25 b10 26 [.string (bs (p_t.Name)), .slice A1 p_t.Cols.length c1, .slice A2 p_t.Idxs.length c2] ∧ RdS w25 (Iv 0 w.heap.size) (RF e_Str) 1 A1 p_t.Cols.length c1 p_t.Cols ∧ RdS w25 (Iv 0 w.heap.size) (RF e_Idx) 3 A2 p_t.Idxs.length c2 p_t.Idxs ∧ Box w25 b16 28 [.slice A4 p_r.Vals.length c4] ∧ RdS w25 (Iv 0 w.heap.size) (RF e_Str) 1 A4 p_r.Vals.length c4 p_r.Vals ∧ Ex w w25 ∧ loopM (B_s_l25Good_0 p_t p_r) (p_r.Vals.length - k22) k22 () = loopM (B_s_l25Good_0 p_t p_r) (p_r.Vals.length - 0) 0 ()) (p_r.Vals.length - 0) ?_ ?_)))
 ·exact ⟨0, rfl, oM, Nat.le_refl _, rfl, rfl, rfl, rfl, rfl, (Box.ex hB14 hE21), (RdS.ex gS (RdS.ex gS h1 hE15) hE21), (RdS.ex gI (RdS.ex gI h2 hE15) hE21), hB20, (RdS.ex gS (RdS.ex gS h4 hE15) hE21), (Ex.trans (Ex.trans (Ex.refl w) hE15) hE21), rfl⟩
 ·rintro m35 L36 w37 ⟨k22, rfl, hk38, hsz40, hl41, hl42, hl43, hl44, hl45, hf46, hf47, hf48, hf49, hf50, hf51, hI39⟩
  refine CW.sub (Sub.cons hl41 (Sub.cons hl42 (Sub.cons hl43 (Sub.cons hl44 (Sub.cons hl45 (Sub.nil _)))))) ?_
  have hf46z := Box.lt hf46
  have hf49z := Box.lt hf49
  have hf51z := Ex.size hf51
  have hbg52 := RdS.big hf50
  rcases Nat.lt_or_ge k22 p_r.Vals.length with hlt53 | hlt53
  ·refine cR (sd rfl (yl_lss rfl rfl rfl (dn (CW.seq (CW.cond_t rfl (lt_t hlt53) (CW.skip (tn ?_)))))))
   refine CW.seq (CW.block (cR ?_))
   obtain ⟨eb54, eo54, _, eA54, _, ebl54, _, eR54, eC54⟩ := RdS.aD hf50 d_Str (i := k22)
   obtain rfl := eR54
   have eC54 : Cells w37 eb54 (eo54 + k22 * 1) [.string (bs ((p_r.Vals.getD k22 d_Str)))] := eC54
   refine sd rfl (yl_ixN un23 ty9 rfl rfl rfl eA54 (sd rfl (yl_load1 ty9 rfl rfl (eC54 0 _ rfl) (sA rfl (dn (cR (sM rfl (sd rfl (yC en41 rfl (oc rfl oz) (Cal.mono (c_s_l25Field (p_r.Vals.getD k22 d_Str) (okL.getD o5 ok_d_Str _)) ?_))))))))))
   rintro v56 w55 ⟨rfl, hE57⟩
   have hE57z := Ex.size hE57
   refine sd rfl (yl_not rfl rfl (dn (bcase (s_l25Field (p_r.Vals.getD k22 d_Str)) (fun hb58 => ?_) (fun hb58 => ?_))))
   ·refine CW.cond_f rfl (not_t hb58) (CW.skip (bn (tn (CW.region (sd rfl (yl_inc rfl rfl rfl oM (sM rfl (dn ?_))))))))
    have hB59 : B_s_l25Good_0 p_t p_r k22 () = .cont () := by simp only [B_s_l25Good_0, hb58, cL]
    exact ⟨p_r.Vals.length - (k22 + 1), oM, k22 + 1, rfl, hlt53, oM, rfl, rfl, rfl, rfl, rfl, (Box.ex hf46 hE57), (RdS.ex gS hf47 hE57), (RdS.ex gI hf48 hE57), (Box.ex hf49 hE57), (RdS.ex gS hf50 hE57), (Ex.trans hf51 hE57), (loopM.cont hlt53 hB59).symm.trans hI39⟩
   ·refine CW.cond_t rfl (not_f hb58) (cR (sA rfl (dn (CW.ret (br (tr ?_))))))
    refine tr ?_
    have hB67 : B_s_l25Good_0 p_t p_r k22 () = .ret false := by simp only [B_s_l25Good_0, hb58, cL]
    have hL66 : loopM (B_s_l25Good_0 p_t p_r) (p_r.Vals.length - 0) 0 () = .ret false := hI39.symm.trans (loopM.ret hlt53 hB67)
    refine br (tr (rr rfl (.cons rfl .nil) ?_))
    have hM68 : (s_l25Good p_t p_r) = (false) := by simp only [s_l25Good, hb58, hL66, cL]
    rw [hM68]
    exact ⟨rfl, (Ex.trans hf51 hE57)⟩
  ·refine cR (sd rfl (yl_lss rfl rfl rfl (dn (CW.seq (CW.cond_f rfl (lt_f hlt53) (CW.exit (tx ?_)))))))
   refine tx ?_
   have hL70 : loopM (B_s_l25Good_0 p_t p_r) (p_r.Vals.length - 0) 0 () = .done () := hI39.symm.trans (loopM.stop hlt53)
   refine bx (tn (cR (sd rfl (yl_fieldAddr fd28_0 rfl rfl (sd rfl (yl_load1 ty23 rfl rfl ((hf49.cell 0).trans rfl) (sd rfl (yL un23 rfl rfl (sd rfl (yl_fieldAddr fd26_1 rfl rfl (sd rfl (yl_load1 ty23 rfl rfl ((hf46.cell 1).trans rfl) ?_))))))))))))
   refine sd rfl (yL un23 rfl rfl (sd rfl (yl_eql rfl rfl rfl (sA rfl (dn (CW.ret (rr rfl (.cons rfl .nil) ?_)))))))
   have hM71 : (s_l25Good p_t p_r) = (decide ((p_r.Vals.length : Int) = (p_t.Cols.length : Int))) := by simp only [s_l25Good, hL70, cL]
   rw [hM71]
   exact ⟨rfl, hf51⟩
theorem c_s_l24Join {A1 : Option Addr} {c1 : Nat} {w : World} (p_l : List Str) (p_by : Str) (h1 : RdS w (Iv 0 w.heap.size) (RF e_Str) 1 A1 p_l.length c1 p_l) (o2 : (okL okS) p_l) (o3 : okS p_by) : Cal Tryz.prog 48 #[.slice A1 p_l.length c1, .string (bs (p_by))] w fun v w' => v = .string (bs ((s_l24Join p_l p_by))) ∧ Ex w w' := by
 have hol4 := o2.1
 have hol5 : p_by.length ≤ 1073741824 := o3
 refine Cal.of func48 rfl ntmps48 rfl (cR (sA rfl (dn (cR (sA rfl ?_)))))
 refine dn (CW.seq (cR (sM rfl (sd rfl (yL un23 rfl rfl (sM rfl (SeqR.done ?_)))))))
 refine tn (CW.block (CW.loop (fun m15 L16 w17 => ∃ (k6 : Nat) (x14 : Str), m15 = p_l.length - k6 ∧ k6 ≤ p_l.length ∧ w.heap.size ≤ w17.heap.size ∧ lkp L16 1 = some (.string (bs (p_by))) ∧ lkp L16 5 = some (.string (bs (x14))) ∧ lkp L16 8 = some (.slice A1 p_l.length c1) ∧ lkp L16 9 = some (.int .i64 ((p_l.length : Int))) ∧ lkp L16 10 = some (.int .i64 ((k6 : Int))) ∧ RdS w17 (Iv 0 w.heap.size) (RF e_Str) 1 A1 p_l.length c1 p_l ∧ Ex w w17 ∧ x14.length ≤ 0 + 2147483648 * (k6 - 0) ∧ loopM (B_s_l24Join_0 p_l p_by) (p_l.length - k6) k6 (x14) = loopM (B_s_l24Join_0 p_l p_by) (p_l.length - 0) 0 (([] : Str))) (p_l.length - 0) ?_ ?_))
 ·exact ⟨0, ([] : Str), rfl, oM, Nat.le_refl _, rfl, rfl, rfl, rfl, rfl, h1, (Ex.refl w), (by first | (simp; done) | (first | omega | (simp only [lN, toS_length]; omega))), rfl⟩
 ·rintro m18 L19 w20 ⟨k6, x14, rfl, hk21, hsz23, hl24, hl25, hl26, hl27, hl28, hf29, hf30, hln31, hI22⟩
  refine CW.sub (Sub.cons hl24 (Sub.cons hl25 (Sub.cons hl26 (Sub.cons hl27 (Sub.cons hl28 (Sub.nil _)))))) ?_
  have hf30z := Ex.size hf30
  have hbg32 := RdS.big hf29
  rcases Nat.lt_or_ge k6 p_l.length with hlt33 | hlt33
  ·refine cR (sd rfl (yl_lss rfl rfl rfl (dn (CW.seq (CW.cond_t rfl (lt_t hlt33) (CW.skip (tn ?_)))))))
   refine CW.seq (CW.block (cR (sM rfl ?_)))
   obtain ⟨eb34, eo34, _, eA34, _, ebl34, _, eR34, eC34⟩ := RdS.aD hf29 d_Str (i := k6)
   obtain rfl := eR34
   have eC34 : Cells w20 eb34 (eo34 + k6 * 1) [.string (bs ((p_l.getD k6 d_Str)))] := eC34
   refine sd rfl (yl_ixN un23 ty9 rfl rfl rfl eA34 (sd rfl (yl_load1 ty9 rfl rfl (eC34 0 _ rfl) (sA rfl (sA rfl (dn (CW.seq (cR ?_))))))))
   refine sM rfl (sd rfl (yl_gtr rfl rfl rfl (dn (bcase (decide (0 < (k6 : Int))) (fun hb35 => ?_) (fun hb35 => ?_)))))
   ·have hb35p := dec_t hb35
    refine CW.cond_t rfl hb35 (CW.region (sM rfl (sM rfl ?_)))
    have hol36 : p_by.length ≤ 1073741824 := o3
    refine sd rfl (yl_sadd (a := x14) (b := p_by) rfl rfl rfl Bl (sA rfl (dn (CW.region (sM rfl (sM rfl ?_))))))
    have hol37 : p_by.length ≤ 1073741824 := o3
    have hol38 : (p_l.getD k6 d_Str).length ≤ 1073741824 := (okL.getD o2 ok_d_Str _)
    refine sd rfl (yl_sadd (a := (x14 ++ p_by)) (b := (p_l.getD k6 d_Str)) rfl rfl rfl Bl (sA rfl (SeqR.done (bn (tn (CW.region (sd rfl (yl_inc rfl rfl rfl oM (sM rfl (SeqR.done ?_))))))))))
    refine tn ?_
    have hB39 : B_s_l24Join_0 p_l p_by k6 (x14) = .cont ((x14 ++ p_by) ++ (p_l.getD k6 d_Str)) := by simp only [B_s_l24Join_0, hb35, cL]
    exact ⟨p_l.length - (k6 + 1), oM, k6 + 1, (x14 ++ p_by) ++ (p_l.getD k6 d_Str), rfl, hlt33, oM, rfl, rfl, rfl, rfl, rfl, hf29, hf30, Bl, (loopM.cont hlt33 hB39).symm.trans hI22⟩
   ·have hb35p := dec_f hb35
    refine CW.cond_f rfl hb35 (CW.skip (tn (CW.region (sM rfl (sM rfl ?_)))))
    have hol40 : (p_l.getD k6 d_Str).length ≤ 1073741824 := (okL.getD o2 ok_d_Str _)
    refine sd rfl (yl_sadd (a := x14) (b := (p_l.getD k6 d_Str)) rfl rfl rfl Bl (sA rfl (SeqR.done (bn (tn (CW.region (sd rfl (yl_inc rfl rfl rfl oM (sM rfl (SeqR.done ?_))))))))))
    refine tn ?_
    have hB41 : B_s_l24Join_0 p_l p_by k6 (x14) = .cont (x14 ++ (p_l.getD k6 d_Str)) := by simp only [B_s_l24Join_0, hb35, cL]
    exact ⟨p_l.length - (k6 + 1), oM, k6 + 1, x14 ++ (p_l.getD k6 d_Str), rfl, hlt33, oM, rfl, rfl, rfl, rfl, rfl, hf29, hf30, Bl, (loopM.cont hlt33 hB41).symm.trans hI22⟩
  ·refine cR (sd rfl (yl_lss rfl rfl rfl (dn (CW.seq (CW.cond_f rfl (lt_f hlt33) (CW.exit (tx ?_)))))))
   refine tx ?_
   have hL42 : loopM (B_s_l24Join_0 p_l p_by) (p_l.length - 0) 0 (([] : Str)) = .done (x14) := hI22.symm.trans (loopM.stop hlt33)
   refine bx (tn (cR (sM rfl (sA rfl (dn (CW.ret ?_))))))
   refine rr rfl (.cons rfl .nil) ?_
   have hM43 : (s_l24Join p_l p_by) = (x14) := by simp only [s_l24Join, hL42, cL]
   rw [hM43]
   exact ⟨rfl, hf30⟩
end Go.Proofs.YtfcofekfcmidoaaGreatDoor
